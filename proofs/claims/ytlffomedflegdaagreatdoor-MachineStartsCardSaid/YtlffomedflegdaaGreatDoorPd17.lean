/- Part 17 of the proof: Qe, Qf, Sa, Sb, Sc, Sd, Sf, Sg, Sh, Se. -/
import Derived.Test.YtlffomedflegdaaGreatDoorPd16
set_option linter.all false
set_option maxHeartbeats 16000000
set_option maxRecDepth 100000
namespace Go.Proofs.YtlffomedflegdaaGreatDoor
open Go.Proofs.Tryz
open Go.RowKit
open Go.Value renaming int→cI,string→cS,slice→cY,bool→cE
open Go.IntKind renaming i64→cJ
open Option renaming some→cP,none→cX
open Bool renaming false→cA,true→cC
variable {i n:Nat}{r:Option Nat}{u1 u2 u3 v:Value}{w w0:World}
theorem Xm(h0:AA6 w0 w){x y:Pg}{u4:Value}(hv:Cj w0 v x u1 u2 u3 u4){v' y1 y2 y3 y4:Value}(hv':Cj w0 v' y y1 y2 y3 y4):Calls prog 124 #[v,v'] w λe w'=>IC (x=y) e/\AA6 w w':=by
 obtain⟨rfl,hc,hg,hx,hf⟩:=hv;obtain⟨rfl,hc',hg',hx',hf'⟩:=hv';have hA:=λW (hW:AA6 w0 W)=>I5 hW hg hg';obtain⟨p1,k1,rfl,-,hn1,hc⟩:=hc;obtain⟨q1,l1,rfl,-,hm1,hc'⟩:=hc';obtain⟨p2,k2,rfl⟩:=hg.slice;obtain⟨q2,l2,rfl⟩:=hg'.slice;obtain⟨p3,k3,rfl,-,QY,hx⟩:=hx;obtain⟨q3,l3,rfl,-,vG,hx'⟩:=hx';obtain⟨p4,k4,rfl,-,iH,hf⟩:=hf;obtain⟨q4,l4,rfl,-,hm4,hf'⟩:=hf';clear hg hg';have hb1:=AJ w (.cells #[cE x.ssa,cY p1 x.cs.length k1,cY p2 x.gs.length k2,cY p3 x.xs.length k3,cY p4 x.fs.length k4] 27);have hb2:=hb1.alloc hb1.size (.cells #[cE y.ssa,cY q1 y.cs.length l1,cY q2 y.gs.length l2,cY q3 y.xs.length l3,cY q4 y.fs.length l4] 27);have hX:=(Ae.alloc w [cE x.ssa,cY p1 x.cs.length k1,cY p2 x.gs.length k2,cY p3 x.xs.length k3,cY p4 x.fs.length k4] 27).al (.cells #[cE y.ssa,cY q1 y.cs.length l1,cY q2 y.gs.length l2,cY q3 y.xs.length l3,cY q4 y.fs.length l4] 27);have hY:=Ae.alloc (w.alloc (.cells #[cE x.ssa,cY p1 x.cs.length k1,cY p2 x.gs.length k2,cY p3 x.xs.length k3,cY p4 x.fs.length k4] 27)) [cE y.ssa,cY q1 y.cs.length l1,cY q2 y.gs.length l2,cY q3 y.xs.length l3,cY q4 y.fs.length l4] 27;have z1:(w.alloc (.cells #[cE x.ssa,cY p1 x.cs.length k1,cY p2 x.gs.length k2,cY p3 x.xs.length k3,cY p4 x.fs.length k4] 27)).heap.size=w.heap.size+1:=by simp
 rw[z1]at hY;clear hb1 z1;obtain⟨sx,hsx⟩:∃sx,sx=x.ssa:=⟨_,rfl⟩;obtain⟨sy,hsy⟩:∃sy,sy=y.ssa:=⟨_,rfl⟩;rw[<-hsx,<-hsy]at hb2 hX hY⊢;replace hsx:=Wx hsx;replace hsy:=Wx hsy;go_enter func124,ntmps124;go_upto_region 1 with fail;generalize Cr:(w.alloc _).alloc _=W at*;clear Cr;go_cut[47]from 8 to 46 (λv wx=>∃r:Bool,v=cE r/\(r=cA->HdP x y)/\(r=cC->x≠y)/\AA6 W wx)
 ·have hA1:=hA _ (AB h0 hb2);obtain⟨a0,a1,a2⟩:=hX.c3;obtain⟨b0,b1,b2⟩:=hY.c3;clear hc hc' hx hx' hf hf' hA hn1 hm1 QY vG iH hm4;by_cases hs:sx=sy;rotate_left
  ·cases sx<;>cases sy<;>first|exact absurd rfl hs|((go_wp2_with fail;go_meet;(case rel=>exact⟨_,rfl,(λh=>by cases h),(λ_=>(λe=>by have h1:=hsx.out;have h2:=hsy.out;rw[e,<-h2]at h1;cases h1)),(AL)⟩)))
  subst hs;have qD:=Wx (hsx.out.symm.trans hsy.out)
  cases e2:((x.cs.length:Int) !=(y.cs.length:Int))with
  |true=>(go_wp2_with fail;go_meet;(case rel=>exact⟨_,rfl,(λh=>by cases h),(λ_=>(λe=>by rw[e]at e2;simp at e2)),(AL)⟩))
  |false=>
  go_wp2_with fail;refine hA1.mono ?_;rintro e w1 ⟨⟨r,rfl,hr,hr'⟩,hb3⟩;replace hr:=Wx hr;replace hr':=Wx hr';clear hA1;cases r
  ·(go_wp2_with fail;go_meet;(case rel=>exact⟨_,rfl,(λh=>by cases h),(λ_=>(λe=>hr'.out (by trivial) (by rw[e]))),(hb3)⟩))
  have hX1:=hX.nx hb3;have nG:=hY.nx hb3;obtain⟨-,-,-,a3,a4⟩:=hX1.c5;obtain⟨-,-,-,b3,b4⟩:=nG.c5;clear hX hY
  cases e5:((x.xs.length:Int) !=(y.xs.length:Int))with
  |true=>(go_wp2_with fail;go_meet;(case rel=>exact⟨_,rfl,(λh=>by cases h),(λ_=>(λe=>by rw[e]at e5;simp at e5)),(hb3)⟩))
  |false=>
  cases e6:((x.fs.length:Int) !=(y.fs.length:Int))with
  |true=>(go_wp2_with fail;go_meet;(case rel=>exact⟨_,rfl,(λh=>by cases h),(λ_=>(λe=>by rw[e]at e6;simp at e6)),(hb3)⟩))
  |false=>
  have hH:HdP x y:=⟨qD.out,Y5 e2,hr.out (by trivial),Y5 e5,Y5 e6⟩;go_wp2;go_meet;exact⟨_,rfl,(λ_=>hH),(λh=>by cases h),hb3⟩
 obtain⟨r,rfl,hr,hr',hb3⟩:=hcut;obtain⟨w1,rfl⟩:=again wc;have hb5:=AB hb2 hb3;replace hX:=hX.nx hb3;replace hY:=hY.nx hb3;clear hb2 hb3 hA;cases r;rotate_left
 ·have hne:=Wx (hr' rfl);clear hr hr' hc hc' hx hx' hf hf';(go_wp2_with fail;go_ret;exact⟨Bj (hne.out),(hb5)⟩)
 have hH:=hr rfl;clear hr hr';have hcl:=Wx hH.c;have hxl:=Wx hH.m;have hfl:=Wx hH.f;go_wp2;go_loopw[5] (λi wr=>∃q:Nat,q<=x.cs.length/\i=cI cJ (q:Int)/\Hid (x.cs.take q=y.cs.take q)/\AA6 w1 wr) (λi _=>x.cs.length-(intOf i).toNat);exact⟨0,AY,rfl,Wx (by simp),AL⟩;obtain⟨q,hq,rfl,hT,hb⟩:=hrel;replace hX:=hX.nx hb;replace hY:=hY.nx hb;have x1:=hX.c 1 _ rfl;have y1:=hY.c 1 _ rfl;have hb6:=AB hb5 hb;by_cases hend:q=x.cs.length
 ·subst hend;have hCC:x.cs=y.cs:=Cz hT.out hcl.out;replace hCC:=Wx hCC;clear hc hc' hb hb5 hT;go_wp2;clear x1 y1;obtain⟨wo,rfl⟩:=again wr;go_loopw[6] (λi wr=>∃q:Nat,q<=x.xs.length/\i=cI cJ (q:Int)/\Hid (x.xs.take q=y.xs.take q)/\AA6 wo wr) (λi _=>x.xs.length-(intOf i).toNat);exact⟨0,AY,rfl,Wx (by simp),AL⟩;obtain⟨q,hq,rfl,hT,hb⟩:=hrel;replace hX:=hX.nx hb;replace hY:=hY.nx hb;have x3:=hX.c 3 _ rfl;have y3:=hY.c 3 _ rfl;have BJ:=AB hb6 hb;by_cases hend:q=x.xs.length
  ·subst hend;have hXX:x.xs=y.xs:=Cz hT.out hxl.out;replace hXX:=Wx hXX;clear hx hx' hb hb6 hT;go_wp2;clear x3 y3;obtain⟨wp,rfl⟩:=again wr;go_loopw[7] (λi wr=>∃q:Nat,q<=x.fs.length/\i=cI cJ (q:Int)/\Hid (x.fs.take q=y.fs.take q)/\AA6 wp wr) (λi _=>x.fs.length-(intOf i).toNat);exact⟨0,AY,rfl,Wx (by simp),AL⟩;obtain⟨q,hq,rfl,hT,hb⟩:=hrel;replace hX:=hX.nx hb;replace hY:=hY.nx hb;have x4:=hX.c 4 _ rfl;have y4:=hY.c 4 _ rfl;have Bp:=AB BJ hb;clear hX hY;by_cases hend:q=x.fs.length
   ·subst hend;have TK:x=y:=hH.eq hCC.out hXX.out (Cz hT.out hfl.out);replace TK:=Wx TK;clear hf hf' hb BJ hT;go_wp2;go_ret;exact⟨Ir TK.out,Bp⟩
   ·have hlt:q<x.fs.length:=(by omega);have A8:(q:Int)<x.fs.length:=(by omega);have hlt':q<y.fs.length:=(by have:=hfl.out;omega);have JJ:(q:Int)<y.fs.length:=(by omega);obtain⟨b,rfl,hI0⟩:=hf q x.fs[q] (by simp[hlt]);obtain⟨b',rfl,jN⟩:=hf' q y.fs[q] (by simp[hlt']);clear hf hf';obtain⟨t1,t2,t3,hI,c0,c1,c2,c3,c4⟩:=hI0.val;obtain⟨s1,s2,s3,hI',d0,d1,d2,d3,d4⟩:=jN.val;have hk:=AB h0 Bp;have hS:=λW (hW:AA6 wr W)=>Xn (AB hk hW) hI hI';have hN:x.fs[q]=y.fs[q]->x.fs.take (q+1)=y.fs.take (q+1):=λh=>Cy hT.out hlt hlt' h;have hM:x.fs[q]≠y.fs[q]->x≠y:=λh e=>by
     subst e;exact h rfl
    clear hI hI' hI0 jN hT hH;have c0:=AA hk c0;have c1:=AA hk c1;have c2:=AA hk c2;have c3:=AA hk c3;have c4:=AA hk c4;have d0:=AA hk d0;have d1:=AA hk d1;have d2:=AA hk d2;have d3:=AA hk d3;have d4:=AA hk d4;generalize x.fs[q]=m1 at*;generalize y.fs[q]=m2 at*;have J9:=(Below.refl wr.heap.size wr).drew;clear hk;by_cases hm:m1=m2
    ·have hS1:∀W,AA6 wr W->Calls prog 177 #[.agg #[cS m1.n,cS m1.r,t1,t2,t3],.agg #[cS m2.n,cS m2.r,s1,s2,s3]] W λe w'=>e=.returned (cE cC)/\AA6 W w':=λW hW=>(hS W hW).mono λ_ _ h=>⟨h.1.yes hm,h.2⟩;have hN1:=Wx (hN hm);clear hS hN hM hm;go_wp2;refine ALQ (S:=λ_ v=>AA6 wr v) J9 ?_;(iterate 12(first|(refine Ab.f (λz=>z.s) (λz=>ALS (AA z.s x4) (ALS (AA z.s y4) (ALS (AA z.s c0) (ALS (AA z.s d0) (ALS (AA z.s c1) (ALS (AA z.s d1) (ALS (AA z.s c2) (ALS (AA z.s d2) (ALS (AA z.s c3) (ALS (AA z.s d3) (ALS (AA z.s c4) (AA z.s d4)))))))))))) ?_)|(refine Ab.c (λz=>hS1 _ z.s) (λz hb=>AB z.s hb) ?_)));refine Ab.nil λw4 Bb=>?_;have hbz:=AB hb Bb;clear J9 hS1 c0 c1 c2 c3 c4 d0 d1 d2 d3 d4 x4 y4;go_wp2;go_roundw;exact⟨q+1,by omega,by go_num,hN1,hbz⟩;simp[intOf];omega
    ·have hS1:∀W,AA6 wr W->Calls prog 177 #[.agg #[cS m1.n,cS m1.r,t1,t2,t3],.agg #[cS m2.n,cS m2.r,s1,s2,s3]] W λe w'=>e=.returned (cE cA)/\AA6 W w':=λW hW=>(hS W hW).mono λ_ _ h=>⟨h.1.no hm,h.2⟩;have hne:=Wx (hM hm);clear hS hN hM hm;go_wp2;refine ALQ (S:=λ_ v=>AA6 wr v) J9 ?_;(iterate 12(first|(refine Ab.f (λz=>z.s) (λz=>ALS (AA z.s x4) (ALS (AA z.s y4) (ALS (AA z.s c0) (ALS (AA z.s d0) (ALS (AA z.s c1) (ALS (AA z.s d1) (ALS (AA z.s c2) (ALS (AA z.s d2) (ALS (AA z.s c3) (ALS (AA z.s d3) (ALS (AA z.s c4) (AA z.s d4)))))))))))) ?_)|(refine Ab.c (λz=>hS1 _ z.s) (λz hb=>AB z.s hb) ?_)));refine Ab.nil λw4 Bb=>?_;have hbz:=AB Bp Bb;clear J9 hS1 c0 c1 c2 c3 c4 d0 d1 d2 d3 d4 x4 y4;(go_wp2_with fail;go_ret;exact⟨Bj (hne.out),(hbz)⟩)
  ·have hlt:q<x.xs.length:=(by omega);have A8:(q:Int)<x.xs.length:=(by omega);have hlt':q<y.xs.length:=(by have:=hxl.out;omega);have JJ:(q:Int)<y.xs.length:=(by omega);obtain⟨a,rfl,⟨c0,-⟩,c1⟩:=hx q x.xs[q] (by simp[hlt]);obtain⟨a',rfl,⟨d0,-⟩,d1⟩:=hx' q y.xs[q] (by simp[hlt']);have hk:=AB h0 BJ;have c0:=AA hk c0;have c1:=AA hk c1;have d0:=AA hk d0;have d1:=AA hk d1;have hN:Qu x.xs[q] y.xs[q]=cC->x.xs.take (q+1)=y.xs.take (q+1):=λh=>Cy hT.out hlt hlt' (lZ h);have hM:Qu x.xs[q] y.xs[q]=cA->x≠y:=λh e=>by
    subst e;rw[Yd]at h;cases h
   have hE:∀w,(Op.equalIn 10000 155 (.agg #[cS x.xs[q].n,cI cJ x.xs[q].k]) (.agg #[cS y.xs[q].n,cI cJ y.xs[q].k])).run prog w=.ok (Qu x.xs[q] y.xs[q]) w:=λw=>AAk _ _ _ _ w;generalize Qu x.xs[q] y.xs[q]=bb at*;clear hx hx' hf hf' hT hk hX hY hb6 hH;replace hN:=Wx hN;replace hM:=Wx hM;generalize x.xs[q].n=s at*;generalize x.xs[q].k=t at*;generalize y.xs[q].n=s' at*;generalize y.xs[q].k=t' at*;go_wp2;refine ALQ (S:=λ_ v=>v=wr.drew) rfl ?_;(iterate 11((apply Ab.z rfl;intro L w1 _ _ _ z hK;have hS:=z.s;(subst hS);go_simp;exact hK (rfl);rfl)));refine Ab.nil λw4 Bb=>?_;subst Bb;have Bp:=hb.drew;have hbz:=BJ.drew;clear c0 c1 d0 d1 x3 y3 hE;cases bb
   ·have hne:=Wx (hM.out (by trivial));(go_wp2_with fail;go_ret;exact⟨Bj (hne.out),(hbz)⟩)
   ·go_wp2;go_roundw;exact⟨q+1,by omega,by go_num,Wx (hN.out (by trivial)),Bp⟩;simp[intOf];omega
 ·have hlt:q<x.cs.length:=by omega
  have A8:(q:Int)<x.cs.length:=by omega
  have hlt':q<y.cs.length:=by have:=hcl.out;omega
  have JJ:(q:Int)<y.cs.length:=by omega
  obtain⟨a,rfl,⟨c0,-⟩,m,c1,r⟩:=hc q x.cs[q] (by simp[hlt]);obtain⟨a',rfl,⟨d0,-⟩,m',d1,r'⟩:=hc' q y.cs[q] (by simp[hlt']);have hk:=AB h0 hb6;have c0:=AA hk c0;have c1:=AA hk c1;have d0:=AA hk d0;have d1:=AA hk d1;have hS:=λW (hW:AA6 wr W)=>I5 (AB hk hW) r r';have hN:x.cs[q].n=y.cs[q].n->x.cs[q].fs=y.cs[q].fs->x.cs.take (q+1)=y.cs.take (q+1):=λh1 h2=>Cy hT.out hlt hlt' (AAr h1 h2);have hM1:x.cs[q].n≠y.cs[q].n->x≠y:=λh e=>by
   subst e;exact h rfl
  have hM2:x.cs[q].fs≠y.cs[q].fs->x≠y:=λh e=>by
   subst e;exact h rfl
  obtain⟨g,j,rfl⟩:=r.slice;obtain⟨g',j',rfl⟩:=r'.slice;clear hc hc' hx hx' hf hf' r r' hT hX hY hk hH;generalize x.cs[q].n=s at*;generalize x.cs[q].fs=vs at*;generalize y.cs[q].n=s' at*;generalize y.cs[q].fs=vs' at*;replace hN:=Wx hN;replace hM1:=Wx hM1;replace hM2:=Wx hM2;have BJ:=(Below.refl wr.heap.size wr).drew
  cases e1:(s.toList==s'.toList)with
  |false=>
   go_wp2;refine ALQ (S:=λ_ v=>AA6 wr v) BJ ?_;(iterate 29(first|(refine Ab.f (λz=>z.s) (λz=>ALS (AA z.s x1) (ALS (AA z.s y1) (ALS (AA z.s c0) (ALS (AA z.s d0) (ALS (AA z.s c1) (AA z.s d1)))))) ?_)|(refine Ab.skip rfl (λL w1 hS hi=>(hS)) ?_;(try simp only[pE]))));refine Ab.nil λw4 Bb=>?_;have Bp:=AB hb6 Bb;have hne:=Wx (hM1.out λe=>by rw[e]at e1;simp at e1);clear BJ c0 c1 d0 d1 x1 y1 Bb
   (go_wp2_with fail;go_ret;exact⟨Bj (hne.out),(Bp)⟩)
  |true=>
   have qD:=Wx (Y4 e1);by_cases e2:vs=vs'
   ·have hS1:∀W,AA6 wr W->Calls prog 176 #[cY g vs.length j,cY g' vs'.length j'] W λe w'=>e=.returned (cE cC)/\AA6 W w':=λW hW=>(hS W hW).mono λ_ _ h=>⟨h.1.yes e2,h.2⟩;have hN1:=Wx (hN.out qD.out e2);clear hS hN hM1 hM2 e2;go_wp2;refine ALQ (S:=λ_ v=>AA6 wr v) BJ ?_;(iterate 29(first|(refine Ab.f (λz=>z.s) (λz=>ALS (AA z.s x1) (ALS (AA z.s y1) (ALS (AA z.s c0) (ALS (AA z.s d0) (ALS (AA z.s c1) (AA z.s d1)))))) ?_)|(refine Ab.c (λz=>hS1 _ z.s) (λz hb=>AB z.s hb) ?_)));refine Ab.nil λw4 Bb=>?_;have Bp:=AB hb Bb;clear BJ hS1 c0 c1 d0 d1 x1 y1 Bb;go_wp2;go_roundw;exact⟨q+1,by omega,by go_num,hN1,Bp⟩;simp[intOf];omega
   ·have hS1:∀W,AA6 wr W->Calls prog 176 #[cY g vs.length j,cY g' vs'.length j'] W λe w'=>e=.returned (cE cA)/\AA6 W w':=λW hW=>(hS W hW).mono λ_ _ h=>⟨h.1.no e2,h.2⟩;have hne:=Wx (hM2.out e2);clear hS hN hM1 hM2 e2;go_wp2;refine ALQ (S:=λ_ v=>AA6 wr v) BJ ?_;(iterate 29(first|(refine Ab.f (λz=>z.s) (λz=>ALS (AA z.s x1) (ALS (AA z.s y1) (ALS (AA z.s c0) (ALS (AA z.s d0) (ALS (AA z.s c1) (AA z.s d1)))))) ?_)|(refine Ab.c (λz=>hS1 _ z.s) (λz hb=>AB z.s hb) ?_)));refine Ab.nil λw4 Bb=>?_;have Bp:=AB hb6 Bb;clear BJ hS1 c0 c1 d0 d1 x1 y1 Bb;(go_wp2_with fail;go_ret;exact⟨Bj (hne.out),(Bp)⟩)
section
open Word Num Dp
theorem Uj(h0:AA6 w0 w)(hW:Words w0){p:Pg}{vp u4:Value}(hp:Cj w0 vp p u1 u2 u3 u4)(hr:Ky p)(hf:Q0 p):Calls prog 67 #[vp] w λe w'=>(∃b:Bool,e=.returned (cE b)/\(b=cC->WH 5000000 p))/\AA6 w w':=by
 have hL:=λW (hb:AA6 w0 W)=>YC hb hW hp hr hf;have hpp:=hp;obtain⟨rfl,hc,hg,hx,hfs⟩:=hp;obtain⟨p1,k1,rfl⟩:=hc.slice;obtain⟨p2,k2,rfl⟩:=hg.slice;obtain⟨p3,k3,rfl⟩:=hx.slice;obtain⟨p4,k4,rfl⟩:=hfs.slice;have hb1:=AJ w (.cells #[cE p.ssa,cY p1 p.cs.length k1,cY p2 p.gs.length k2,cY p3 p.xs.length k3,cY p4 p.fs.length k4] 27);have hX:=Ae.alloc w [cE p.ssa,cY p1 p.cs.length k1,cY p2 p.gs.length k2,cY p3 p.xs.length k3,cY p4 p.fs.length k4] 27;have hL1:=hL _ (AB h0 hb1);generalize p.cs.length=n1 at*;generalize p.gs.length=n2 at*;generalize p.xs.length=n3 at*;generalize p.fs.length=n4 at*;obtain⟨sa,hsa⟩:∃sa,sa=p.ssa:=⟨_,rfl⟩;rw[<-hsa]at hb1 hX hL1 hpp⊢;replace hsa:=Wx hsa;go_enter func67,ntmps67;go_wp2_with fail;refine hL1.mono ?_;rintro e w1 ⟨⟨s,rfl,hs⟩,hb2⟩;have hb3:=AB hb1 hb2;have hP:=Xv s hs (hW.kp (AB h0 hb3));replace hX:=hX.nx hb2;go_wp2_with fail;refine hP.mono ?_;rintro e w2 ⟨⟨v,n,why,rfl,⟨b,q1,q2,q3,q4,m1,c1,m2,c2,m3,c3,m4,c4,rfl⟩,hq⟩,hb4⟩;have hb5:=AB hb3 hb4;replace hX:=hX.nx hb4;have hb6:=AJ w2 (.cells #[cE b,cY q1 m1 c1,cY q2 m2 c2,cY q3 m3 c3,cY q4 m4 c4] 27);have hY:=Ae.alloc w2 [cE b,cY q1 m1 c1,cY q2 m2 c2,cY q3 m3 c3,cY q4 m4 c4] 27;have Ng:=hX.nx hb6;have BJ:=AB hb5 hb6;replace hq:=Wx hq;go_upto_region 2 with fail;generalize Cr:w2.alloc _=W at*;obtain⟨y0,y1,y2,y3,y4⟩:=hY.c5;obtain⟨x0,x1,x2,x3,x4⟩:=Ng.c5
 cases VK:(why==0)with
 |false=>
  go_wp2;go_ret
  exact⟨⟨_,rfl,λh=>by cases h⟩,BJ⟩
 |true=>
  have hw0:why=0:=by simpa using VK
  obtain⟨q,_,_,_,_,hqv,hqq⟩:=hq.out hw0;have hS:=Xm (Below.refl W.heap.size W) (hpp.kp (AB h0 BJ)) (hqv.kp hb6);replace hqq:=Wx hqq;replace hw0:=Wx hw0;go_wp2_with fail;refine hS.mono ?_;rintro e w4 ⟨⟨r,rfl,hr1,-⟩,Bp⟩;replace hr1:=Wx hr1;go_wp2;go_ret;exact⟨⟨_,rfl,λh=>by rw[hr1.out h];exact hqq.out⟩,AB BJ Bp⟩
end
def iU(s:ByteArray)(i:Is):Bool:= !(s.toList==[])&& (i.d.toList==s.toList)
def Q8(b:Bk)(n:Nat)(s:ByteArray):Bool:=(b.cs.take n).any (iU s)
def Zq(e:Ending):Prop:=∃b:Bool,e=.returned (cE b)
theorem Ra(h0:AA6 w0 w){x:Bk}(hv:Qw w0 v x u1 u2 u3)(hn:n<=x.cs.length)(s:ByteArray):Calls prog 223 #[v,cI cJ (n:Int),cS s] w λe w'=>e=.returned (cE (Q8 x n s))/\AA6 w w':=by
 obtain⟨rfl,-,hp,hc,ht⟩:=hv;obtain⟨p1,k1,rfl⟩:=hp.slice;obtain⟨p2,k2,rfl,-,⟨hn2,-⟩,hc⟩:=hc;obtain⟨p3,k3,rfl⟩:=ht.slice;clear hp ht;have hb1:=AJ w (.cells #[cS x.n,cY p1 x.ps.length k1,cY p2 x.cs.length k2,cI cJ x.e.k,cI cJ x.e.a.k,cS x.e.a.s,cI cJ x.e.a.n,cY p3 x.e.to.length k3,cI cJ x.e.n] 82);have hX:=Ae.alloc w [cS x.n,cY p1 x.ps.length k1,cY p2 x.cs.length k2,cI cJ x.e.k,cI cJ x.e.a.k,cS x.e.a.s,cI cJ x.e.a.n,cY p3 x.e.to.length k3,cI cJ x.e.n] 82;have x2:=hX.c 2 _ rfl;clear hX;obtain⟨R,hR⟩:∃R,R=Q8 x n s:=⟨_,rfl⟩;rw[<-hR];unfold Q8 at hR;have hln:(x.cs.take n).length=n:=by simp;omega
 have hR0:R=((x.cs.take n).drop 0).any (iU s):=by rw[List.drop_zero];exact hR
 replace hR0:=Wx hR0;replace hln:=Wx hln;clear hR;have hnI:(n:Int)<=x.cs.length:=by omega
 go_enter func223,ntmps223;go_wp2;generalize Cr:w.alloc _=W at*;go_loopw[7] (λi wr=>∃q:Nat,q<=n/\i=cI cJ (q:Int)/\Hid (R=((x.cs.take n).drop q).any (iU s))/\wr=W) (λi _=>n-(intOf i).toNat);exact⟨0,AY,rfl,hR0,rfl⟩;obtain⟨q,hq,rfl,hR,rfl⟩:=hrel;by_cases hend:q=n
 ·subst hend;have hR:=hR.out;rw[List.drop_of_length_le (by rw[hln.out];omega)]at hR;obtain rfl:R=cA:=hR;go_wp2;go_ret;exact⟨rfl,hb1⟩
 ·have hlt:q<n:=by omega
  have A8:(q:Int)<n:=by omega
  have hlx:q<x.cs.length:=by omega
  have AJY:(q:Int)<x.cs.length:=by omega
  have hR:=hR.out;rw[List.drop_eq_getElem_cons (by rw[hln.out];exact hlt),List.any_cons,List.getElem_take]at hR;obtain⟨a,rfl,-,⟨d1,-⟩,-⟩:=hc q x.cs[q] (by simp[hlx]);replace d1:=AA (AB h0 hb1) d1;have hP:iU s x.cs[q]=(!(s.toList==[])&& (x.cs[q].d.toList==s.toList)):=rfl;rw[hP]at hR;clear hP;generalize x.cs[q].d=d at*;clear hc
  cases e1:(s.toList==[])with
  |true=>
   rw[e1,Bool.not_true,Bool.false_and,Bool.false_or]at hR;replace hR:=Wx hR;go_wp2;go_roundw;exact⟨q+1,hlt,by go_num,hR,trivial⟩
   simp[intOf];omega
  |false=>
   cases e2:(d.toList==s.toList)with
   |true=>
    rw[e1,e2]at hR;obtain rfl:R=cC:=(by simpa using hR);obtain rfl:d=s:=Ic e2;clear e2 hR;go_wp2;go_ret
    exact⟨rfl,hb1⟩
   |false=>
    rw[e1,e2,Bool.and_false,Bool.false_or]at hR;replace hR:=Wx hR;go_wp2;go_roundw;exact⟨q+1,hlt,by go_num,hR,trivial⟩;simp[intOf];omega
theorem Xw(h0:AA6 w0 w){f:Fn}(hv:EL w0 v f u1 u2 u3)(s:ByteArray):Calls prog 242 #[v,cS s] w λe w'=>Zq e/\AA6 w w':=by
 obtain⟨rfl,-,hp,hc,ht⟩:=hv;obtain⟨p1,k1,rfl,-,⟨hn2,-⟩,hp⟩:=hp;obtain⟨p2,k2,rfl⟩:=hc.slice;obtain⟨p3,k3,rfl⟩:=ht.slice;have hb1:=AJ w (.cells #[cS f.n,cS f.r,cY p1 f.ps.length k1,cY p2 f.vs.length k2,cY p3 f.bs.length k3] 66);have hX:=Ae.alloc w [cS f.n,cS f.r,cY p1 f.ps.length k1,cY p2 f.vs.length k2,cY p3 f.bs.length k3] 66;have x2:=hX.c 2 _ rfl;go_enter func242,ntmps242;go_wp2;generalize Cr:w.alloc _=W at*;go_loopw[5] (λi wr=>∃q:Nat,q<=f.ps.length/\i=cI cJ (q:Int)/\wr=W) (λi _=>f.ps.length-(intOf i).toNat);exact⟨0,AY,rfl,rfl⟩;obtain⟨q,hq,rfl,rfl⟩:=hrel;by_cases hend:q=f.ps.length
 ·subst hend;go_wp2;go_ret;exact⟨⟨_,rfl⟩,hb1⟩
 ·have hlt:q<f.ps.length:=by omega
  have A8:(q:Int)<f.ps.length:=by omega
  obtain⟨a,rfl,⟨d1,-⟩,-⟩:=hp q f.ps[q] (by simp[hlt]);replace d1:=AA (AB h0 hb1) d1;generalize f.ps[q].n=d at*
  cases e2:(d.toList==s.toList)with
  |true=>
   go_wp2;go_ret
   exact⟨⟨_,rfl⟩,hb1⟩
  |false=>
   go_wp2;go_roundw;exact⟨q+1,by omega,by go_num,trivial⟩;simp[intOf];omega
theorem Vp(h0:AA6 w0 w){x:Bk}(hv:Qw w0 v x u1 u2 u3)(s:ByteArray):Calls prog 243 #[v,cS s] w λe w'=>Zq e/\AA6 w w':=by
 obtain⟨rfl,-,hp,hc,ht⟩:=hv;obtain⟨p1,k1,rfl,-,⟨hn2,-⟩,hp⟩:=hp;obtain⟨p2,k2,rfl⟩:=hc.slice;obtain⟨p3,k3,rfl⟩:=ht.slice;have hb1:=AJ w (.cells #[cS x.n,cY p1 x.ps.length k1,cY p2 x.cs.length k2,cI cJ x.e.k,cI cJ x.e.a.k,cS x.e.a.s,cI cJ x.e.a.n,cY p3 x.e.to.length k3,cI cJ x.e.n] 82);have hX:=Ae.alloc w [cS x.n,cY p1 x.ps.length k1,cY p2 x.cs.length k2,cI cJ x.e.k,cI cJ x.e.a.k,cS x.e.a.s,cI cJ x.e.a.n,cY p3 x.e.to.length k3,cI cJ x.e.n] 82;have x1:=hX.c 1 _ rfl;go_enter func243,ntmps243;go_wp2;generalize Cr:w.alloc _=W at*;go_loopw[5] (λi wr=>∃q:Nat,q<=x.ps.length/\i=cI cJ (q:Int)/\wr=W) (λi _=>x.ps.length-(intOf i).toNat);exact⟨0,AY,rfl,rfl⟩;obtain⟨q,hq,rfl,rfl⟩:=hrel;by_cases hend:q=x.ps.length
 ·subst hend;go_wp2;go_ret;exact⟨⟨_,rfl⟩,hb1⟩
 ·have hlt:q<x.ps.length:=by omega
  have A8:(q:Int)<x.ps.length:=by omega
  obtain⟨a,rfl,⟨d1,-⟩,-⟩:=hp q x.ps[q] (by simp[hlt]);replace d1:=AA (AB h0 hb1) d1;generalize x.ps[q].d=d at*
  cases e2:(d.toList==s.toList)with
  |true=>
   go_wp2;go_ret
   exact⟨⟨_,rfl⟩,hb1⟩
  |false=>
   go_wp2;go_roundw;exact⟨q+1,by omega,by go_num,trivial⟩;simp[intOf];omega
def RN(w':World)(n:Nat)(e:Ending):Prop:=∃(v:Value) (o:List ByteArray),e=.returned v/\Row DL 1 w' v o/\o.length<=n
def AB2{B:Nat}{o:List ByteArray}{F:List Nat}(h:AZ w B 9 1 (o.map dS) v F)(hz:∀x∈o,Sz x)(hn:o.length<=1000000):Row DL 1 w v o:=
 h.view (λ_=>rfl) (λ_ _ _ _ a b=>vS a b) (by unfold Ln;omega) hz
theorem Xo(h0:AA6 w0 w){u:Value}{l:List ByteArray}(hl:Row DL 1 w0 u l)(hn:l.length<=10000)(s:ByteArray)(hs:Sz s):Calls prog 241 #[u,cS s] w λe w'=>RN w' (2*l.length+1) e/\AA6 w w':=by
 obtain⟨p,c,rfl,-,-,hl⟩:=hl;go_enter func241,ntmps241;go_wp2;go_loopw[5,6] (λv i wr=>∃(q:Nat) (o:List ByteArray) (F:List Nat),q<=l.length/\i=cI cJ (q:Int)/\o.length<=q/\AZ wr w.heap.size 9 1 (o.map dS) v F/\F.Nodup/\Hid (∀x∈o,Sz x)/\AA6 w wr) (λ_ i _=>l.length-(intOf i).toNat);exact⟨0,[],[],AY,rfl,AQ,.nil,by simp,Wx (λx h=>by cases h),AL⟩;obtain⟨q,o,F,hq,rfl,hoq,hv,hF,hz,hb⟩:=hrel;obtain⟨pv,cv,rfl⟩:=hv.slice;rw[List.length_map]at hv⊢;by_cases hend:q=l.length
 ·subst hend;obtain⟨wo,rfl⟩:=again wr;have hB2:=Ae.alloc wo [cS s] 9;have hb4:=hb.alloc hb.size (.cells #[cS s] 9);have hv2:=hv.same (w':=wo.alloc (.cells #[cS s] 9)) λb hb'=>Below.heap_alloc _ _ _ (hv.fp b hb').2;go_upto_region 8 with(at_builtin;refine HY rfl P5 _ _ rfl rfl hv2 hF rfl hB2 (by simp[Value.oneCell']) (Af.str hB2) (by simp) (by simp) rfl rfl (by rw[List.length_map];omega) (by decide) hb4.size ?_;rintro v' w3 F' ⟨N7,Nh,rfl⟩ h1 h2 h3 h4 h5)
  have hb5:=hb4.trans h5;have h1':AZ w3 w.heap.size 9 1 ((o++[s]).map dS) (cY N7 ((List.map dS o).length+1) Nh) F':=by rw[List.map_append];exact h1
  rw[List.length_map]at h1';have hz1:Hid (∀x∈o++[s],Sz x):=Wx λx hx=>by
   rcases List.mem_append.1 hx with h|h
   ·exact hz.out x h
   ·rw[List.mem_singleton.1 h];exact hs
  have ho1:(o++[s]).length<=l.length+1:=by simp;omega
  have ho2:(o++[s]).length=o.length+1:=by simp
  rw[<-ho2]at h1'⊢;generalize o++[s]=o1 at*;clear h1 h3 h4 h5 hv hv2 hB2 hb hb4 hz hF hoq ho2;go_wp2;go_loopw[5,7] (λv i wr=>∃(q:Nat) (o:List ByteArray) (F:List Nat),q<=l.length/\i=cI cJ (q:Int)/\o.length<=l.length+1+q/\AZ wr w.heap.size 9 1 (o.map dS) v F/\F.Nodup/\Hid (∀x∈o,Sz x)/\AA6 w wr) (λ_ i _=>l.length-(intOf i).toNat);exact⟨0,o1,F',AY,rfl,ho1,h1',h2,hz1,hb5⟩;clear h1' h2 hz1 hb5 ho1;obtain⟨q,o,F,hq,rfl,hoq,hv,hF,hz,hb⟩:=hrel;obtain⟨pv,cv,rfl⟩:=hv.slice;rw[List.length_map]at hv⊢;by_cases hend:q=l.length
  ·subst hend;go_wp2;go_ret;exact⟨⟨_,o,rfl,AB2 hv hz.out (by omega),by omega⟩,hb⟩
  ·have hlt:q<l.length:=(by omega);have A8:(q:Int)<l.length:=(by omega);obtain⟨a,rfl,d0,hsz⟩:=hl q l[q] (by simp[hlt]);rw[Nat.mul_one]at d0;replace d0:=AA (AB h0 hb) d0;generalize l[q]=t at*;obtain⟨wo,rfl⟩:=again wr;go_upto_region 11 with fail;go_cut[42]from 37 to 41 (λv wx=>∃b:Bool,v=cE b/\wx=wo)
   ·go_wp2;go_meet;exact⟨_,rfl,rfl⟩
   obtain⟨b,rfl,rfl⟩:=hcut;obtain⟨wo,rfl⟩:=again wc;cases b
   ·clear d0;go_wp2;go_roundw;exact⟨q+1,o,F,hlt,by go_num,by omega,hv,hF,hz,hb⟩;simp[intOf];omega
   ·have hB2:=Ae.alloc wo [cS t] 9;have hb4:=hb.alloc hb.size (.cells #[cS t] 9);have hv2:=hv.same (w':=wo.alloc (.cells #[cS t] 9)) λb hb'=>Below.heap_alloc _ _ _ (hv.fp b hb').2;(go_wp2_with(at_builtin;refine HY rfl P5 _ _ rfl rfl hv2 hF rfl hB2 (by simp[Value.oneCell']) (Af.str hB2) (by simp) (by simp) rfl rfl (by rw[List.length_map];omega) (by decide) hb4.size ?_;rintro v' w3 F' ⟨N7,Nh,rfl⟩ h1 h2 h3 h4 h5));have hb5:=hb4.trans h5;have h1':AZ w3 w.heap.size 9 1 ((o++[t]).map dS) (cY N7 ((List.map dS o).length+1) Nh) F':=(by rw[List.map_append];exact h1);rw[List.length_map]at h1';have hz1:Hid (∀x∈o++[t],Sz x):=Wx λx hx=>by
     rcases List.mem_append.1 hx with h|h
     ·exact hz.out x h
     ·rw[List.mem_singleton.1 h];exact hsz
    have ho1:(o++[t]).length<=l.length+1+(q+1):=(by simp;omega);clear h1 h3 h4 h5 hv hv2 hB2 hb hb4 hz hF d0;go_roundw;exact⟨q+1,o++[t],F',hlt,by go_num,ho1,h1',h2,hz1,hb5⟩;simp[intOf];omega
 ·have hlt:q<l.length:=by omega
  have A8:(q:Int)<l.length:=by omega
  obtain⟨a,rfl,d0,hsz⟩:=hl q l[q] (by simp[hlt]);rw[Nat.mul_one]at d0;replace d0:=AA (AB h0 hb) d0;generalize l[q]=t at*;obtain⟨wo,rfl⟩:=again wr;go_upto_region 5 with fail;go_cut[19]from 14 to 18 (λv wx=>∃b:Bool,v=cE b/\wx=wo)
  ·go_wp2;go_meet;exact⟨_,rfl,rfl⟩
  obtain⟨b,rfl,rfl⟩:=hcut;obtain⟨wo,rfl⟩:=again wc;cases b
  ·clear d0;go_wp2;go_roundw;exact⟨q+1,o,F,hlt,by go_num,by omega,hv,hF,hz,hb⟩;simp[intOf];omega
  ·have hB2:=Ae.alloc wo [cS t] 9;have hb4:=hb.alloc hb.size (.cells #[cS t] 9);have hv2:=hv.same (w':=wo.alloc (.cells #[cS t] 9)) λb hb'=>Below.heap_alloc _ _ _ (hv.fp b hb').2;(go_wp2_with(at_builtin;refine HY rfl P5 _ _ rfl rfl hv2 hF rfl hB2 (by simp[Value.oneCell']) (Af.str hB2) (by simp) (by simp) rfl rfl (by rw[List.length_map];omega) (by decide) hb4.size ?_;rintro v' w3 F' ⟨N7,Nh,rfl⟩ h1 h2 h3 h4 h5));have hb5:=hb4.trans h5;have h1':AZ w3 w.heap.size 9 1 ((o++[t]).map dS) (cY N7 ((List.map dS o).length+1) Nh) F':=(by rw[List.map_append];exact h1);rw[List.length_map]at h1';have hz1:Hid (∀x∈o++[t],Sz x):=Wx λx hx=>by
    rcases List.mem_append.1 hx with h|h
    ·exact hz.out x h
    ·rw[List.mem_singleton.1 h];exact hsz
   have ho1:(o++[t]).length<=q+1:=(by simp;omega);go_roundw;exact⟨q+1,o++[t],F',hlt,by go_num,ho1,h1',h2,hz1,hb5⟩;simp[intOf];omega
theorem Yn(h0:AA6 w0 w){u:Value}{l:List ByteArray}(hl:Row DL 1 w0 u l)(hn:l.length<=10000)(x:Ag)(hs:Sz x.s):Calls prog 221 #[u,.agg #[cI cJ x.k,cS x.s,cI cJ x.n]] w λe w'=>RN w' (2*l.length+1) e/\AA6 w w':=by
 have hb1:=AJ w (.cells #[cI cJ x.k,cS x.s,cI cJ x.n] 77);have hX:=Ae.alloc w [cI cJ x.k,cS x.s,cI cJ x.n] 77;obtain⟨x0,x1⟩:=hX.c2;have hP:=Xo (AB h0 hb1) hl hn x.s hs;have hr:RN (w.alloc (.cells #[cI cJ x.k,cS x.s,cI cJ x.n] 77)) (2*l.length+1) (.returned u):=⟨u,l,rfl,Row.s (AB h0 hb1) hl,by omega⟩;obtain⟨p,c,rfl⟩:=hl.slice;generalize x.k=k at*;generalize x.s=s at*;generalize x.n=n at*
 cases e1:((k:Int)==1)with
 |true=>
  go_enter func221,ntmps221;go_wp2_with fail;refine hP.mono ?_;rintro e w2 ⟨⟨v,o,rfl,hv⟩,hb2⟩;have hb3:=AB hb1 hb2;replace hv:=Wx hv;go_wp2;go_ret
  exact⟨⟨v,o,rfl,hv.out⟩,hb3⟩
 |false=>
  replace hr:=Wx hr;go_enter func221,ntmps221;go_wp2;go_ret;exact⟨hr.out,hb1⟩
theorem bD(h0:AA6 w0 w){x:Is}(hv:Pv w0 v x u1 u2 u3)(h8:x.as.length<=8)(hfr:x.fr=[])(Nc:x.ob=[]):Calls prog 187 #[v] w λe w'=>RN w' 1000 e/\AA6 w w':=by
 obtain⟨rfl,-,ha,hf,ho⟩:=hv;obtain⟨p1,k1,rfl,-,-,ha⟩:=ha;obtain⟨p2,k2,rfl⟩:=hf.slice;obtain⟨p3,k3,rfl⟩:=ho.slice;have hf0:x.fr.length=0:=by rw[hfr];rfl
 have ho0:x.ob.length=0:=by rw[Nc];rfl
 rw[hf0,ho0];go_enter func187,ntmps187;go_wp2;generalize Cr:w.alloc _=W at*;obtain⟨hb1,hX⟩:=ng Cr;go_loopw[3,4] (λv i wr=>∃(q:Nat) (o:List ByteArray),q<=x.as.length/\i=cI cJ (q:Int)/\o.length+1<=2^q/\Row DL 1 wr v o/\AA6 W wr) (λ_ i _=>x.as.length-(intOf i).toNat);exact⟨0,[],AY,rfl,by simp,⟨cX,0,rfl,(λ_=>⟨rfl,rfl⟩),⟨by simp,by simp⟩,λi y hy=>by simp at hy⟩,AL⟩;obtain⟨q,o,hq,rfl,hoq,hv,hb⟩:=hrel;obtain⟨pv,cv,rfl⟩:=hv.slice;have hX1:=hX.nx hb;have x3:=hX1.c 3 _ rfl;have hbb:=AB hb1 hb;have AJu:2^q<=256:=AX (Nat.pow_le_pow_right (by decide) (show q<=8 by omega)) (by decide);have AGf:o.length<=255:=by omega
 by_cases hend:q=x.as.length
 ·subst hend;obtain⟨-,-,-,-,x4,x5⟩:=hX1.c6;have hout:RN wr 1000 (.returned (cY pv o.length cv)):=⟨_,o,rfl,hv,by omega⟩;replace hout:=Wx hout;obtain⟨wo,rfl⟩:=again wr;go_wp2;go_loopw[3,5] (λv i wr=>v=cY pv o.length cv/\i=cI cJ 0/\wr=wo) (λ_ _ _=>0);exact⟨rfl,rfl,rfl⟩;obtain⟨rfl,rfl,rfl⟩:=hrel;obtain⟨wp,rfl⟩:=again wr;go_wp2;go_loopw[3,7] (λv i wr=>v=cY pv o.length cv/\i=cI cJ 0/\wr=wp) (λ_ _ _=>0);exact⟨rfl,rfl,rfl⟩;obtain⟨rfl,rfl,rfl⟩:=hrel;go_wp2;go_ret;exact⟨hout.out,hbb⟩
 ·have hlt:q<x.as.length:=by omega
  have A8:(q:Int)<x.as.length:=by omega
  obtain⟨a,rfl,c0,⟨c1,z1⟩,c2⟩:=ha q x.as[q] (by simp[hlt]);have hk:=AB h0 hbb;replace c0:=AA hk c0;replace c1:=AA hk c1;replace c2:=AA hk c2;have hA:=Yn (Below.refl wr.heap.size wr) hv (by omega) x.as[q] z1;have hpw:2^ (q+1)=2^q+2^q:=by rw[Nat.pow_succ];omega
  replace hpw:=Wx hpw;generalize x.as[q].k=t1 at*;generalize x.as[q].s=t2 at*;generalize x.as[q].n=t3 at*;go_wp2_with fail;refine hA.mono ?_;rintro e w3 ⟨⟨v3,o3,rfl,hv3,ho3⟩,hb3⟩;have hb4:=AB hb hb3;obtain⟨uw,c3',rfl⟩:=hv3.slice;replace hv3:=Wx hv3;replace ho3:=Wx ho3;go_wp2;go_roundw;exact⟨q+1,o3,hlt,by go_num,by have:=hpw.out;have:=ho3.out;omega,hv3.out,hb4⟩;simp[intOf];omega
section
structure Lf(w:World)(B p:Nat)(o:List Bool):Prop where
 x:Ae w p (o.map Value.bool)
 l:p<w.heap.size
 g:B<=p
section
variable {w w1 : World} {B p : Nat} {o : List Bool}
def Lf.nx(h:Lf w B p o)(hb:AA6 w w1):Lf w1 B p o:=⟨h.x.below h.l hb,A9 h.l hb.size,h.g⟩
theorem Lf.c(h:Lf w B p o)(hi:i<o.length):w.cell? ⟨p,i,cX⟩=cP (cE o[i]):=h.x.c i _ (by simp[hi])
theorem Lf.f(h:Lf w B p o)(hi:i<o.length):w.frozen? ⟨p,i,cX⟩=cA:=h.x.f i (by simpa using hi)
def Lf.set(h:Lf w B p o)(hi:i<o.length)(b:Bool):Lf (w.setCell ⟨p,i,cX⟩ (cE b)) B p (o.set i b):=
 ⟨by rw[List.map_set];exact h.x.set (by simpa using hi) _,by rw[G7];exact h.l,h.g⟩
def Lf.low(h:Lf w B p o)(i:Nat)(v:Value):Below B w (w.setCell ⟨p,i,cX⟩ v):=(AL).setCell h.g v
end
theorem AAW:(prog.info? 4).map (λi=>(i.zero,i.size,i.bytes))=cP (cP (cE cA),1,1):=by kernel_rfl
theorem sW(n:Nat):(madeCells #[cE cA] (n*1)).toList=(List.replicate n cA).map Value.bool:=by
 rw[Nat.mul_one,toList_madeCells_one,List.map_replicate]
theorem RQ{ops:Array Oper}{rest:List Oper}{o:Oper}{a:Act}{Q:Exit->Act->World->Prop}(hgd:o.guard=cX)(s x:Operand)(ho:o.op=Op.makeSlice 259 s x)(hs:a.eval s=cI cJ (n:Int))(hx:a.eval x=cI cJ (n:Int))(hn:n<=1000000)(hK:∀w',Lf w' w.heap.size w.heap.size (List.replicate n cA)->AA6 w w'->wpList prog ops Q rest (a.put o.dst (cY (cP ⟨w.heap.size,0,cX⟩) n n)) w'):wpList prog ops Q (o::rest) a w:=by
 obtain⟨i0,hi,hz0,hz1,hz2⟩:=Cq (P:=prog) (t:=4) AAW;refine wpList_make_full w hgd s x 259 ho w.heap.size 4 i0 _ 1 underlying259 hi hz0 hz1 .i64 .i64 n n n hs hx rfl rfl (by rw[hz2];omega) (by unfold maxLen;omega) (AQ) λw' h1 h2=>?_;have hz:Value.cells (cE cA)=#[cE cA]:=rfl;rw[hz,sW]at h1;refine hK w' ⟨⟨λi v hv=>?_,λi hi=>(QE h1).Bw i⟩,(QE h1).lt,AQ⟩ ((Below.refl w.heap.size w).grown h2 (AQ) λk e=>by cases e);grind [Cq,AAW,sW,QE,Ep,cases Lf]
def Y1(r:Option Nat):Int:=match r with
 |some k=>((0+k:Nat):Int)
 |none=>0
def aG{e:Ending}(h:Je 0 r e):e=.returned (.tuple #[cI cJ (Y1 r),cE r.isSome]):=by
 cases r with
 |none=>exact h
 |some k=>exact h
theorem Ov(h0:AA6 w0 w){f:Fn}(hf:EL w0 v f u1 u2 u3)(hi:i<f.bs.length)(k:Int):Calls prog 189 #[v,cI cJ (i:Int),cI cJ k] w λe w'=>Zq e/\AA6 w w':=by
 have hP:=λW (hb:AA6 w0 W) x=>NH hb hf x;obtain⟨rfl,-,hp,hv,hb⟩:=hf;obtain⟨p1,k1,rfl⟩:=hp.slice;obtain⟨p2,k2,rfl⟩:=hv.slice;obtain⟨p3,k3,rfl,-,⟨hn,-⟩,hl⟩:=hb;obtain⟨a,rfl,-,-,-,-,-,⟨u4,t4,r4⟩,-⟩:=hl i f.bs[i] (by simp[hi]);obtain⟨p4,k4,rfl,-,⟨iH,-⟩,hl4⟩:=r4;generalize f.bs[i].e.to=lt at*;have hiI:(i:Int)<f.bs.length:=by omega
 go_enter func189,ntmps189;go_wp2;generalize Cr:w.alloc _=W at*;obtain⟨hb1,hX⟩:=ng Cr;go_loopw[7] (λj wr=>∃q:Nat,q<=lt.length/\j=cI cJ (q:Int)/\AA6 W wr) (λj _=>lt.length-(intOf j).toNat);exact⟨0,AY,rfl,AL⟩;obtain⟨q,hq,rfl,hb⟩:=hrel;have hX1:=hX.nx hb;have hbb:=AB hb1 hb;have x4:=hX1.c 4 _ rfl;have t5:=AA (AB h0 hbb) t4;by_cases hend:q=lt.length
 ·subst hend;go_wp2;go_ret;exact⟨⟨_,rfl⟩,hbb⟩
 ·have hlt:q<lt.length:=by omega
  have A8:(q:Int)<lt.length:=by omega
  obtain⟨b,rfl,d0,-⟩:=hl4 q lt[q] (by simp[hlt]);rw[Nat.mul_one]at d0;replace d0:=AA (AB h0 hbb) d0;have hP1:∀W',AA6 wr W'->Calls prog 55 #[.agg #[cS f.n,cS f.r,cY p1 f.ps.length k1,cY p2 f.vs.length k2,cY (cP a) f.bs.length k3],cS lt[q]] W' λe w'=>e=.returned (.tuple #[cI cJ (Y1 (Cu Bk.n lt[q] f.bs)),cE (Cu Bk.n lt[q] f.bs).isSome])/\AA6 W' w':=λW' hb'=>(hP W' (AB (AB h0 hbb) hb') _).mono λ_ _ h=>⟨aG h.2,h.1⟩;generalize Y1 (Cu Bk.n lt[q] f.bs)=pk at*;generalize(Cu Bk.n lt[q] f.bs).isSome=ok at*;generalize lt[q]=t at*;obtain⟨x0,x1,x2,x3⟩:=hX1.c4;have hbd:=(Below.refl wr.heap.size wr).drew;go_wp2;refine ALQ (S:=λ_ v=>AA6 wr v) hbd ?_;iterate 17(first|(refine Ab.f (λz=>z.s) (λz=>ALS (AA z.s x0) (ALS (AA z.s x1) (ALS (AA z.s x2) (ALS (AA z.s x3) (ALS (AA z.s x4) (ALS (AA z.s t5) (AA z.s d0))))))) ?_)|(refine Ab.c (λz=>hP1 _ z.s) (λz hb=>AB z.s hb) ?_))
  refine Ab.nil λw4 Bb=>?_;have hb4:=AB hb Bb;have hbz:=AB hbb Bb;cases ok
  ·go_wp2;go_roundw;exact⟨q+1,by omega,by go_num,hb4⟩;simp[intOf];omega
  ·cases e1:((pk:Int)==k)with
   |true=>
    go_wp2;go_ret
    exact⟨⟨_,rfl⟩,hbz⟩
   |false=>
    go_wp2;go_roundw;exact⟨q+1,by omega,by go_num,hb4⟩;simp[intOf];omega
end
def isF(v:Option Value):Nat:=match v with
 |some (cE cA)=>1
 |_=>0
def Z7(w:World)(p n:Nat):Nat:=((List.range n).map λi=>isF (w.cell? ⟨p,i,cX⟩)).sum
def mT(v:Value):Nat:=match v with
 |cE cC=>1
 |_=>0
theorem WC{B p:Nat}{o:List Bool}(h:Lf w B p o)(hn:o.length=n):Z7 w p n=o.count cA:=by
 subst hn;have e:(List.range o.length).map (λi=>isF (w.cell? ⟨p,i,cX⟩))=o.map λb=>if b then 0 else 1:=by
  apply List.ext_getElem (by simp);intro i h1 h2;have hi:i<o.length:=by simpa using h1
  simp only[List.getElem_map,List.getElem_range];rw[h.c hi];cases o[i]<;>rfl
 unfold Z7;rw[e];clear e h
 induction o with
 |nil=>rfl
 |cons b r ih=>
  rw[List.map_cons,List.sum_cons,ih];cases b<;>simp[Nat.add_comm]
theorem LH{o:List Bool}{k:Nat}(hk:k<o.length):(o.set k cC).count cA+(if o[k]=cA then 1 else 0)=o.count cA:=by grind
def oP(w w':World)(n:Nat)(e:Ending):Prop:=∃(p:Nat) (o:List Bool),e=.returned (cY (cP ⟨p,0,cX⟩) n n)/\o.length=n/\Lf w' w.heap.size p o
theorem fT(h0:AA6 w0 w){f:Fn}(hf:EL w0 v f u1 u2 u3)(hn:f.bs.length<=10000):Calls prog 178 #[v] w λe w'=>oP w w' f.bs.length e/\AA6 w w':=by
 have hP:=λW (hb:AA6 w0 W) i (hi:i<f.bs.length) k=>Ov hb hf hi k;obtain⟨rfl,-,hp,hv,hb⟩:=hf;obtain⟨p1,k1,rfl⟩:=hp.slice;obtain⟨p2,k2,rfl⟩:=hv.slice;obtain⟨p3,k3,rfl⟩:=hb.slice;clear hp hv hb;generalize f.bs.length=n at*;go_enter func178,ntmps178;go_upto_region 1 with fail;generalize Cr:w.alloc _=W at*;obtain⟨hb1,hX⟩:=ng Cr;clear Cr;have x4:=hX.c 4 _ rfl;go_upto_region 2 with(at_make;refine RQ rfl _ _ rfl rfl rfl (AX hn (by decide)) ?_;intro w2 hO hb2)
 have hb3:=AB hb1 hb2;have hX2:=hX.nx hb2;obtain⟨ow,how⟩:∃ow,W.heap.size=ow:=⟨_,rfl⟩;rw[how]at hO⊢;have hlow:w.heap.size<=ow:=by rw[<-how];exact hb1.size
 have hXp:w.heap.size<ow:=by rw[<-how];exact hX.lt
 have nI:Lf w2 w.heap.size ow (List.replicate n cA):=⟨hO.x,hO.l,hlow⟩;have hlen:(List.replicate n cA).length=n:=by simp
 clear hb1 hb2 hX x4 hO;go_wp2;obtain⟨d0,hd0⟩:∃d0,d0=decide (0<n):=⟨_,rfl⟩;rw[<-hd0];replace hd0:=Wx hd0;go_loopw[4] (λm wr=>∃(b:Bool) (o:List Bool),m=cE b/\o.length=n/\Lf wr w.heap.size ow o/\AA6 w wr/\Ae wr w.heap.size [cS f.n,cS f.r,cY p1 f.ps.length k1,cY p2 f.vs.length k2,cY p3 n k3]/\(b=cC->0<n)) (λm wr=>2*Z7 wr ow n+mT m);exact⟨d0,_,rfl,hlen,nI,hb3,hX2,λh=>BK (hd0.out.symm.trans h)⟩;clear nI hb3 hX2 hlen;obtain⟨b,o,rfl,ho,hO,hb,hX,hn0⟩:=hrel;cases b
 ·clear hP hX;go_wp2;go_ret;exact⟨⟨ow,o,rfl,ho,hO⟩,hb⟩
 have WU:=hn0 rfl;clear hn0;have hcw:=WC hO ho;have vR:(0:Int)<n:=by omega
 have z0:=hO.c (i:=0) (by omega);have f0:=hO.f (i:=0) (by omega);have hO2:=hO.set (i:=0) (by omega) cC;have hb2:=hb.trans (hO.low 0 (cE cC));have hX2:Ae (wr.setCell ⟨ow,0,cX⟩ (cE cC)) w.heap.size _:=hX.far (q:=⟨ow,0,cX⟩) (by dsimp only;omega) (cE cC);have hc2:(o.set 0 cC).count cA<=o.count cA:=by have:=LH (o:=o) (k:=0) (by omega);omega
 have ho2:(o.set 0 cC).length=n:=by simpa using ho
 obtain⟨c0,hc0⟩:∃c0,c0=o.count cA:=⟨_,rfl⟩;rw[<-hc0]at hc2 hcw;replace hcw:=Wx hcw;replace hc0:=Wx hc0;generalize o.set 0 cC=o2 at*;go_upto_region 6 with fail;generalize Cr:wr.setCell _ _=w5 at*;go_wp2;obtain⟨wo,rfl⟩:=again wr;go_loopw[4,5] (λm i wr=>∃(q:Nat) (b:Bool) (o:List Bool),q<=n/\m=cE b/\i=cI cJ (q:Int)/\o.length=n/\Lf wr w.heap.size ow o/\AA6 w wr/\Ae wr w.heap.size [cS f.n,cS f.r,cY p1 f.ps.length k1,cY p2 f.vs.length k2,cY p3 n k3]/\Hid (o.count cA+(if b=cC then 1 else 0)<=c0)) (λ_ i _=>n-(intOf i).toNat);exact⟨0,cA,o2,AY,rfl,rfl,ho2,hO2,hb2,hX2,Wx (by simpa using hc2)⟩;obtain⟨q,b,o,hq,rfl,rfl,ho,hO,hb,hX,hcc⟩:=hrel;by_cases hend:q=n
 ·subst hend;have hcn:=WC hO ho;replace hcn:=Wx hcn;go_wp2;go_roundw;exact⟨b,o,rfl,ho,hO,hb,hX,λ_=>WU⟩
  case measure=>
   rw[hcn.out,hcw.out];have:=hcc.out;cases b<;>simp[mT]at this⊢<;>omega
 ·have hlt:q<n:=by omega
  have A8:(q:Int)<n:=by omega
  obtain⟨wv,rfl⟩:=again wr;go_wp2;go_loopw[4,6] (λm i wr=>∃(k:Nat) (b:Bool) (o:List Bool),k<=n/\m=cE b/\i=cI cJ (k:Int)/\o.length=n/\Lf wr w.heap.size ow o/\AA6 w wr/\Ae wr w.heap.size [cS f.n,cS f.r,cY p1 f.ps.length k1,cY p2 f.vs.length k2,cY p3 n k3]/\Hid (o.count cA+(if b=cC then 1 else 0)<=c0)) (λ_ i _=>n-(intOf i).toNat);exact⟨0,b,o,AY,rfl,rfl,ho,hO,hb,hX,hcc⟩;obtain⟨k,b,o,hk,rfl,rfl,ho,hO,hb,hX,hcc⟩:=hrel;by_cases hkn:k=n
  ·subst hkn;have hd:decide ((k:Int)<(k:Int))=cA:=decide_eq_false (by omega);clear hP;go_wp2;go_roundw;exact⟨q+1,b,o,hlt,rfl,by go_num,ho,hO,hb,hX,hcc⟩;simp[intOf];omega
  ·have hkl:k<n:=(by omega);have jB:(k:Int)<n:=(by omega);have zq:=hO.c (i:=q) (by omega);have zk:=hO.c (i:=k) (by omega);have fk:=hO.f (i:=k) (by omega)
   cases hoq:o[q]with
   |false=>
    rw[hoq]at zq;clear hP zk fk;go_wp2;go_roundw;exact⟨q+1,b,o,hlt,rfl,by go_num,ho,hO,hb,hX,hcc⟩
    simp[intOf];omega
   |true=>
    rw[hoq]at zq
    cases hok:o[k]with
    |true=>
     rw[hok]at zk;go_wp2;go_roundw;exact⟨k+1,b,o,hkl,rfl,by go_num,ho,hO,hb,hX,hcc⟩
     simp[intOf];omega
    |false=>
     rw[hok]at zk;have hP1:=hP wr (AB h0 hb) q hlt (k:Int);obtain⟨x0,x1,x2,x3,x4⟩:=hX.c5;go_wp2_with fail;refine hP1.mono ?_;rintro e w6 ⟨⟨b2,rfl⟩,hb6⟩;have TP:=hO.nx hb6;have Ng:=hX.nx hb6;have BJ:=AB hb hb6;cases b2
     ·go_wp2;go_roundw;exact⟨k+1,b,o,hkl,rfl,by go_num,ho,TP,BJ,Ng,hcc⟩;simp[intOf];omega
     ·have zk:=TP.c (i:=k) (by omega);have fk:=TP.f (i:=k) (by omega);have pU:=TP.set (i:=k) (by omega) cC;have Bp:=BJ.trans (TP.low k (cE cC));have nH:Ae (w6.setCell ⟨ow,k,cX⟩ (cE cC)) w.heap.size _:=Ng.far (q:=⟨ow,k,cX⟩) (by dsimp only;omega) (cE cC);have hc8:(o.set k cC).count cA+(if cC=cC then 1 else 0)<=c0:=by
       have:=LH (o:=o) (k:=k) (by omega);rw[hok]at this;have h2:=hcc.out;simp at this⊢;omega
      have ho8:(o.set k cC).length=n:=(by simpa using ho);replace hc8:=Wx hc8;go_wp2;go_roundw;exact⟨k+1,cC,o.set k cC,hkl,rfl,by go_num,ho8,pU,Bp,nH,hc8⟩;simp[intOf];omega
theorem gB(h0:AA6 w0 w){f:Fn}(hf:EL w0 v f u1 u2 u3)(hn:f.bs.length<=10000)(hp0:0<f.bs.length)(s:ByteArray):Calls prog 222 #[v,cS s] w λe w'=>oP w w' f.bs.length e/\AA6 w w':=by
 have hL:=λW (hb:AA6 w0 W) i (hi:i<f.bs.length) k=>Ov hb hf hi k;have hPa:=λW (hb:AA6 w0 W)=>Xw hb hf s;obtain⟨rfl,-,hp,hv,hb⟩:=hf;obtain⟨p1,k1,rfl⟩:=hp.slice;obtain⟨p2,k2,rfl⟩:=hv.slice;obtain⟨p3,k3,rfl,-,-,hl⟩:=hb;obtain⟨a,rfl,hA0⟩:=hl 0 f.bs[0] (by simp[hp0]);have hbk:∀q (h:q<f.bs.length),Jf w0 (a.add (q*9)) f.bs[q]:=λq h=>by
  obtain⟨a',e,h1⟩:=hl q f.bs[q] (by simp[h]);obtain rfl:a=a':=by simpa using e
  exact h1
 replace hbk:=Wx hbk;have hb1:=AJ w (.cells #[cS f.n,cS f.r,cY p1 f.ps.length k1,cY p2 f.vs.length k2,cY (cP a) f.bs.length k3] 66);have hX:=Ae.alloc w [cS f.n,cS f.r,cY p1 f.ps.length k1,cY p2 f.vs.length k2,cY (cP a) f.bs.length k3] 66;obtain⟨n,hnn⟩:∃n,n=f.bs.length:=⟨_,rfl⟩;rw[<-hnn]at hb1 hX hp0 hn hPa hL⊢;replace hnn:=Wx hnn;have PV:(0:Int)<n:=by omega
 go_enter func222,ntmps222;go_upto_region 1 with fail;generalize Cr:w.alloc _=W at*;have x4:=hX.c 4 _ rfl;go_upto_region 2 with(at_make;refine RQ rfl _ _ rfl rfl rfl (AX hn (by decide)) ?_;intro w2 hO hb2)
 have hb3:=AB hb1 hb2;have hX2:=hX.nx hb2;obtain⟨ow,how⟩:∃ow,W.heap.size=ow:=⟨_,rfl⟩;rw[how]at hO⊢;have hlow:w.heap.size<=ow:=by rw[<-how];exact hb1.size
 have hXp:w.heap.size<ow:=by rw[<-how];exact hX.lt
 have nI:Lf w2 w.heap.size ow (List.replicate n cA):=⟨hO.x,hO.l,hlow⟩;have hlen:(List.replicate n cA).length=n:=by simp
 have AEa:=hPa _ (AB h0 hb3);generalize List.replicate n cA=o at*;obtain⟨x0,x1,x2,x3,x4⟩:=hX2.c5;go_upto_region 2 with fail;have hpx:w.heap.size≠ow:=by omega
 go_cut[27]from 13 to 26 (λ_ wx=>∃o':List Bool,o'.length=n/\Lf wx w.heap.size ow o'/\AA6 w wx/\Ae wx w.heap.size [cS f.n,cS f.r,cY p1 f.ps.length k1,cY p2 f.vs.length k2,cY (cP a) n k3])
 ·go_wp2_with fail;refine AEa.mono ?_;rintro e w4 ⟨⟨r,rfl⟩,hb4⟩;have Qa:=hX2.nx hb4;have hO4:=nI.nx hb4;have hb5:=AB hb3 hb4;cases r;rotate_left
  ·have z0:=hO4.c (i:=0) (by omega);have f0:=hO4.f (i:=0) (by omega);have hO5:=hO4.set (i:=0) (by omega) cA;have hb6:=hb5.trans (hO4.low 0 (cE cA));have WO:Ae (w4.setCell ⟨ow,0,cX⟩ (cE cA)) w.heap.size _:=Qa.far (q:=⟨ow,0,cX⟩) (λe=>hpx e.symm) (cE cA);go_wp2;go_meet;exact⟨_,by simpa using hlen,hO5,hb6,WO⟩
  have y4:=Qa.c 4 _ rfl;have hA:=hbk.out 0 (by rw[<-hnn.out];exact hp0);rw[Nat.zero_mul,show a.add 0=a by simp[Addr.add]]at hA;obtain⟨t1,t2,t3,hI,c0,c1,c2,c3,c4,c5,c6,c7,c8⟩:=hA.val;have hk:=AB h0 hb5;have hF:=Vp hk hI s;replace c0:=AA hk c0;replace c1:=AA hk c1;replace c2:=AA hk c2;replace c3:=AA hk c3;replace c4:=AA hk c4;replace c5:=AA hk c5;replace c6:=AA hk c6;replace c7:=AA hk c7;replace c8:=AA hk c8;generalize f.bs[0]=b0 at*;go_wp2_with fail;refine hF.mono ?_;rintro e w6 ⟨⟨r,rfl⟩,hb6⟩;have Ng:=Qa.nx hb6;have TP:=hO4.nx hb6;have BJ:=AB hb5 hb6;have z0:=TP.c (i:=0) (by omega);have f0:=TP.f (i:=0) (by omega);cases r
  ·have hO7:=TP.set (i:=0) (by omega) cC;have Bp:=BJ.trans (TP.low 0 (cE cC));have wR:Ae (w6.setCell ⟨ow,0,cX⟩ (cE cC)) w.heap.size _:=Ng.far (q:=⟨ow,0,cX⟩) (λe=>hpx e.symm) (cE cC);go_wp2;go_meet;exact⟨_,by simpa using hlen,hO7,Bp,wR⟩
  ·have hO7:=TP.set (i:=0) (by omega) cA;have Bp:=BJ.trans (TP.low 0 (cE cA));have wR:Ae (w6.setCell ⟨ow,0,cX⟩ (cE cA)) w.heap.size _:=Ng.far (q:=⟨ow,0,cX⟩) (λe=>hpx e.symm) (cE cA);go_wp2;go_meet;exact⟨_,by simpa using hlen,hO7,Bp,wR⟩
 obtain⟨o1,ho1,nI,hb1,hX1⟩:=hcut;obtain⟨w3,rfl⟩:=again wc;go_wp2;go_loopw[6] (λi wr=>∃(q:Nat) (o:List Bool),q<=n/\i=cI cJ (q:Int)/\o.length=n/\Lf wr w.heap.size ow o/\AA6 w wr/\Ae wr w.heap.size [cS f.n,cS f.r,cY p1 f.ps.length k1,cY p2 f.vs.length k2,cY (cP a) n k3]) (λi _=>n-(intOf i).toNat);exact⟨0,o1,AY,rfl,ho1,nI,hb1,hX1⟩;obtain⟨q,o,hq,rfl,ho,hO,hb,hX⟩:=hrel;have x4:=hX.c 4 _ rfl;by_cases hend:q=n
 ·subst hend;go_wp2;go_ret;exact⟨⟨ow,o,rfl,ho,hO⟩,hb⟩
 ·have hlt:q<n:=by omega
  have A8:(q:Int)<n:=by omega
  obtain⟨wo,rfl⟩:=again wr;go_wp2;go_loopw[7] (λi wr=>∃(q:Nat) (o:List Bool),q<=n/\i=cI cJ (q:Int)/\o.length=n/\Lf wr w.heap.size ow o/\AA6 w wr/\Ae wr w.heap.size [cS f.n,cS f.r,cY p1 f.ps.length k1,cY p2 f.vs.length k2,cY (cP a) n k3]) (λi _=>n-(intOf i).toNat);exact⟨0,o,AY,rfl,ho,hO,hb,hX⟩;obtain⟨j,o,hj,rfl,ho,hO,hb,hX⟩:=hrel;have x4:=hX.c 4 _ rfl;by_cases hend:j=n
  ·subst hend;go_wp2;go_roundw;exact⟨q+1,o,hlt,by go_num,ho,hO,hb,hX⟩;simp[intOf];omega
  ·have hjl:j<n:=(by omega);have AD1:(j:Int)<n:=(by omega);have zj:=hO.c (i:=j) (by omega);have hjb:j<f.bs.length:=(by rw[<-hnn.out];exact hjl);obtain⟨t1,t2,t3,hI,c0,c1,c2,c3,c4,c5,c6,c7,c8⟩:=(hbk.out j hjb).val;have hk:=AB h0 hb;have hS:=λW (hW:AA6 wr W)=>Ra (AB hk hW) hI (AQ) s;obtain⟨p5,k5,rfl⟩:=hI.c.slice;replace c0:=AA hk c0;replace c1:=AA hk c1;replace c2:=AA hk c2;replace c3:=AA hk c3;replace c4:=AA hk c4;replace c5:=AA hk c5;replace c6:=AA hk c6;replace c7:=AA hk c7;replace c8:=AA hk c8;generalize f.bs[j]=bj at*;generalize Q8 bj bj.cs.length s=sb at*;generalize o[j]=oj at*;have hbd:=(Below.refl wr.heap.size wr).drew;obtain⟨wv,rfl⟩:=again wr;go_upto_region 9 with fail;go_cut[62]from 42 to 61 (λv wx=>∃r:Bool,v=cE r/\AA6 wv wx)
   ·cases oj
    ·go_wp2;refine ALQ (S:=λ_ v=>AA6 wv v) hbd ?_;(iterate 21(first|(refine Ab.f (λz=>z.s) (λz=>AA z.s zj) ?_)|(refine Ab.skip rfl (λL w1 hS hi=>(hS)) ?_;(try simp only[pE]))));refine Ab.nil λw4 Bb=>?_;go_wp2;go_meet;exact⟨_,rfl,Bb⟩
    ·have hS1:=hS;go_wp2;refine ALQ (S:=λ_ v=>AA6 wv v) hbd ?_;(iterate 21(first|(refine Ab.f (λz=>z.s) (λz=>ALS (AA z.s zj) (ALS (AA z.s x4) (ALS (AA z.s c0) (ALS (AA z.s c1) (ALS (AA z.s c2) (ALS (AA z.s c3) (ALS (AA z.s c4) (ALS (AA z.s c5) (ALS (AA z.s c6) (ALS (AA z.s c7) (AA z.s c8))))))))))) ?_)|(refine Ab.c (λz=>hS1 _ z.s) (λz hb=>AB z.s hb) ?_)));refine Ab.nil λw4 Bb=>?_;go_wp2;go_meet;exact⟨_,rfl,Bb⟩
   obtain⟨r,rfl,hbc⟩:=hcut;obtain⟨w5,rfl⟩:=again wc;replace hO:=hO.nx hbc;replace hX:=hX.nx hbc;replace hb:=AB hb hbc;cases r;rotate_left
   ·go_wp2;go_roundw;exact⟨j+1,o,hjl,by go_num,ho,hO,hb,hX⟩;simp[intOf];omega
   go_wp2;go_loopw[8] (λi wr=>∃(k:Nat) (o:List Bool),k<=n/\i=cI cJ (k:Int)/\o.length=n/\Lf wr w.heap.size ow o/\AA6 w wr/\Ae wr w.heap.size [cS f.n,cS f.r,cY p1 f.ps.length k1,cY p2 f.vs.length k2,cY (cP a) n k3]) (λi _=>n-(intOf i).toNat);exact⟨0,o,AY,rfl,ho,hO,hb,hX⟩;obtain⟨k,o,hk,rfl,ho,hO,hb,hX⟩:=hrel;have x4:=hX.c 4 _ rfl;by_cases hend:k=n
   ·subst hend;go_wp2;go_roundw;exact⟨j+1,o,hjl,by go_num,ho,hO,hb,hX⟩;simp[intOf];omega
   ·have hkl:k<n:=(by omega);have jB:(k:Int)<n:=(by omega);have hkb:k<f.bs.length:=(by rw[<-hnn.out];exact hkl);obtain⟨x0,x1,x2,x3⟩:=hX.c4;have hL1:=hL wr (AB h0 hb) j hjl (k:Int);go_wp2_with fail;refine hL1.mono ?_;rintro e w6 ⟨⟨b2,rfl⟩,hb6⟩;have TP:=hO.nx hb6;have Ng:=hX.nx hb6;have BJ:=AB hb hb6;cases b2
    ·go_wp2;go_roundw;exact⟨k+1,o,hkl,by go_num,ho,TP,BJ,Ng⟩;simp[intOf];omega
    have y4:=Ng.c 4 _ rfl;obtain⟨t1,t2,t3,hI,c0,c1,c2,c3,c4,c5,c6,c7,c8⟩:=(hbk.out k hkb).val;have JH:=AB h0 BJ;have hF:=Vp JH hI s;replace c0:=AA JH c0;replace c1:=AA JH c1;replace c2:=AA JH c2;replace c3:=AA JH c3;replace c4:=AA JH c4;replace c5:=AA JH c5;replace c6:=AA JH c6;replace c7:=AA JH c7;replace c8:=AA JH c8;generalize f.bs[k]=bk at*;go_wp2_with fail;refine hF.mono ?_;rintro e w8 ⟨⟨b3,rfl⟩,Bp⟩;have pU:=TP.nx Bp;have nH:=Ng.nx Bp;have J9:=AB BJ Bp;cases b3;rotate_left
    ·go_wp2;go_roundw;exact⟨k+1,o,hkl,by go_num,ho,pU,J9,nH⟩;simp[intOf];omega
    have zk:=pU.c (i:=k) (by omega);have fk:=pU.f (i:=k) (by omega);have hO9:=pU.set (i:=k) (by omega) cC;have Wt:=J9.trans (pU.low k (cE cC));have wQ:Ae (w8.setCell ⟨ow,k,cX⟩ (cE cC)) w.heap.size _:=nH.far (q:=⟨ow,k,cX⟩) (λe=>hpx e.symm) (cE cC);have ho9:(o.set k cC).length=n:=(by simpa using ho);go_wp2;go_roundw;exact⟨k+1,_,hkl,by go_num,ho9,hO9,Wt,wQ⟩;simp[intOf];omega
section
theorem YI(h0:AA6 w0 w){f:Fn}(hf:EL w0 v f u1 u2 u3)(hn:f.bs.length<=10000){k:Nat}(hi:i<f.bs.length)(hk:k<=f.bs[i].cs.length)(s:ByteArray):Calls prog 188 #[v,cI cJ (i:Int),cI cJ (k:Int),cS s] w λe w'=>Zq e/\AA6 w w':=by
 have hB:=λW (hb:AA6 w0 W)=>gB hb hf hn (Nat.lt_of_le_of_lt (Nat.zero_le i) hi) s;obtain⟨rfl,-,hp,hv,hb⟩:=hf;obtain⟨p1,k1,rfl⟩:=hp.slice;obtain⟨p2,k2,rfl⟩:=hv.slice;obtain⟨p3,k3,rfl,-,-,hl⟩:=hb;obtain⟨a,rfl,hA⟩:=hl i f.bs[i] (by simp[hi]);obtain⟨t1,t2,t3,hI,c0,c1,c2,c3,c4,c5,c6,c7,c8⟩:=hA.val;have hb1:=AJ w (.cells #[cS f.n,cS f.r,cY p1 f.ps.length k1,cY p2 f.vs.length k2,cY (cP a) f.bs.length k3] 66);have hX:=Ae.alloc w [cS f.n,cS f.r,cY p1 f.ps.length k1,cY p2 f.vs.length k2,cY (cP a) f.bs.length k3] 66;have hB1:=hB _ (AB h0 hb1);have hS:=λW (hW:AA6 w0 W)=>Ra hW hI hk s;obtain⟨p5,k5,rfl⟩:=hI.c.slice;generalize f.bs[i]=b at*;generalize Q8 b k s=sb at*;have hiI:(i:Int)<f.bs.length:=by omega
 go_enter func188,ntmps188;go_wp2_with fail;refine hB1.mono ?_;rintro e w1 ⟨⟨pb,o,rfl,ho,hO⟩,hb2⟩;have hX1:=hX.nx hb2;have hb3:=AB hb1 hb2;have z:=hO.c (i:=i) (by omega);have x4:=hX1.c 4 _ rfl;have hk3:=AB h0 hb3;have hS1:=hS _ hk3;replace c0:=AA hk3 c0;replace c1:=AA hk3 c1;replace c2:=AA hk3 c2;replace c3:=AA hk3 c3;replace c4:=AA hk3 c4;replace c5:=AA hk3 c5;replace c6:=AA hk3 c6;replace c7:=AA hk3 c7;replace c8:=AA hk3 c8;generalize o[i]=oi at*;cases oi
 ·go_wp2;go_ret;exact⟨⟨_,rfl⟩,hb3⟩
 ·go_wp2_with fail;refine hS1.mono ?_;rintro e w2 ⟨rfl,hb4⟩;have hb5:=AB hb3 hb4;go_wp2;go_ret;exact⟨⟨_,rfl⟩,hb5⟩
structure WY(W:World)(c m:Nat)(V:Nat->Value)(L:Nat->Bool)(w:World):Prop where
 b:AA6 W w
 x:L c=cC->∃b:Bool,V c=cE b
 y:L m=cC->∃b:Bool,V m=cE b
section
variable {W w w2 : World} {c m : Nat} {V : Nat -> Value} {L : Nat -> Bool}
def WY.start(h:AA6 W w):WY W c m V (λ_=>cA) w:=⟨h,(λe=>by cases e),λe=>by cases e⟩
def WY.keep(h:WY W c m V L w)(h1:(c==i)=cA)(h2:(m==i)=cA):WY W c m V (upd L i) w:=⟨h.b,(λe=>by rw[Dm h1]at e;exact h.x e),λe=>by rw[Dm h2]at e;exact h.y e⟩
def WY.call(h:WY W c m V L w)(hb:AA6 w w2)(b:Bool)(h2:(m==c)=cA):WY W c m (EB V c (cE b)) (upd L c) w2:=
 ⟨AB h.b hb,(λ_=>⟨b,BL _ _ _⟩),λe=>by rw[Dm h2]at e;rw[Br V _ (λe=>by subst e;simp at h2)];exact h.y e⟩
def WY.turn(h:WY W c m V L w)(b:Bool)(h1:(c==m)=cA):WY W c m (EB V m (cE b)) (upd L m) w:=
 ⟨h.b,(λe=>by rw[Dm h1]at e;rw[Br V _ (λe=>by subst e;simp at h1)];exact h.x e),λ_=>⟨b,BL _ _ _⟩⟩
end
end
def NoX(f:Fn):Prop:=∀b∈f.bs,b.ps=[]/\∀x∈b.cs,x.fr=[]/\x.ob=[]/\x.as.length<=8
theorem SI(h0:AA6 w0 w){f:Fn}(hf:EL w0 v f u1 u2 u3)(hn:f.bs.length<=10000)(hno:NoX f):Calls prog 130 #[v] w λe w'=>Zq e/\AA6 w w':=by
 have hIS:=λW (hb:AA6 w0 W) i k (hi:i<f.bs.length) (hk:k<=f.bs[i].cs.length) s=>YI hb hf hn hi hk s;obtain⟨rfl,-,hp,hv,hb⟩:=hf;obtain⟨p1,k1,rfl⟩:=hp.slice;obtain⟨p2,k2,rfl⟩:=hv.slice;obtain⟨p3,k3,rfl,-,-,hl⟩:=hb;clear hp hv;go_enter func130,ntmps130;go_wp2;generalize Cr:w.alloc _=W at*;obtain⟨hb1,hX⟩:=ng Cr;clear Cr;go_loopw[3] (λi wr=>∃q:Nat,q<=f.bs.length/\i=cI cJ (q:Int)/\AA6 W wr) (λi _=>f.bs.length-(intOf i).toNat);exact⟨0,AY,rfl,AL⟩;obtain⟨q,hq,rfl,hb⟩:=hrel;have hX1:=hX.nx hb;have hbb:=AB hb1 hb;have x4:=hX1.c 4 _ rfl;by_cases hend:q=f.bs.length
 ·subst hend;clear hl hIS hX hX1 hno;go_wp2;go_ret;exact⟨⟨_,rfl⟩,hbb⟩
 ·have hlt:q<f.bs.length:=by omega
  have A8:(q:Int)<f.bs.length:=by omega
  obtain⟨a,rfl,hA⟩:=hl q f.bs[q] (by simp[hlt]);obtain⟨t1,t2,t3,hI,c0,c1,c2,c3,c4,c5,c6,c7,c8⟩:=hA.val;obtain⟨hps,hcs⟩:=hno f.bs[q] (List.getElem_mem hlt);have jM:=λW (hb:AA6 w0 W) k hk s=>hIS W hb q k hlt hk s;obtain⟨-,-,hip,hic,hit⟩:=hI;obtain⟨p5,k5,rfl⟩:=hip.slice;obtain⟨p6,k6,rfl,-,⟨hn6,-⟩,hic⟩:=hic;obtain⟨p7,k7,rfl⟩:=hit.slice;have hp0:f.bs[q].ps.length=0:=by rw[hps];rfl
  rw[hp0]at c1;have hk:=AB h0 hbb;replace c0:=AA hk c0;replace c1:=AA hk c1;replace c2:=AA hk c2;replace c3:=AA hk c3;replace c4:=AA hk c4;replace c5:=AA hk c5;replace c6:=AA hk c6;replace c7:=AA hk c7;replace c8:=AA hk c8;clear hl hIS hA hip hit hps hp0 hno;generalize f.bs[q]=b at*;generalize f.bs.length=n at*;go_upto_region 5 with fail;generalize Cr:wr.alloc _=W2 at*;obtain⟨hb2,hY⟩:=ng Cr;clear Cr c0 c1 c2 c3 c4 c5 c6 c7 c8 x4;have hX2:=hX1.nx hb2;have yJ:=AB hb hb2;have qp:=AB hbb hb2;obtain⟨yb,hyb⟩:∃yb,wr.heap.size=yb:=⟨_,rfl⟩;replace hb2:=ABE hyb hb2;rw[hyb]at hY⊢;obtain⟨wo,rfl⟩:=again wr;go_wp2;go_loopw[5] (λi wr=>∃k:Nat,k<=b.cs.length/\i=cI cJ (k:Int)/\AA6 W2 wr) (λi _=>b.cs.length-(intOf i).toNat);exact⟨0,AY,rfl,AL⟩;obtain⟨k,hkn,rfl,hb3⟩:=hrel;have Y7:=hX2.nx hb3;have vH:=hY.nx hb3;have Qq:=AB qp hb3;have hk3:=AB h0 Qq;have y2:=vH.c 2 _ rfl;by_cases hend:k=b.cs.length
  ·subst hend;have hI1:=jM _ hk3 b.cs.length (AQ) b.e.a.s;obtain⟨-,-,-,y3,y4,y5⟩:=vH.c6;obtain⟨x0,x1,x2,x3,x4⟩:=Y7.c5;obtain⟨wv,rfl⟩:=again wr;go_upto_region 14 with fail;go_cut[82]from 53 to 81 (λv wx=>∃r:Bool,v=cE r/\AA6 wv wx)
   ·generalize b.e.k=ek at*;generalize b.e.a.k=ak at*;generalize b.e.a.s=es at*
    cases e1:((ek:Int)==2)with
    |true=>
     cases e3:((ak:Int)==1)with
     |false=>
      go_wp2;go_meet
      exact⟨_,rfl,AL⟩
     |true=>
      go_wp2_with fail;refine hI1.mono ?_;rintro e w7 ⟨⟨r,rfl⟩,BJ⟩;cases r
      ·go_wp2;go_meet;exact⟨_,rfl,BJ⟩
      ·go_wp2;go_meet
       exact⟨_,rfl,BJ⟩
    |false=>
     cases e2:((ek:Int)==3)with
     |false=>
      go_wp2;go_meet
      exact⟨_,rfl,AL⟩
     |true=>
      cases e3:((ak:Int)==1)with
      |false=>
       go_wp2;go_meet
       exact⟨_,rfl,AL⟩
      |true=>
       go_wp2_with fail;refine hI1.mono ?_;rintro e w7 ⟨⟨r,rfl⟩,BJ⟩;cases r
       ·go_wp2;go_meet;exact⟨_,rfl,BJ⟩
       ·go_wp2;go_meet;exact⟨_,rfl,BJ⟩
   obtain⟨r,rfl,hb4⟩:=hcut;obtain⟨w4,rfl⟩:=again wc;have hY4:=vH.nx hb4;have y1:=hY4.c 1 _ rfl;have hbn:=AB (AB yJ hb3) hb4;have hbf:=AB Qq hb4;clear hI1 y2 y3 y4 y5 x0 x1 x2 x3 x4 hX hX2 Y7 hY vH hY4 jM hb3 hb4 qp Qq hk3;cases r;rotate_left
   ·go_wp2;go_ret;exact⟨⟨_,rfl⟩,hbf⟩
   go_wp2;go_loopw[8] (λi wr=>i=cI cJ 0/\wr=w4) (λ_ _=>0);exact⟨rfl,rfl⟩;obtain⟨rfl,rfl⟩:=hrel;go_wp2;go_roundw;exact⟨q+1,hlt,by go_num,hbn⟩;simp[intOf];omega
  ·have hkl:k<b.cs.length:=(by omega);have jB:(k:Int)<b.cs.length:=(by omega);obtain⟨a6,rfl,hAI⟩:=hic k b.cs[k] (by simp[hkl]);obtain⟨s1,s2,s3,hI,d0,d1,d2,d3,d4,d5⟩:=hAI.val;obtain⟨hfr,Nc,has⟩:=hcs b.cs[k] (List.getElem_mem hkl);have hU:=bD hk3 hI has hfr Nc;obtain⟨g1,j1,rfl⟩:=hI.a.slice;obtain⟨g2,j2,rfl⟩:=hI.f.slice;obtain⟨g3,j3,rfl⟩:=hI.o.slice;replace d0:=AA hk3 d0;replace d1:=AA hk3 d1;replace d2:=AA hk3 d2;replace d3:=AA hk3 d3;replace d4:=AA hk3 d4;replace d5:=AA hk3 d5;have AEe:=λW (hb:AA6 wr W) s=>jM W (AB hk3 hb) k (Nat.le_of_lt hkl) s;clear hic hcs jM hAI hI hfr Nc has hX hX2 hY qp;generalize b.cs[k]=ik at*;go_wp2_with fail;refine hU.mono ?_;rintro e w5 ⟨⟨_,o,rfl,hrow,ho⟩,hb5⟩;have WO:=Y7.nx hb5;have AEE:=AB hb3 hb5;have AEI:=AB Qq hb5;obtain⟨g5,j5,rfl,-,-,hro⟩:=hrow;obtain⟨wv,rfl⟩:=again wr;go_wp2;go_loopw[7] (λi wr=>∃j:Nat,j<=o.length/\i=cI cJ (j:Int)/\AA6 w5 wr) (λi _=>o.length-(intOf i).toNat);exact⟨0,AY,rfl,AL⟩;obtain⟨j,hj,rfl,hb6⟩:=hrel;by_cases hend:j=o.length
   ·subst hend;have AED:=AB AEE hb6;go_wp2;go_roundw;exact⟨k+1,hkl,by go_num,AED⟩;simp[intOf];omega
   ·have hjl:j<o.length:=(by omega);have AD1:(j:Int)<o.length:=(by omega);obtain⟨a7,rfl,e0,-⟩:=hro j o[j] (by simp[hjl]);rw[Nat.mul_one]at e0;replace e0:=AA hb6 e0;have Ng:=WO.nx hb6;obtain⟨x0,x1,x2,x3,x4⟩:=Ng.c5;have Yx:=λW (hb:AA6 wr W)=>AEe W (AB (AB hb5 hb6) hb) o[j];have Wq:=AB AEI hb6;generalize o[j]=sj at*;have hbd:=(Below.refl wr.heap.size wr).drew;go_wp2;refine ALR (S:=WY wr 7 8) (WY.start hbd) ?_;(iterate 7((refine AU.f (λz=>z.s.keep rfl rfl) (λz=>ALS (AA z.s.b x0) (ALS (AA z.s.b x1) (ALS (AA z.s.b x2) (ALS (AA z.s.b x3) (ALS (AA z.s.b x4) (AA z.s.b e0)))))) ?_)));refine AU.free (λ_=>rfl) (λV L w1 K' Q' hS hi hR hd hK=>?_) ?_
    ·have hI7:=Yx _ hS.b;go_simp;(go_wp2_with(refine hI7.mono ?_;rintro e w2 ⟨⟨b7,rfl⟩,hb⟩));(try simp only[pE]);exact hK.out _ _ rfl (hS.call hb b7 rfl)
    (try simp only[pE]);refine AU.free (λ_=>rfl) (λV L w1 K' Q' hS hi hR hd hK=>?_) ?_
    ·obtain⟨b7,hp⟩:=hS.x (hd.out 7 (by kernel_rfl));simp only[hp];go_simp;exact hK.out _ _ (by simp only[hp];rfl) (hS.turn _ rfl)
    (try simp only[pE]);refine AU.nil λV w7 hS=>?_;obtain⟨b8,hV⟩:=hS.y rfl;have BJ:=hS.b;simp only[hV];have ZX:=AB Wq BJ;have qo:=AB hb6 BJ;cases b8
    ·go_wp2;go_roundw;exact⟨j+1,by omega,by go_num,qo⟩;simp[intOf];omega
    ·go_wp2;go_ret;exact⟨⟨_,rfl⟩,ZX⟩
theorem Ms{α:Type}{nm:α->ByteArray}:∀{l:List α} {b:α},b∈l->∃k,Cu nm (nm b) l=cP k
 | [],_,h=>by cases h
 |y::r,b,h=>by
  unfold Cu;by_cases e:nm y=nm b
  ·rw[if_pos e];exact⟨0,rfl⟩
  ·rw[if_neg e];rcases List.mem_cons.1 h with rfl|h
   ·exact absurd rfl e
   ·obtain⟨k,hk⟩:=Ms (nm:=nm) h;exact⟨k+1,by rw[hk];rfl⟩
def Zn(f:Fn)(j:Nat)(b:Bk):Prop:=Cu Bk.n b.n f.bs=cP j/\∀y∈b.e.to,∃k,Cu Bk.n y f.bs=cP (k+1)
def Z9(P:Prop)(e:Ending):Prop:=∃b:Bool,e=.returned (cE b)/\(b=cC->P)
def rJ(f:Fn):Prop:=f.bs≠ []/\∀(j:Nat) b,f.bs[j]? =cP b->Zn f j b
theorem sH{q:Nat}(h:(Y1 r !=(q:Int))=cA)(hs:∃k,r=cP k):r=cP q:=by grind [Y1]
def dF(h1:r.isSome=cC)(h:((Y1 r:Int)==0)=cA):∃k,r=cP (k+1):=by
 obtain⟨k,rfl⟩:=Option.isSome_iff_exists.1 h1
 cases k with
 |zero=>simp[Y1]at h
 |succ k=>exact⟨k,rfl⟩
theorem Ui(h0:AA6 w0 w){f:Fn}(hf:EL w0 v f u1 u2 u3)(hn:f.bs.length<=10000):Calls prog 127 #[v] w λe w'=>Z9 (rJ f) e/\AA6 w w':=by
 have hP:=λW (hb:AA6 w0 W) x=>NH hb hf x;have hC:=λW (hb:AA6 w0 W)=>fT hb hf hn;obtain⟨rfl,-,hp,hv,hb⟩:=hf;obtain⟨p1,k1,rfl⟩:=hp.slice;obtain⟨p2,k2,rfl⟩:=hv.slice;obtain⟨p3,k3,rfl,-,-,hl⟩:=hb;go_enter func127,ntmps127;go_wp2;generalize Cr:w.alloc _=W at*;obtain⟨hb1,hX⟩:=ng Cr;go_loopw[3] (λi wr=>∃q:Nat,q<=f.bs.length/\i=cI cJ (q:Int)/\Hid (∀(j:Nat) b,j<q->f.bs[j]? =cP b->Zn f j b)/\AA6 W wr) (λi _=>f.bs.length-(intOf i).toNat);exact⟨0,AY,rfl,Wx (λj b h=>absurd h (Nat.not_lt_zero _)),AL⟩;obtain⟨q,hq,rfl,hS,hb⟩:=hrel;have hX1:=hX.nx hb;have hbb:=AB hb1 hb;obtain⟨x0,x1,x2,x3,x4⟩:=hX1.c5;by_cases hend:q=f.bs.length
 ·subst hend;have iL:=hC _ (AB h0 hbb);have TL:∀(j:Nat) b,f.bs[j]? =cP b->Zn f j b:=λj b h=>hS.out j b (List.getElem?_eq_some_iff.1 h).1 h;replace TL:=Wx TL;have hne:0<f.bs.length->rJ f:=λh=>⟨(λe=>by rw[e]at h;simp at h),TL.out⟩;replace hne:=Wx hne;generalize f.bs.length=n at*;go_wp2_with fail;refine iL.mono ?_;rintro e w2 ⟨⟨pb,o,rfl,ho,hO⟩,hb2⟩;have hb3:=AB hbb hb2;go_wp2;obtain⟨wo,rfl⟩:=again wr;go_loopw[12] (λi wr=>∃q:Nat,q<=n/\i=cI cJ (q:Int)/\wr=w2) (λi _=>n-(intOf i).toNat);exact⟨0,AY,rfl,rfl⟩;obtain⟨q,hq,rfl,rfl⟩:=hrel;by_cases hend:q=n
  ·subst hend
   cases hd:decide ((0:Int)<(q:Int))with
   |true=>
    have pK:=BK hd;have hdN:0<q:=(by omega);have hF:=Wx (hne.out hdN);go_wp2;go_ret
    exact⟨⟨_,rfl,λ_=>hF.out⟩,hb3⟩
   |false=>
    have pK:=CJ hd;have hdN:¬0<q:=(by omega);go_wp2;go_ret;exact⟨⟨_,rfl,λh=>by cases h⟩,hb3⟩
  ·have hlt:q<n:=(by omega);have A8:(q:Int)<n:=(by omega);have z:=hO.c (i:=q) (by omega);generalize o[q]=bq at*;cases bq
   ·go_wp2;go_ret;exact⟨⟨_,rfl,λh=>by cases h⟩,hb3⟩
   ·go_wp2;go_roundw;exact⟨q+1,by omega,by go_num,trivial⟩;simp[intOf];omega
 ·have hlt:q<f.bs.length:=by omega
  have A8:(q:Int)<f.bs.length:=by omega
  obtain⟨a,rfl,⟨d0,-⟩,-,-,-,-,⟨u4,t4,r4⟩,-⟩:=hl q f.bs[q] (by simp[hlt]);obtain⟨p4,k4,rfl,-,⟨iH,-⟩,hl4⟩:=r4;have hk:=AB h0 hbb;replace d0:=AA hk d0;have hmem:f.bs[q]∈f.bs:=List.getElem_mem hlt;have hget:f.bs[q]? =cP f.bs[q]:=by simp[hlt]
  have hix:=Ms (nm:=Bk.n) hmem;have hN:Zn f q f.bs[q]->∀(j:Nat) b,j<q+1->f.bs[j]? =cP b->Zn f j b:=λhs j b hj hjb=>by
   by_cases e:j=q
   ·subst e;rw[hget]at hjb;obtain rfl:=Option.some.inj hjb;exact hs
   ·exact hS.out j b (by omega) hjb
  replace hN:=Wx hN;replace hix:=Wx hix;generalize f.bs[q]=bk at*;have hP1:∀W',AA6 wr W'->∀s,Calls prog 55 #[.agg #[cS f.n,cS f.r,cY p1 f.ps.length k1,cY p2 f.vs.length k2,cY (cP a) f.bs.length k3],cS s] W' λe w'=>e=.returned (.tuple #[cI cJ (Y1 (Cu Bk.n s f.bs)),cE (Cu Bk.n s f.bs).isSome])/\AA6 W' w':=λW' hb' s=>(hP W' (AB hk hb') s).mono λ_ _ h=>⟨aG h.2,h.1⟩;have hbd:=(Below.refl wr.heap.size wr).drew;have hP2:=λW' hb'=>hP1 W' hb' bk.n;have hsz:(Cu Bk.n bk.n f.bs).isSome=cC:=by obtain⟨k,e⟩:=hix.out;rw[e];rfl
  rw[hsz]at hP2;obtain⟨pk,hpk⟩:∃pk,pk=Y1 (Cu Bk.n bk.n f.bs):=⟨_,rfl⟩;rw[<-hpk]at hP2;replace hpk:=Wx hpk;go_wp2;refine ALQ (S:=λ_ v=>AA6 wr v) hbd ?_;iterate 13(first|(refine Ab.f (λz=>z.s) (λz=>ALS (AA z.s x0) (ALS (AA z.s x1) (ALS (AA z.s x2) (ALS (AA z.s x3) (ALS (AA z.s x4) (AA z.s d0)))))) ?_)|(refine Ab.c (λz=>hP2 _ z.s) (λz hb=>AB z.s hb) ?_))
  refine Ab.nil λw4 Bb=>?_;have hb4:=AB hb Bb;have hbz:=AB hbb Bb;have Qa:=hX.nx hb4
  cases hpq:((pk:Int) !=(q:Int))with
  |true=>
   go_wp2;go_ret
   exact⟨⟨_,rfl,λh=>by cases h⟩,hbz⟩
  |false=>
   have hidx:Cu Bk.n bk.n f.bs=cP q:=sH (by rw[<-hpk.out];exact hpq) hix.out;replace hidx:=Wx hidx;have t5:=AA (AB h0 hbz) t4;have y4:=Qa.c 4 _ rfl;obtain⟨lt,hlt2⟩:∃lt,lt=bk.e.to:=⟨_,rfl⟩;rw[<-hlt2]at hl4 t5 iH;replace hlt2:=Wx hlt2;obtain⟨wo,rfl⟩:=again wr;go_wp2;go_loopw[7] (λi wr=>∃m:Nat,m<=lt.length/\i=cI cJ (m:Int)/\Hid (∀y∈lt.take m,∃k,Cu Bk.n y f.bs=cP (k+1))/\AA6 w4 wr) (λi _=>lt.length-(intOf i).toNat);exact⟨0,AY,rfl,Wx (by simp),AL⟩;obtain⟨m,hm,rfl,hT,hb5⟩:=hrel;have WO:=Qa.nx hb5;have hbr:=AB Bb hb5;have hbf:=AB hbz hb5;by_cases hend:m=lt.length
   ·subst hend;have TL:=hN.out ⟨hidx.out,by have:=hT.out;rw[List.take_length,hlt2.out]at this;exact this⟩;replace TL:=Wx TL;have hbn:=AB hb4 hb5;go_wp2;go_roundw;exact⟨q+1,hlt,by go_num,TL,hbn⟩;simp[intOf];omega
   ·have hml:m<lt.length:=(by omega);have AJW:(m:Int)<lt.length:=(by omega);obtain⟨b,rfl,e0,-⟩:=hl4 m lt[m] (by simp[hml]);have hel:∀j (hj:j<lt.length),w0.cell? (b.add j)=cP (cS lt[j]):=λj hj=>by
     obtain⟨b',eb,h1,-⟩:=hl4 j lt[j] (by simp[hj]);obtain rfl:b=b':=(by simpa using eb);rw[Nat.mul_one]at h1;exact h1
    replace hel:=Wx hel;rw[Nat.mul_one]at e0;have hk5:=AB h0 hbf;replace e0:=AA hk5 e0;have VL:(∃k,Cu Bk.n lt[m] f.bs=cP (k+1))->∀y∈lt.take (m+1),∃k,Cu Bk.n y f.bs=cP (k+1):=λh y hy=>by
     rw[List.take_succ_eq_append_getElem hml]at hy;rcases List.mem_append.1 hy with h1|h1
     ·exact hT.out y h1
     ·rw[List.mem_singleton.1 h1];exact h
    replace VL:=Wx VL;have hP3:=λW' hb'=>hP1 W' (AB hbr hb') lt[m];obtain⟨sm,hsm⟩:∃sm,sm=lt[m]:=⟨_,rfl⟩;rw[<-hsm]at e0 hP3 VL;replace hsm:=Wx hsm;have hpl:(Cu Bk.n sm f.bs).isSome=cC->((Y1 (Cu Bk.n sm f.bs):Int)==0)=cA->∃k,Cu Bk.n sm f.bs=cP (k+1):=dF;obtain⟨ik,hik⟩:∃ik,ik=Cu Bk.n sm f.bs:=⟨_,rfl⟩;rw[<-hik]at hP3 hpl;replace hik:=Wx hik;generalize Y1 ik=pm at*;generalize hok:ik.isSome=ok at*;replace hpl:=Wx hpl;obtain⟨y0,y1,y2,y3,y4'⟩:=WO.c5;have hbd:=(Below.refl wr.heap.size wr).drew;go_wp2;refine ALQ (S:=λ_ v=>AA6 wr v) hbd ?_;(iterate 11(first|(refine Ab.f (λz=>z.s) (λz=>ALS (AA z.s y0) (ALS (AA z.s y1) (ALS (AA z.s y2) (ALS (AA z.s y3) (ALS (AA z.s y4') (AA z.s e0)))))) ?_)|(refine Ab.c (λz=>hP3 _ z.s) (λz hb=>AB z.s hb) ?_)));refine Ab.nil λw6 H6=>?_;have hb6:=AB hb5 H6;have Wq:=AB hbf H6;cases ok
    ·go_wp2;go_ret;exact⟨⟨_,rfl,λh=>by cases h⟩,Wq⟩
    cases hz:((pm:Int)==0)with
    |true=>
     go_wp2;go_ret
     exact⟨⟨_,rfl,λh=>by cases h⟩,Wq⟩
    |false=>
     have hT1:=VL.out (by have:=hpl.out rfl hz;rw[hik.out]at this;exact this);replace hT1:=Wx hT1;obtain⟨wv,rfl⟩:=again wr;go_wp2;go_loopw[10] (λi wr=>∃j:Nat,j<=m/\i=cI cJ (j:Int)/\AA6 w6 wr) (λi _=>m-(intOf i).toNat);exact⟨0,AY,rfl,AL⟩;obtain⟨j,hj,rfl,BJ⟩:=hrel;by_cases hend:j=m
     ·subst hend;have hbn:=AB hb6 BJ;go_wp2;go_roundw;exact⟨j+1,hml,by go_num,hT1,hbn⟩;simp[intOf];omega
     ·have hjm:j<m:=(by omega);have AJg:(j:Int)<m:=(by omega);have hjl:(j:Int)<lt.length:=(by omega);have hjn:j<lt.length:=(by omega);have JH:=AB h0 (AB Wq BJ);have g1:=AA JH (hel.out j hjn);have g2:=AA JH (hel.out m hml);rw[<-hsm.out]at g2;generalize lt[j]=sj at*;have hbn:=AB Wq BJ
      cases e1:(sj.toList==sm.toList)with
      |true=>
       go_wp2;refine ALQ (S:=λ_ v=>v=wr.drew) rfl ?_;(iterate 9((apply Ab.z rfl;intro L w1 _ _ _ z hK;have hS:=z.s;(subst hS);go_simp;exact hK (rfl);rfl)));refine Ab.nil λw8 iJ=>?_;subst iJ;go_wp2;go_ret
       exact⟨⟨_,rfl,λh=>by cases h⟩,hbn.drew⟩
      |false=>
       have Bp:=BJ.drew;go_wp2;refine ALQ (S:=λ_ v=>v=wr.drew) rfl ?_;(iterate 9((apply Ab.z rfl;intro L w1 _ _ _ z hK;have hS:=z.s;(subst hS);go_simp;exact hK (rfl);rfl)));refine Ab.nil λw8 iJ=>?_;subst iJ;go_wp2;go_roundw;exact⟨j+1,by omega,by go_num,Bp⟩;simp[intOf];omega
end Go.Proofs.YtlffomedflegdaaGreatDoor
