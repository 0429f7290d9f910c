/- Part 37 of 49 of the proof: Qe, Qf, Sa, Sb, Sc. -/
import Derived.Test.YtlffomedflegdaaGreatDoorPz00
import Derived.Test.YtlffomedflegdaaGreatDoorPz13
import Derived.Test.YtlffomedflegdaaGreatDoorPz35
import Derived.Test.YtlffomedflegdaaGreatDoorPz36
set_option linter.all false
set_option maxHeartbeats 16000000
set_option maxRecDepth 100000
namespace Go.Proofs.YtlffomedflegdaaGreatDoor
open Go.Proofs.Tryz
open Go.RowKit
variable {i:Nat}{u1 u2 u3 v:Value}{w w0:World}
theorem Xm(h0:AA6 w0 w){x y:Pg}{u4:Value}(hv:Cj w0 v x u1 u2 u3 u4){v' y1 y2 y3 y4:Value}(hv':Cj w0 v' y y1 y2 y3 y4):Calls prog 124 #[v,v'] w fun e w'=>IC (x=y) e/\AA6 w w':=by
 obtain⟨rfl,hc,hg,hx,hf⟩:=hv;obtain⟨rfl,hc',hg',hx',hf'⟩:=hv';have hA:=fun W (hW:AA6 w0 W)=>I5 hW hg hg';obtain⟨p1,k1,rfl,-,hn1,hc⟩:=hc;obtain⟨q1,l1,rfl,-,hm1,hc'⟩:=hc';obtain⟨p2,k2,rfl⟩:=hg.slice;obtain⟨q2,l2,rfl⟩:=hg'.slice;obtain⟨p3,k3,rfl,-,QY,hx⟩:=hx;obtain⟨q3,l3,rfl,-,vG,hx'⟩:=hx';obtain⟨p4,k4,rfl,-,iH,hf⟩:=hf;obtain⟨q4,l4,rfl,-,hm4,hf'⟩:=hf';clear hg hg';have hb1:=AJ w (.cells #[.bool x.ssa,.slice p1 x.cs.length k1,.slice p2 x.gs.length k2,.slice p3 x.xs.length k3,.slice p4 x.fs.length k4] 27);have hb2:=hb1.alloc hb1.size (.cells #[.bool y.ssa,.slice q1 y.cs.length l1,.slice q2 y.gs.length l2,.slice q3 y.xs.length l3,.slice q4 y.fs.length l4] 27);have hX:=(Ae.alloc w [.bool x.ssa,.slice p1 x.cs.length k1,.slice p2 x.gs.length k2,.slice p3 x.xs.length k3,.slice p4 x.fs.length k4] 27).al (.cells #[.bool y.ssa,.slice q1 y.cs.length l1,.slice q2 y.gs.length l2,.slice q3 y.xs.length l3,.slice q4 y.fs.length l4] 27);have hY:=Ae.alloc (w.alloc (.cells #[.bool x.ssa,.slice p1 x.cs.length k1,.slice p2 x.gs.length k2,.slice p3 x.xs.length k3,.slice p4 x.fs.length k4] 27)) [.bool y.ssa,.slice q1 y.cs.length l1,.slice q2 y.gs.length l2,.slice q3 y.xs.length l3,.slice q4 y.fs.length l4] 27;have z1:(w.alloc (.cells #[.bool x.ssa,.slice p1 x.cs.length k1,.slice p2 x.gs.length k2,.slice p3 x.xs.length k3,.slice p4 x.fs.length k4] 27)).heap.size=w.heap.size+1:=by simp
 rw[z1]at hY;clear hb1 z1;obtain⟨sx,hsx⟩:∃sx,sx=x.ssa:=⟨_,rfl⟩;obtain⟨sy,hsy⟩:∃sy,sy=y.ssa:=⟨_,rfl⟩;rw[<-hsx,<-hsy]at hb2 hX hY⊢;replace hsx:=hidden hsx;replace hsy:=hidden hsy;go_enter func124,ntmps124;go_upto_region 1 with fail;generalize Cr:(w.alloc _).alloc _=W at*;clear Cr;go_cut[47]from 8 to 46 (fun v wx=>∃r:Bool,v=.bool r/\(r=false->HdP x y)/\(r=true->x≠y)/\AA6 W wx)
 ·have hA1:=hA _ (AB h0 hb2);obtain⟨a0,a1,a2⟩:=hX.c3;obtain⟨b0,b1,b2⟩:=hY.c3;clear hc hc' hx hx' hf hf' hA hn1 hm1 QY vG iH hm4;by_cases hs:sx=sy;rotate_left
  ·cases sx<;>cases sy<;>first|exact absurd rfl hs|((go_wp2_with fail;go_meet;(case rel=>exact⟨_,rfl,(fun h=>by cases h),(fun _=>(fun e=>by have h1:=hsx.out;have h2:=hsy.out;rw[e,<-h2]at h1;cases h1)),(AL)⟩)))
  subst hs;have qD:=hidden (hsx.out.symm.trans hsy.out)
  cases e2:((x.cs.length:Int) !=(y.cs.length:Int))with
  |true=>(go_wp2_with fail;go_meet;(case rel=>exact⟨_,rfl,(fun h=>by cases h),(fun _=>(fun e=>by rw[e]at e2;simp at e2)),(AL)⟩))
  |false=>
  go_wp2_with fail;refine hA1.mono ?_;rintro e w1 ⟨⟨r,rfl,hr,hr'⟩,hb3⟩;replace hr:=hidden hr;replace hr':=hidden hr';clear hA1;cases r
  ·(go_wp2_with fail;go_meet;(case rel=>exact⟨_,rfl,(fun h=>by cases h),(fun _=>(fun e=>hr'.out (by trivial) (by rw[e]))),(hb3)⟩))
  have hX1:=hX.nx hb3;have nG:=hY.nx hb3;obtain⟨-,-,-,a3,a4⟩:=hX1.c5;obtain⟨-,-,-,b3,b4⟩:=nG.c5;clear hX hY
  cases e5:((x.xs.length:Int) !=(y.xs.length:Int))with
  |true=>(go_wp2_with fail;go_meet;(case rel=>exact⟨_,rfl,(fun h=>by cases h),(fun _=>(fun e=>by rw[e]at e5;simp at e5)),(hb3)⟩))
  |false=>
  cases e6:((x.fs.length:Int) !=(y.fs.length:Int))with
  |true=>(go_wp2_with fail;go_meet;(case rel=>exact⟨_,rfl,(fun h=>by cases h),(fun _=>(fun e=>by rw[e]at e6;simp at e6)),(hb3)⟩))
  |false=>
  have hH:HdP x y:=⟨qD.out,Y5 e2,hr.out (by trivial),Y5 e5,Y5 e6⟩;go_wp2;go_meet;exact⟨_,rfl,(fun _=>hH),(fun h=>by cases h),hb3⟩
 obtain⟨r,rfl,hr,hr',hb3⟩:=hcut;obtain⟨w1,rfl⟩:∃w1:World,w1=wc:=⟨_,rfl⟩;have hb5:=AB hb2 hb3;replace hX:=hX.nx hb3;replace hY:=hY.nx hb3;clear hb2 hb3 hA;cases r;rotate_left
 ·have hne:=hidden (hr' rfl);clear hr hr' hc hc' hx hx' hf hf';(go_wp2_with fail;go_ret;exact⟨Bj (hne.out),(hb5)⟩)
 have hH:=hr rfl;clear hr hr';have hcl:=hidden hH.c;have hxl:=hidden hH.m;have hfl:=hidden hH.f;go_wp2;go_loopw[5] (fun i wr=>∃q:Nat,q<=x.cs.length/\i=.int .i64 (q:Int)/\Hid (x.cs.take q=y.cs.take q)/\AA6 w1 wr) (fun i _=>x.cs.length-(intOf i).toNat);exact⟨0,AY,rfl,hidden (by simp),AL⟩;obtain⟨q,hq,rfl,hT,hb⟩:=hrel;replace hX:=hX.nx hb;replace hY:=hY.nx hb;have x1:=hX.c 1 _ rfl;have y1:=hY.c 1 _ rfl;have hb6:=AB hb5 hb;by_cases hend:q=x.cs.length
 ·subst hend;have hCC:x.cs=y.cs:=Cz hT.out hcl.out;replace hCC:=hidden hCC;clear hc hc' hb hb5 hT;go_wp2;clear x1 y1;obtain⟨wo,rfl⟩:∃wo:World,wo=wr:=⟨_,rfl⟩;go_loopw[6] (fun i wr=>∃q:Nat,q<=x.xs.length/\i=.int .i64 (q:Int)/\Hid (x.xs.take q=y.xs.take q)/\AA6 wo wr) (fun i _=>x.xs.length-(intOf i).toNat);exact⟨0,AY,rfl,hidden (by simp),AL⟩;obtain⟨q,hq,rfl,hT,hb⟩:=hrel;replace hX:=hX.nx hb;replace hY:=hY.nx hb;have x3:=hX.c 3 _ rfl;have y3:=hY.c 3 _ rfl;have BJ:=AB hb6 hb;by_cases hend:q=x.xs.length
  ·subst hend;have hXX:x.xs=y.xs:=Cz hT.out hxl.out;replace hXX:=hidden hXX;clear hx hx' hb hb6 hT;go_wp2;clear x3 y3;obtain⟨wp,rfl⟩:∃wp:World,wp=wr:=⟨_,rfl⟩;go_loopw[7] (fun i wr=>∃q:Nat,q<=x.fs.length/\i=.int .i64 (q:Int)/\Hid (x.fs.take q=y.fs.take q)/\AA6 wp wr) (fun i _=>x.fs.length-(intOf i).toNat);exact⟨0,AY,rfl,hidden (by simp),AL⟩;obtain⟨q,hq,rfl,hT,hb⟩:=hrel;replace hX:=hX.nx hb;replace hY:=hY.nx hb;have x4:=hX.c 4 _ rfl;have y4:=hY.c 4 _ rfl;have Bp:=AB BJ hb;clear hX hY;by_cases hend:q=x.fs.length
   ·subst hend;have TK:x=y:=hH.eq hCC.out hXX.out (Cz hT.out hfl.out);replace TK:=hidden TK;clear hf hf' hb BJ hT;go_wp2;go_ret;exact⟨Ir TK.out,Bp⟩
   ·have hlt:q<x.fs.length:=(by omega);have A8:(q:Int)<x.fs.length:=(by omega);have hlt':q<y.fs.length:=(by have:=hfl.out;omega);have JJ:(q:Int)<y.fs.length:=(by omega);obtain⟨b,rfl,hI0⟩:=hf q x.fs[q] (by simp[hlt]);obtain⟨b',rfl,jN⟩:=hf' q y.fs[q] (by simp[hlt']);clear hf hf';obtain⟨t1,t2,t3,hI,c0,c1,c2,c3,c4⟩:=hI0.val;obtain⟨s1,s2,s3,hI',d0,d1,d2,d3,d4⟩:=jN.val;have hk:=AB h0 Bp;have hS:=fun W (hW:AA6 wr W)=>Xn (AB hk hW) hI hI';have hN:x.fs[q]=y.fs[q]->x.fs.take (q+1)=y.fs.take (q+1):=fun h=>Cy hT.out hlt hlt' h;have hM:x.fs[q]≠y.fs[q]->x≠y:=fun h e=>by
     subst e;exact h rfl
    clear hI hI' hI0 jN hT hH;have c0:=AA hk c0;have c1:=AA hk c1;have c2:=AA hk c2;have c3:=AA hk c3;have c4:=AA hk c4;have d0:=AA hk d0;have d1:=AA hk d1;have d2:=AA hk d2;have d3:=AA hk d3;have d4:=AA hk d4;generalize x.fs[q]=m1 at*;generalize y.fs[q]=m2 at*;have J9:=(Below.refl wr.heap.size wr).drew;clear hk;by_cases hm:m1=m2
    ·have hS1:∀W,AA6 wr W->Calls prog 177 #[.agg #[.string m1.n,.string m1.r,t1,t2,t3],.agg #[.string m2.n,.string m2.r,s1,s2,s3]] W fun e w'=>e=.returned (.bool true)/\AA6 W w':=fun W hW=>(hS W hW).mono fun _ _ h=>⟨h.1.yes hm,h.2⟩;have hN1:=hidden (hN hm);clear hS hN hM hm;go_wp2_with fail;refine AO (S:=fun _ v=>AA6 wr v) rfl (by kernel_rfl) J9 ?_;(iterate 12(first|(apply Ab.z rfl;intro L w1 _ _ _ z hK;(have x4:=AA z.s x4;have y4:=AA z.s y4;have c0:=AA z.s c0;have d0:=AA z.s d0;have c1:=AA z.s c1;have d1:=AA z.s d1;have c2:=AA z.s c2;have d2:=AA z.s d2;have c3:=AA z.s c3;have d3:=AA z.s d3;have c4:=AA z.s c4;have d4:=AA z.s d4);go_simp;exact hK (z.s);rfl)|(apply Ab.y rfl;intro L w1 _ _ z hK;go_simp;go_wp2_with((refine(hS1 _ z.s).mono ?_;rintro e w2 ⟨rfl,hb⟩));(try simp only[pE]);exact hK.out _ (AB z.s hb);rfl)));refine Ab.nil fun w4 Bb=>?_;have hbz:=AB hb Bb;clear J9 hS1 c0 c1 c2 c3 c4 d0 d1 d2 d3 d4 x4 y4;go_wp2;go_roundw;exact⟨q+1,by omega,by go_num,hN1,hbz⟩;simp[intOf];omega
    ·have hS1:∀W,AA6 wr W->Calls prog 177 #[.agg #[.string m1.n,.string m1.r,t1,t2,t3],.agg #[.string m2.n,.string m2.r,s1,s2,s3]] W fun e w'=>e=.returned (.bool false)/\AA6 W w':=fun W hW=>(hS W hW).mono fun _ _ h=>⟨h.1.no hm,h.2⟩;have hne:=hidden (hM hm);clear hS hN hM hm;go_wp2_with fail;refine AO (S:=fun _ v=>AA6 wr v) rfl (by kernel_rfl) J9 ?_;(iterate 12(first|(apply Ab.z rfl;intro L w1 _ _ _ z hK;(have x4:=AA z.s x4;have y4:=AA z.s y4;have c0:=AA z.s c0;have d0:=AA z.s d0;have c1:=AA z.s c1;have d1:=AA z.s d1;have c2:=AA z.s c2;have d2:=AA z.s d2;have c3:=AA z.s c3;have d3:=AA z.s d3;have c4:=AA z.s c4;have d4:=AA z.s d4);go_simp;exact hK (z.s);rfl)|(apply Ab.y rfl;intro L w1 _ _ z hK;go_simp;go_wp2_with((refine(hS1 _ z.s).mono ?_;rintro e w2 ⟨rfl,hb⟩));(try simp only[pE]);exact hK.out _ (AB z.s hb);rfl)));refine Ab.nil fun w4 Bb=>?_;have hbz:=AB Bp Bb;clear J9 hS1 c0 c1 c2 c3 c4 d0 d1 d2 d3 d4 x4 y4;(go_wp2_with fail;go_ret;exact⟨Bj (hne.out),(hbz)⟩)
  ·have hlt:q<x.xs.length:=(by omega);have A8:(q:Int)<x.xs.length:=(by omega);have hlt':q<y.xs.length:=(by have:=hxl.out;omega);have JJ:(q:Int)<y.xs.length:=(by omega);obtain⟨a,rfl,⟨c0,-⟩,c1⟩:=hx q x.xs[q] (by simp[hlt]);obtain⟨a',rfl,⟨d0,-⟩,d1⟩:=hx' q y.xs[q] (by simp[hlt']);have hk:=AB h0 BJ;have c0:=AA hk c0;have c1:=AA hk c1;have d0:=AA hk d0;have d1:=AA hk d1;have hN:Qu x.xs[q] y.xs[q]=true->x.xs.take (q+1)=y.xs.take (q+1):=fun h=>Cy hT.out hlt hlt' (lZ h);have hM:Qu x.xs[q] y.xs[q]=false->x≠y:=fun h e=>by
    subst e;rw[Yd]at h;cases h
   have hE:∀w,(Op.equalIn 10000 155 (.agg #[.string x.xs[q].n,.int .i64 x.xs[q].k]) (.agg #[.string y.xs[q].n,.int .i64 y.xs[q].k])).run prog w=.ok (Qu x.xs[q] y.xs[q]) w:=fun w=>AAk _ _ _ _ w;generalize Qu x.xs[q] y.xs[q]=bb at*;clear hx hx' hf hf' hT hk hX hY hb6 hH;replace hN:=hidden hN;replace hM:=hidden hM;generalize x.xs[q].n=s at*;generalize x.xs[q].k=t at*;generalize y.xs[q].n=s' at*;generalize y.xs[q].k=t' at*;go_wp2_with fail;refine AO (S:=fun _ v=>v=wr.drew) rfl (by kernel_rfl) rfl ?_;(iterate 11((apply Ab.z rfl;intro L w1 _ _ _ z hK;have hS:=z.s;(subst hS);go_simp;exact hK (rfl);rfl)));refine Ab.nil fun w4 Bb=>?_;subst Bb;have Bp:=hb.drew;have hbz:=BJ.drew;clear c0 c1 d0 d1 x3 y3 hE;cases bb
   ·have hne:=hidden (hM.out (by trivial));(go_wp2_with fail;go_ret;exact⟨Bj (hne.out),(hbz)⟩)
   ·go_wp2;go_roundw;exact⟨q+1,by omega,by go_num,hidden (hN.out (by trivial)),Bp⟩;simp[intOf];omega
 ·have hlt:q<x.cs.length:=by omega
  have A8:(q:Int)<x.cs.length:=by omega
  have hlt':q<y.cs.length:=by have:=hcl.out;omega
  have JJ:(q:Int)<y.cs.length:=by omega
  obtain⟨a,rfl,⟨c0,-⟩,m,c1,r⟩:=hc q x.cs[q] (by simp[hlt]);obtain⟨a',rfl,⟨d0,-⟩,m',d1,r'⟩:=hc' q y.cs[q] (by simp[hlt']);have hk:=AB h0 hb6;have c0:=AA hk c0;have c1:=AA hk c1;have d0:=AA hk d0;have d1:=AA hk d1;have hS:=fun W (hW:AA6 wr W)=>I5 (AB hk hW) r r';have hN:x.cs[q].n=y.cs[q].n->x.cs[q].fs=y.cs[q].fs->x.cs.take (q+1)=y.cs.take (q+1):=fun h1 h2=>Cy hT.out hlt hlt' (AAr h1 h2);have hM1:x.cs[q].n≠y.cs[q].n->x≠y:=fun h e=>by
   subst e;exact h rfl
  have hM2:x.cs[q].fs≠y.cs[q].fs->x≠y:=fun h e=>by
   subst e;exact h rfl
  obtain⟨g,j,rfl⟩:=r.slice;obtain⟨g',j',rfl⟩:=r'.slice;clear hc hc' hx hx' hf hf' r r' hT hX hY hk hH;generalize x.cs[q].n=s at*;generalize x.cs[q].fs=vs at*;generalize y.cs[q].n=s' at*;generalize y.cs[q].fs=vs' at*;replace hN:=hidden hN;replace hM1:=hidden hM1;replace hM2:=hidden hM2;have BJ:=(Below.refl wr.heap.size wr).drew
  cases e1:(s.toList==s'.toList)with
  |false=>
   go_wp2_with fail;refine AO (S:=fun _ v=>AA6 wr v) rfl (by kernel_rfl) BJ ?_;(iterate 29(first|(apply Ab.z rfl;intro L w1 _ _ _ z hK;(have x1:=AA z.s x1;have y1:=AA z.s y1;have c0:=AA z.s c0;have d0:=AA z.s d0;have c1:=AA z.s c1;have d1:=AA z.s d1);go_simp;exact hK (z.s);rfl)|(refine Ab.skip rfl (fun L w1 hS hi=>(hS)) ?_;(try simp only[pE]))));refine Ab.nil fun w4 Bb=>?_;have Bp:=AB hb6 Bb;have hne:=hidden (hM1.out fun e=>by rw[e]at e1;simp at e1);clear BJ c0 c1 d0 d1 x1 y1 Bb
   (go_wp2_with fail;go_ret;exact⟨Bj (hne.out),(Bp)⟩)
  |true=>
   have qD:=hidden (Y4 e1);by_cases e2:vs=vs'
   ·have hS1:∀W,AA6 wr W->Calls prog 176 #[.slice g vs.length j,.slice g' vs'.length j'] W fun e w'=>e=.returned (.bool true)/\AA6 W w':=fun W hW=>(hS W hW).mono fun _ _ h=>⟨h.1.yes e2,h.2⟩;have hN1:=hidden (hN.out qD.out e2);clear hS hN hM1 hM2 e2;go_wp2_with fail;refine AO (S:=fun _ v=>AA6 wr v) rfl (by kernel_rfl) BJ ?_;(iterate 29(first|(apply Ab.z rfl;intro L w1 _ _ _ z hK;(have x1:=AA z.s x1;have y1:=AA z.s y1;have c0:=AA z.s c0;have d0:=AA z.s d0;have c1:=AA z.s c1;have d1:=AA z.s d1);go_simp;exact hK (z.s);rfl)|(apply Ab.y rfl;intro L w1 _ _ z hK;go_simp;go_wp2_with((refine(hS1 _ z.s).mono ?_;rintro e w2 ⟨rfl,hb⟩));(try simp only[pE]);exact hK.out _ (AB z.s hb);rfl)));refine Ab.nil fun w4 Bb=>?_;have Bp:=AB hb Bb;clear BJ hS1 c0 c1 d0 d1 x1 y1 Bb;go_wp2;go_roundw;exact⟨q+1,by omega,by go_num,hN1,Bp⟩;simp[intOf];omega
   ·have hS1:∀W,AA6 wr W->Calls prog 176 #[.slice g vs.length j,.slice g' vs'.length j'] W fun e w'=>e=.returned (.bool false)/\AA6 W w':=fun W hW=>(hS W hW).mono fun _ _ h=>⟨h.1.no e2,h.2⟩;have hne:=hidden (hM2.out e2);clear hS hN hM1 hM2 e2;go_wp2_with fail;refine AO (S:=fun _ v=>AA6 wr v) rfl (by kernel_rfl) BJ ?_;(iterate 29(first|(apply Ab.z rfl;intro L w1 _ _ _ z hK;(have x1:=AA z.s x1;have y1:=AA z.s y1;have c0:=AA z.s c0;have d0:=AA z.s d0;have c1:=AA z.s c1;have d1:=AA z.s d1);go_simp;exact hK (z.s);rfl)|(apply Ab.y rfl;intro L w1 _ _ z hK;go_simp;go_wp2_with((refine(hS1 _ z.s).mono ?_;rintro e w2 ⟨rfl,hb⟩));(try simp only[pE]);exact hK.out _ (AB z.s hb);rfl)));refine Ab.nil fun w4 Bb=>?_;have Bp:=AB hb6 Bb;clear BJ hS1 c0 c1 d0 d1 x1 y1 Bb;(go_wp2_with fail;go_ret;exact⟨Bj (hne.out),(Bp)⟩)
section
open Word Num Dp
theorem Uj(h0:AA6 w0 w)(hW:Words w0){p:Pg}{vp u4:Value}(hp:Cj w0 vp p u1 u2 u3 u4)(hr:Ky p)(hf:Q0 p):Calls prog 67 #[vp] w fun e w'=>(∃b:Bool,e=.returned (.bool b)/\(b=true->WH 5000000 p))/\AA6 w w':=by
 have hL:=fun W (hb:AA6 w0 W)=>YC hb hW hp hr hf;have hpp:=hp;obtain⟨rfl,hc,hg,hx,hfs⟩:=hp;obtain⟨p1,k1,rfl⟩:=hc.slice;obtain⟨p2,k2,rfl⟩:=hg.slice;obtain⟨p3,k3,rfl⟩:=hx.slice;obtain⟨p4,k4,rfl⟩:=hfs.slice;have hb1:=AJ w (.cells #[.bool p.ssa,.slice p1 p.cs.length k1,.slice p2 p.gs.length k2,.slice p3 p.xs.length k3,.slice p4 p.fs.length k4] 27);have hX:=Ae.alloc w [.bool p.ssa,.slice p1 p.cs.length k1,.slice p2 p.gs.length k2,.slice p3 p.xs.length k3,.slice p4 p.fs.length k4] 27;have hL1:=hL _ (AB h0 hb1);generalize p.cs.length=n1 at*;generalize p.gs.length=n2 at*;generalize p.xs.length=n3 at*;generalize p.fs.length=n4 at*;obtain⟨sa,hsa⟩:∃sa,sa=p.ssa:=⟨_,rfl⟩;rw[<-hsa]at hb1 hX hL1 hpp⊢;replace hsa:=hidden hsa;go_enter func67,ntmps67;go_wp2_with fail;refine hL1.mono ?_;rintro e w1 ⟨⟨s,rfl,hs⟩,hb2⟩;have hb3:=AB hb1 hb2;have hP:=Xv s hs (hW.kp (AB h0 hb3));replace hX:=hX.nx hb2;go_wp2_with fail;refine hP.mono ?_;rintro e w2 ⟨⟨v,n,why,rfl,⟨b,q1,q2,q3,q4,m1,c1,m2,c2,m3,c3,m4,c4,rfl⟩,hq⟩,hb4⟩;have hb5:=AB hb3 hb4;replace hX:=hX.nx hb4;have hb6:=AJ w2 (.cells #[.bool b,.slice q1 m1 c1,.slice q2 m2 c2,.slice q3 m3 c3,.slice q4 m4 c4] 27);have hY:=Ae.alloc w2 [.bool b,.slice q1 m1 c1,.slice q2 m2 c2,.slice q3 m3 c3,.slice q4 m4 c4] 27;have Ng:=hX.nx hb6;have BJ:=AB hb5 hb6;replace hq:=hidden hq;go_upto_region 2 with fail;generalize Cr:w2.alloc _=W at*;obtain⟨y0,y1,y2,y3,y4⟩:=hY.c5;obtain⟨x0,x1,x2,x3,x4⟩:=Ng.c5
 cases VK:(why==0)with
 |false=>
  go_wp2;go_ret
  exact⟨⟨_,rfl,fun h=>by cases h⟩,BJ⟩
 |true=>
  have hw0:why=0:=by simpa using VK
  obtain⟨q,_,_,_,_,hqv,hqq⟩:=hq.out hw0;have hS:=Xm (Below.refl W.heap.size W) (hpp.kp (AB h0 BJ)) (hqv.kp hb6);replace hqq:=hidden hqq;replace hw0:=hidden hw0;go_wp2_with fail;refine hS.mono ?_;rintro e w4 ⟨⟨r,rfl,hr1,-⟩,Bp⟩;replace hr1:=hidden hr1;go_wp2;go_ret;exact⟨⟨_,rfl,fun h=>by rw[hr1.out h];exact hqq.out⟩,AB BJ Bp⟩
end
def iU(s:ByteArray)(i:Is):Bool:= !(s.toList==[])&& (i.d.toList==s.toList)
def Q8(b:Bk)(n:Nat)(s:ByteArray):Bool:=(b.cs.take n).any (iU s)
def Zq(e:Ending):Prop:=∃b:Bool,e=.returned (.bool b)
theorem Ra(h0:AA6 w0 w){x:Bk}(hv:Qw w0 v x u1 u2 u3){n:Nat}(hn:n<=x.cs.length)(s:ByteArray):Calls prog 223 #[v,.int .i64 (n:Int),.string s] w fun e w'=>e=.returned (.bool (Q8 x n s))/\AA6 w w':=by
 obtain⟨rfl,-,hp,hc,ht⟩:=hv;obtain⟨p1,k1,rfl⟩:=hp.slice;obtain⟨p2,k2,rfl,-,⟨hn2,-⟩,hc⟩:=hc;obtain⟨p3,k3,rfl⟩:=ht.slice;clear hp ht;have hb1:=AJ w (.cells #[.string x.n,.slice p1 x.ps.length k1,.slice p2 x.cs.length k2,.int .i64 x.e.k,.int .i64 x.e.a.k,.string x.e.a.s,.int .i64 x.e.a.n,.slice p3 x.e.to.length k3,.int .i64 x.e.n] 82);have hX:=Ae.alloc w [.string x.n,.slice p1 x.ps.length k1,.slice p2 x.cs.length k2,.int .i64 x.e.k,.int .i64 x.e.a.k,.string x.e.a.s,.int .i64 x.e.a.n,.slice p3 x.e.to.length k3,.int .i64 x.e.n] 82;have x2:=hX.c 2 _ rfl;clear hX;obtain⟨R,hR⟩:∃R,R=Q8 x n s:=⟨_,rfl⟩;rw[<-hR];unfold Q8 at hR;have hln:(x.cs.take n).length=n:=by simp;omega
 have hR0:R=((x.cs.take n).drop 0).any (iU s):=by rw[List.drop_zero];exact hR
 replace hR0:=hidden hR0;replace hln:=hidden hln;clear hR;have hnI:(n:Int)<=x.cs.length:=by omega
 go_enter func223,ntmps223;go_wp2;generalize Cr:w.alloc _=W at*;go_loopw[7] (fun i wr=>∃q:Nat,q<=n/\i=.int .i64 (q:Int)/\Hid (R=((x.cs.take n).drop q).any (iU s))/\wr=W) (fun i _=>n-(intOf i).toNat);exact⟨0,AY,rfl,hR0,rfl⟩;obtain⟨q,hq,rfl,hR,rfl⟩:=hrel;by_cases hend:q=n
 ·subst hend;have hR:=hR.out;rw[List.drop_of_length_le (by rw[hln.out];omega)]at hR;obtain rfl:R=false:=hR;go_wp2;go_ret;exact⟨rfl,hb1⟩
 ·have hlt:q<n:=by omega
  have A8:(q:Int)<n:=by omega
  have hlx:q<x.cs.length:=by omega
  have AJY:(q:Int)<x.cs.length:=by omega
  have hR:=hR.out;rw[List.drop_eq_getElem_cons (by rw[hln.out];exact hlt),List.any_cons,List.getElem_take]at hR;obtain⟨a,rfl,-,⟨d1,-⟩,-⟩:=hc q x.cs[q] (by simp[hlx]);replace d1:=AA (AB h0 hb1) d1;have hP:iU s x.cs[q]=(!(s.toList==[])&& (x.cs[q].d.toList==s.toList)):=rfl;rw[hP]at hR;clear hP;generalize x.cs[q].d=d at*;clear hc
  cases e1:(s.toList==[])with
  |true=>
   rw[e1,Bool.not_true,Bool.false_and,Bool.false_or]at hR;replace hR:=hidden hR;go_wp2;go_roundw;exact⟨q+1,hlt,by go_num,hR,trivial⟩
   simp[intOf];omega
  |false=>
   cases e2:(d.toList==s.toList)with
   |true=>
    rw[e1,e2]at hR;obtain rfl:R=true:=(by simpa using hR);obtain rfl:d=s:=Ic e2;clear e2 hR;go_wp2;go_ret
    exact⟨rfl,hb1⟩
   |false=>
    rw[e1,e2,Bool.and_false,Bool.false_or]at hR;replace hR:=hidden hR;go_wp2;go_roundw;exact⟨q+1,hlt,by go_num,hR,trivial⟩;simp[intOf];omega
theorem Xw(h0:AA6 w0 w){f:Fn}(hv:EL w0 v f u1 u2 u3)(s:ByteArray):Calls prog 242 #[v,.string s] w fun e w'=>Zq e/\AA6 w w':=by
 obtain⟨rfl,-,hp,hc,ht⟩:=hv;obtain⟨p1,k1,rfl,-,⟨hn2,-⟩,hp⟩:=hp;obtain⟨p2,k2,rfl⟩:=hc.slice;obtain⟨p3,k3,rfl⟩:=ht.slice;have hb1:=AJ w (.cells #[.string f.n,.string f.r,.slice p1 f.ps.length k1,.slice p2 f.vs.length k2,.slice p3 f.bs.length k3] 66);have hX:=Ae.alloc w [.string f.n,.string f.r,.slice p1 f.ps.length k1,.slice p2 f.vs.length k2,.slice p3 f.bs.length k3] 66;have x2:=hX.c 2 _ rfl;go_enter func242,ntmps242;go_wp2;generalize Cr:w.alloc _=W at*;go_loopw[5] (fun i wr=>∃q:Nat,q<=f.ps.length/\i=.int .i64 (q:Int)/\wr=W) (fun i _=>f.ps.length-(intOf i).toNat);exact⟨0,AY,rfl,rfl⟩;obtain⟨q,hq,rfl,rfl⟩:=hrel;by_cases hend:q=f.ps.length
 ·subst hend;go_wp2;go_ret;exact⟨⟨_,rfl⟩,hb1⟩
 ·have hlt:q<f.ps.length:=by omega
  have A8:(q:Int)<f.ps.length:=by omega
  obtain⟨a,rfl,⟨d1,-⟩,-⟩:=hp q f.ps[q] (by simp[hlt]);replace d1:=AA (AB h0 hb1) d1;generalize f.ps[q].n=d at*
  cases e2:(d.toList==s.toList)with
  |true=>
   go_wp2;go_ret
   exact⟨⟨_,rfl⟩,hb1⟩
  |false=>
   go_wp2;go_roundw;exact⟨q+1,by omega,by go_num,trivial⟩;simp[intOf];omega
theorem Vp(h0:AA6 w0 w){x:Bk}(hv:Qw w0 v x u1 u2 u3)(s:ByteArray):Calls prog 243 #[v,.string s] w fun e w'=>Zq e/\AA6 w w':=by
 obtain⟨rfl,-,hp,hc,ht⟩:=hv;obtain⟨p1,k1,rfl,-,⟨hn2,-⟩,hp⟩:=hp;obtain⟨p2,k2,rfl⟩:=hc.slice;obtain⟨p3,k3,rfl⟩:=ht.slice;have hb1:=AJ w (.cells #[.string x.n,.slice p1 x.ps.length k1,.slice p2 x.cs.length k2,.int .i64 x.e.k,.int .i64 x.e.a.k,.string x.e.a.s,.int .i64 x.e.a.n,.slice p3 x.e.to.length k3,.int .i64 x.e.n] 82);have hX:=Ae.alloc w [.string x.n,.slice p1 x.ps.length k1,.slice p2 x.cs.length k2,.int .i64 x.e.k,.int .i64 x.e.a.k,.string x.e.a.s,.int .i64 x.e.a.n,.slice p3 x.e.to.length k3,.int .i64 x.e.n] 82;have x1:=hX.c 1 _ rfl;go_enter func243,ntmps243;go_wp2;generalize Cr:w.alloc _=W at*;go_loopw[5] (fun i wr=>∃q:Nat,q<=x.ps.length/\i=.int .i64 (q:Int)/\wr=W) (fun i _=>x.ps.length-(intOf i).toNat);exact⟨0,AY,rfl,rfl⟩;obtain⟨q,hq,rfl,rfl⟩:=hrel;by_cases hend:q=x.ps.length
 ·subst hend;go_wp2;go_ret;exact⟨⟨_,rfl⟩,hb1⟩
 ·have hlt:q<x.ps.length:=by omega
  have A8:(q:Int)<x.ps.length:=by omega
  obtain⟨a,rfl,⟨d1,-⟩,-⟩:=hp q x.ps[q] (by simp[hlt]);replace d1:=AA (AB h0 hb1) d1;generalize x.ps[q].d=d at*
  cases e2:(d.toList==s.toList)with
  |true=>
   go_wp2;go_ret
   exact⟨⟨_,rfl⟩,hb1⟩
  |false=>
   go_wp2;go_roundw;exact⟨q+1,by omega,by go_num,trivial⟩;simp[intOf];omega
def RN(w':World)(n:Nat)(e:Ending):Prop:=∃(v:Value) (o:List ByteArray),e=.returned v/\Row DL 1 w' v o/\o.length<=n
theorem bK{B:Nat}{o:List ByteArray}{F:List Nat}(h:AZ w B 9 1 (o.map dS) v F)(hz:∀x∈o,Sz x)(hn:o.length<=1000000):Row DL 1 w v o:=
 h.view (fun _=>rfl) (fun _ _ _ _ a b=>vS a b) (by unfold Ln;omega) hz
theorem Xo(h0:AA6 w0 w){u:Value}{l:List ByteArray}(hl:Row DL 1 w0 u l)(hn:l.length<=10000)(s:ByteArray)(hs:Sz s):Calls prog 241 #[u,.string s] w fun e w'=>RN w' (2*l.length+1) e/\AA6 w w':=by
 obtain⟨p,c,rfl,-,-,hl⟩:=hl;go_enter func241,ntmps241;go_wp2;go_loopw[5,6] (fun v i wr=>∃(q:Nat) (o:List ByteArray) (F:List Nat),q<=l.length/\i=.int .i64 (q:Int)/\o.length<=q/\AZ wr w.heap.size 9 1 (o.map dS) v F/\F.Nodup/\Hid (∀x∈o,Sz x)/\AA6 w wr) (fun _ i _=>l.length-(intOf i).toNat);exact⟨0,[],[],AY,rfl,AQ,.nil,by simp,hidden (fun x h=>by cases h),AL⟩;obtain⟨q,o,F,hq,rfl,hoq,hv,hF,hz,hb⟩:=hrel;obtain⟨pv,cv,rfl⟩:=hv.slice;rw[List.length_map]at hv⊢;by_cases hend:q=l.length
 ·subst hend;obtain⟨wo,rfl⟩:∃wo:World,wo=wr:=⟨_,rfl⟩;have hB2:=Ae.alloc wo [.string s] 9;have hb4:=hb.alloc hb.size (.cells #[.string s] 9);have hv2:=hv.same (w':=wo.alloc (.cells #[.string s] 9)) fun b hb'=>Below.heap_alloc _ _ _ (hv.fp b hb').2;go_upto_region 8 with(at_builtin;refine HY rfl P5 _ _ rfl rfl hv2 hF rfl hB2 (by simp[Value.oneCell']) (Af.str hB2) (by simp) (by simp) rfl rfl (by rw[List.length_map];omega) (by decide) hb4.size ?_;rintro v' w3 F' ⟨N7,Nh,rfl⟩ h1 h2 h3 h4 h5)
  have hb5:=hb4.trans h5;have h1':AZ w3 w.heap.size 9 1 ((o++[s]).map dS) (.slice N7 ((List.map dS o).length+1) Nh) F':=by rw[List.map_append];exact h1
  rw[List.length_map]at h1';have hz1:Hid (∀x∈o++[s],Sz x):=hidden fun x hx=>by
   rcases List.mem_append.1 hx with h|h
   ·exact hz.out x h
   ·rw[List.mem_singleton.1 h];exact hs
  have ho1:(o++[s]).length<=l.length+1:=by simp;omega
  have ho2:(o++[s]).length=o.length+1:=by simp
  rw[<-ho2]at h1'⊢;generalize o++[s]=o1 at*;clear h1 h3 h4 h5 hv hv2 hB2 hb hb4 hz hF hoq ho2;go_wp2;go_loopw[5,7] (fun v i wr=>∃(q:Nat) (o:List ByteArray) (F:List Nat),q<=l.length/\i=.int .i64 (q:Int)/\o.length<=l.length+1+q/\AZ wr w.heap.size 9 1 (o.map dS) v F/\F.Nodup/\Hid (∀x∈o,Sz x)/\AA6 w wr) (fun _ i _=>l.length-(intOf i).toNat);exact⟨0,o1,F',AY,rfl,ho1,h1',h2,hz1,hb5⟩;clear h1' h2 hz1 hb5 ho1;obtain⟨q,o,F,hq,rfl,hoq,hv,hF,hz,hb⟩:=hrel;obtain⟨pv,cv,rfl⟩:=hv.slice;rw[List.length_map]at hv⊢;by_cases hend:q=l.length
  ·subst hend;go_wp2;go_ret;exact⟨⟨_,o,rfl,bK hv hz.out (by omega),by omega⟩,hb⟩
  ·have hlt:q<l.length:=(by omega);have A8:(q:Int)<l.length:=(by omega);obtain⟨a,rfl,d0,hsz⟩:=hl q l[q] (by simp[hlt]);rw[Nat.mul_one]at d0;replace d0:=AA (AB h0 hb) d0;generalize l[q]=t at*;obtain⟨wo,rfl⟩:∃wo:World,wo=wr:=⟨_,rfl⟩;go_upto_region 11 with fail;go_cut[42]from 37 to 41 (fun v wx=>∃b:Bool,v=.bool b/\wx=wo)
   ·go_wp2;go_meet;exact⟨_,rfl,rfl⟩
   obtain⟨b,rfl,rfl⟩:=hcut;obtain⟨wo,rfl⟩:∃w1:World,w1=wc:=⟨_,rfl⟩;cases b
   ·clear d0;go_wp2;go_roundw;exact⟨q+1,o,F,hlt,by go_num,by omega,hv,hF,hz,hb⟩;simp[intOf];omega
   ·have hB2:=Ae.alloc wo [.string t] 9;have hb4:=hb.alloc hb.size (.cells #[.string t] 9);have hv2:=hv.same (w':=wo.alloc (.cells #[.string t] 9)) fun b hb'=>Below.heap_alloc _ _ _ (hv.fp b hb').2;(go_wp2_with(at_builtin;refine HY rfl P5 _ _ rfl rfl hv2 hF rfl hB2 (by simp[Value.oneCell']) (Af.str hB2) (by simp) (by simp) rfl rfl (by rw[List.length_map];omega) (by decide) hb4.size ?_;rintro v' w3 F' ⟨N7,Nh,rfl⟩ h1 h2 h3 h4 h5));have hb5:=hb4.trans h5;have h1':AZ w3 w.heap.size 9 1 ((o++[t]).map dS) (.slice N7 ((List.map dS o).length+1) Nh) F':=(by rw[List.map_append];exact h1);rw[List.length_map]at h1';have hz1:Hid (∀x∈o++[t],Sz x):=hidden fun x hx=>by
     rcases List.mem_append.1 hx with h|h
     ·exact hz.out x h
     ·rw[List.mem_singleton.1 h];exact hsz
    have ho1:(o++[t]).length<=l.length+1+(q+1):=(by simp;omega);clear h1 h3 h4 h5 hv hv2 hB2 hb hb4 hz hF d0;go_roundw;exact⟨q+1,o++[t],F',hlt,by go_num,ho1,h1',h2,hz1,hb5⟩;simp[intOf];omega
 ·have hlt:q<l.length:=by omega
  have A8:(q:Int)<l.length:=by omega
  obtain⟨a,rfl,d0,hsz⟩:=hl q l[q] (by simp[hlt]);rw[Nat.mul_one]at d0;replace d0:=AA (AB h0 hb) d0;generalize l[q]=t at*;obtain⟨wo,rfl⟩:∃wo:World,wo=wr:=⟨_,rfl⟩;go_upto_region 5 with fail;go_cut[19]from 14 to 18 (fun v wx=>∃b:Bool,v=.bool b/\wx=wo)
  ·go_wp2;go_meet;exact⟨_,rfl,rfl⟩
  obtain⟨b,rfl,rfl⟩:=hcut;obtain⟨wo,rfl⟩:∃w1:World,w1=wc:=⟨_,rfl⟩;cases b
  ·clear d0;go_wp2;go_roundw;exact⟨q+1,o,F,hlt,by go_num,by omega,hv,hF,hz,hb⟩;simp[intOf];omega
  ·have hB2:=Ae.alloc wo [.string t] 9;have hb4:=hb.alloc hb.size (.cells #[.string t] 9);have hv2:=hv.same (w':=wo.alloc (.cells #[.string t] 9)) fun b hb'=>Below.heap_alloc _ _ _ (hv.fp b hb').2;(go_wp2_with(at_builtin;refine HY rfl P5 _ _ rfl rfl hv2 hF rfl hB2 (by simp[Value.oneCell']) (Af.str hB2) (by simp) (by simp) rfl rfl (by rw[List.length_map];omega) (by decide) hb4.size ?_;rintro v' w3 F' ⟨N7,Nh,rfl⟩ h1 h2 h3 h4 h5));have hb5:=hb4.trans h5;have h1':AZ w3 w.heap.size 9 1 ((o++[t]).map dS) (.slice N7 ((List.map dS o).length+1) Nh) F':=(by rw[List.map_append];exact h1);rw[List.length_map]at h1';have hz1:Hid (∀x∈o++[t],Sz x):=hidden fun x hx=>by
    rcases List.mem_append.1 hx with h|h
    ·exact hz.out x h
    ·rw[List.mem_singleton.1 h];exact hsz
   have ho1:(o++[t]).length<=q+1:=(by simp;omega);go_roundw;exact⟨q+1,o++[t],F',hlt,by go_num,ho1,h1',h2,hz1,hb5⟩;simp[intOf];omega
theorem Yn(h0:AA6 w0 w){u:Value}{l:List ByteArray}(hl:Row DL 1 w0 u l)(hn:l.length<=10000)(x:Ag)(hs:Sz x.s):Calls prog 221 #[u,.agg #[.int .i64 x.k,.string x.s,.int .i64 x.n]] w fun e w'=>RN w' (2*l.length+1) e/\AA6 w w':=by
 have hb1:=AJ w (.cells #[.int .i64 x.k,.string x.s,.int .i64 x.n] 77);have hX:=Ae.alloc w [.int .i64 x.k,.string x.s,.int .i64 x.n] 77;obtain⟨x0,x1⟩:=hX.c2;have hP:=Xo (AB h0 hb1) hl hn x.s hs;have hr:RN (w.alloc (.cells #[.int .i64 x.k,.string x.s,.int .i64 x.n] 77)) (2*l.length+1) (.returned u):=⟨u,l,rfl,Row.s (AB h0 hb1) hl,by omega⟩;obtain⟨p,c,rfl⟩:=hl.slice;generalize x.k=k at*;generalize x.s=s at*;generalize x.n=n at*
 cases e1:((k:Int)==1)with
 |true=>
  go_enter func221,ntmps221;go_wp2_with fail;refine hP.mono ?_;rintro e w2 ⟨⟨v,o,rfl,hv⟩,hb2⟩;have hb3:=AB hb1 hb2;replace hv:=hidden hv;go_wp2;go_ret
  exact⟨⟨v,o,rfl,hv.out⟩,hb3⟩
 |false=>
  replace hr:=hidden hr;go_enter func221,ntmps221;go_wp2;go_ret;exact⟨hr.out,hb1⟩
theorem bD(h0:AA6 w0 w){x:Is}(hv:Pv w0 v x u1 u2 u3)(h8:x.as.length<=8)(hfr:x.fr=[])(Nc:x.ob=[]):Calls prog 187 #[v] w fun e w'=>RN w' 1000 e/\AA6 w w':=by
 obtain⟨rfl,-,ha,hf,ho⟩:=hv;obtain⟨p1,k1,rfl,-,-,ha⟩:=ha;obtain⟨p2,k2,rfl⟩:=hf.slice;obtain⟨p3,k3,rfl⟩:=ho.slice;have hf0:x.fr.length=0:=by rw[hfr];rfl
 have ho0:x.ob.length=0:=by rw[Nc];rfl
 rw[hf0,ho0];have hb1:=AJ w (.cells #[.int .i64 x.op,.string x.d,.string x.n,.slice p1 x.as.length k1,.slice p2 0 k2,.slice p3 0 k3] 133);have hX:=Ae.alloc w [.int .i64 x.op,.string x.d,.string x.n,.slice p1 x.as.length k1,.slice p2 0 k2,.slice p3 0 k3] 133;go_enter func187,ntmps187;go_wp2;generalize Cr:w.alloc _=W at*;go_loopw[3,4] (fun v i wr=>∃(q:Nat) (o:List ByteArray),q<=x.as.length/\i=.int .i64 (q:Int)/\o.length+1<=2^q/\Row DL 1 wr v o/\AA6 W wr) (fun _ i _=>x.as.length-(intOf i).toNat);exact⟨0,[],AY,rfl,by simp,⟨none,0,rfl,(fun _=>⟨rfl,rfl⟩),⟨by simp,by simp⟩,fun i y hy=>by simp at hy⟩,AL⟩;obtain⟨q,o,hq,rfl,hoq,hv,hb⟩:=hrel;obtain⟨pv,cv,rfl⟩:=hv.slice;have hX1:=hX.nx hb;have x3:=hX1.c 3 _ rfl;have hbb:=AB hb1 hb;have AJu:2^q<=256:=AX (Nat.pow_le_pow_right (by decide) (show q<=8 by omega)) (by decide);have AGf:o.length<=255:=by omega
 by_cases hend:q=x.as.length
 ·subst hend;obtain⟨-,-,-,-,x4,x5⟩:=hX1.c6;have hout:RN wr 1000 (.returned (.slice pv o.length cv)):=⟨_,o,rfl,hv,by omega⟩;replace hout:=hidden hout;obtain⟨wo,rfl⟩:∃wo:World,wo=wr:=⟨_,rfl⟩;go_wp2;go_loopw[3,5] (fun v i wr=>v=.slice pv o.length cv/\i=.int .i64 0/\wr=wo) (fun _ _ _=>0);exact⟨rfl,rfl,rfl⟩;obtain⟨rfl,rfl,rfl⟩:=hrel;obtain⟨wp,rfl⟩:∃wp:World,wp=wr:=⟨_,rfl⟩;go_wp2;go_loopw[3,7] (fun v i wr=>v=.slice pv o.length cv/\i=.int .i64 0/\wr=wp) (fun _ _ _=>0);exact⟨rfl,rfl,rfl⟩;obtain⟨rfl,rfl,rfl⟩:=hrel;go_wp2;go_ret;exact⟨hout.out,hbb⟩
 ·have hlt:q<x.as.length:=by omega
  have A8:(q:Int)<x.as.length:=by omega
  obtain⟨a,rfl,c0,⟨c1,z1⟩,c2⟩:=ha q x.as[q] (by simp[hlt]);have hk:=AB h0 hbb;replace c0:=AA hk c0;replace c1:=AA hk c1;replace c2:=AA hk c2;have hA:=Yn (Below.refl wr.heap.size wr) hv (by omega) x.as[q] z1;have hpw:2^ (q+1)=2^q+2^q:=by rw[Nat.pow_succ];omega
  replace hpw:=hidden hpw;generalize x.as[q].k=t1 at*;generalize x.as[q].s=t2 at*;generalize x.as[q].n=t3 at*;go_wp2_with fail;refine hA.mono ?_;rintro e w3 ⟨⟨v3,o3,rfl,hv3,ho3⟩,hb3⟩;have hb4:=AB hb hb3;obtain⟨uw,c3',rfl⟩:=hv3.slice;replace hv3:=hidden hv3;replace ho3:=hidden ho3;go_wp2;go_roundw;exact⟨q+1,o3,hlt,by go_num,by have:=hpw.out;have:=ho3.out;omega,hv3.out,hb4⟩;simp[intOf];omega
section
structure Lf(w:World)(B p:Nat)(o:List Bool):Prop where
 x:Ae w p (o.map Value.bool)
 l:p<w.heap.size
 g:B<=p
section
variable {w w1 : World} {B p : Nat} {o : List Bool}
theorem Lf.nx(h:Lf w B p o)(hb:AA6 w w1):Lf w1 B p o:=⟨h.x.below h.l hb,A9 h.l hb.size,h.g⟩
theorem Lf.c(h:Lf w B p o)(hi:i<o.length):w.cell? ⟨p,i,none⟩=some (.bool o[i]):=h.x.c i _ (by simp[hi])
theorem Lf.f(h:Lf w B p o)(hi:i<o.length):w.frozen? ⟨p,i,none⟩=false:=h.x.f i (by simpa using hi)
theorem Lf.set(h:Lf w B p o)(hi:i<o.length)(b:Bool):Lf (w.setCell ⟨p,i,none⟩ (.bool b)) B p (o.set i b):=
 ⟨by rw[List.map_set];exact h.x.set (by simpa using hi) _,by rw[G7];exact h.l,h.g⟩
theorem Lf.low(h:Lf w B p o)(i:Nat)(v:Value):Below B w (w.setCell ⟨p,i,none⟩ v):=(AL).setCell h.g v
end
theorem AAW:(prog.info? 4).map (fun i=>(i.zero,i.size,i.bytes))=some (some (.bool false),1,1):=by kernel_rfl
theorem sW(n:Nat):(madeCells #[Value.bool false] (n*1)).toList=(List.replicate n false).map Value.bool:=by
 rw[Nat.mul_one,toList_madeCells_one,List.map_replicate]
theorem RQ{ops:Array Oper}{rest:List Oper}{o:Oper}{a:Act}{Q:Exit->Act->World->Prop}(hgd:o.guard=none)(s x:Operand)(ho:o.op=Op.makeSlice 259 s x){n:Nat}(hs:a.eval s=.int .i64 (n:Int))(hx:a.eval x=.int .i64 (n:Int))(hn:n<=1000000)(hK:∀w',Lf w' w.heap.size w.heap.size (List.replicate n false)->AA6 w w'->wpList prog ops Q rest (a.put o.dst (.slice (some ⟨w.heap.size,0,none⟩) n n)) w'):wpList prog ops Q (o::rest) a w:=by
 obtain⟨i0,hi,hz0,hz1,hz2⟩:=Cq (P:=prog) (t:=4) AAW;refine wpList_make_full w hgd s x 259 ho w.heap.size 4 i0 _ 1 underlying259 hi hz0 hz1 .i64 .i64 n n n hs hx rfl rfl (by rw[hz2];omega) (by unfold maxLen;omega) (AQ) fun w' h1 h2=>?_;have hz:Value.cells (.bool false)=#[.bool false]:=rfl;rw[hz,sW]at h1;refine hK w' ⟨⟨fun i v hv=>?_,fun i hi=>(QE h1).Bw i⟩,(QE h1).lt,AQ⟩ ((Below.refl w.heap.size w).grown h2 (AQ) fun k e=>by cases e);grind [Cq,AAW,sW,QE,Ep,cases Lf]
def Y1(r:Option Nat):Int:=match r with
 |some k=>((0+k:Nat):Int)
 |none=>0
theorem aG{r:Option Nat}{e:Ending}(h:Je 0 r e):e=.returned (.tuple #[.int .i64 (Y1 r),.bool r.isSome]):=by
 cases r with
 |none=>exact h
 |some k=>exact h
theorem Ov(h0:AA6 w0 w){f:Fn}(hf:EL w0 v f u1 u2 u3)(hi:i<f.bs.length)(k:Int):Calls prog 189 #[v,.int .i64 (i:Int),.int .i64 k] w fun e w'=>Zq e/\AA6 w w':=by
 have hP:=fun W (hb:AA6 w0 W) x=>NH hb hf x;obtain⟨rfl,-,hp,hv,hb⟩:=hf;obtain⟨p1,k1,rfl⟩:=hp.slice;obtain⟨p2,k2,rfl⟩:=hv.slice;obtain⟨p3,k3,rfl,-,⟨hn,-⟩,hl⟩:=hb;obtain⟨a,rfl,-,-,-,-,-,⟨u4,t4,r4⟩,-⟩:=hl i f.bs[i] (by simp[hi]);obtain⟨p4,k4,rfl,-,⟨iH,-⟩,hl4⟩:=r4;generalize f.bs[i].e.to=lt at*;have hiI:(i:Int)<f.bs.length:=by omega
 have hb1:=AJ w (.cells #[.string f.n,.string f.r,.slice p1 f.ps.length k1,.slice p2 f.vs.length k2,.slice (some a) f.bs.length k3] 66);have hX:=Ae.alloc w [.string f.n,.string f.r,.slice p1 f.ps.length k1,.slice p2 f.vs.length k2,.slice (some a) f.bs.length k3] 66;go_enter func189,ntmps189;go_wp2;generalize Cr:w.alloc _=W at*;go_loopw[7] (fun j wr=>∃q:Nat,q<=lt.length/\j=.int .i64 (q:Int)/\AA6 W wr) (fun j _=>lt.length-(intOf j).toNat);exact⟨0,AY,rfl,AL⟩;obtain⟨q,hq,rfl,hb⟩:=hrel;have hX1:=hX.nx hb;have hbb:=AB hb1 hb;have x4:=hX1.c 4 _ rfl;have t5:=AA (AB h0 hbb) t4;by_cases hend:q=lt.length
 ·subst hend;go_wp2;go_ret;exact⟨⟨_,rfl⟩,hbb⟩
 ·have hlt:q<lt.length:=by omega
  have A8:(q:Int)<lt.length:=by omega
  obtain⟨b,rfl,d0,-⟩:=hl4 q lt[q] (by simp[hlt]);rw[Nat.mul_one]at d0;replace d0:=AA (AB h0 hbb) d0;have hP1:∀W',AA6 wr W'->Calls prog 55 #[.agg #[.string f.n,.string f.r,.slice p1 f.ps.length k1,.slice p2 f.vs.length k2,.slice (some a) f.bs.length k3],.string lt[q]] W' fun e w'=>e=.returned (.tuple #[.int .i64 (Y1 (Cu Bk.n lt[q] f.bs)),.bool (Cu Bk.n lt[q] f.bs).isSome])/\AA6 W' w':=fun W' hb'=>(hP W' (AB (AB h0 hbb) hb') _).mono fun _ _ h=>⟨aG h.2,h.1⟩;generalize Y1 (Cu Bk.n lt[q] f.bs)=pk at*;generalize(Cu Bk.n lt[q] f.bs).isSome=ok at*;generalize lt[q]=t at*;obtain⟨x0,x1,x2,x3⟩:=hX1.c4;have hbd:=(Below.refl wr.heap.size wr).drew;go_wp2_with fail;refine AO (S:=fun _ v=>AA6 wr v) rfl (by kernel_rfl) hbd ?_;iterate 17(first|(apply Ab.z rfl;intro L w1 _ _ _ z hK;(have x0:=AA z.s x0;have x1:=AA z.s x1;have x2:=AA z.s x2;have x3:=AA z.s x3;have x4:=AA z.s x4;have t5:=AA z.s t5;have d0:=AA z.s d0);go_simp;exact hK (z.s);rfl)|(apply Ab.y rfl;intro L w1 _ _ z hK;go_simp;go_wp2_with((refine(hP1 _ z.s).mono ?_;rintro e w2 ⟨rfl,hb⟩));(try simp only[pE]);exact hK.out _ (AB z.s hb);rfl))
  refine Ab.nil fun w4 Bb=>?_;have hb4:=AB hb Bb;have hbz:=AB hbb Bb;cases ok
  ·go_wp2;go_roundw;exact⟨q+1,by omega,by go_num,hb4⟩;simp[intOf];omega
  ·cases e1:((pk:Int)==k)with
   |true=>
    go_wp2;go_ret
    exact⟨⟨_,rfl⟩,hbz⟩
   |false=>
    go_wp2;go_roundw;exact⟨q+1,by omega,by go_num,hb4⟩;simp[intOf];omega
end
end Go.Proofs.YtlffomedflegdaaGreatDoor
