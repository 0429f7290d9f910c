/- Part A05 of the proof: Vd. -/
import Derived.Test.YtlffomedflegdaaGreatDoorPdS01
import Derived.Test.YtlffomedflegdaaGreatDoorPdA03
set_option linter.all false
set_option maxHeartbeats 16000000
set_option maxRecDepth 100000
namespace Go.Proofs.YtlffomedflegdaaGreatDoor
open Go.Proofs.Tryz
open Go.RowKit
open Go.Value renaming int→cI,string→cS,slice→cY,bool→cE
open Go.IntKind renaming i64→cJ
open Option renaming some→cP,none→cX
open Bool renaming false→cA,true→cC
open Go.MapKept Word Num Dp
def ADJ{w0 w:World}(h0:AA6 w0 w){b:Nat}{m:Vm}(hm:CQ w0 b m){B:Nat}{v:Value}(hv:ACV w0 B v m):Calls prog 31 #[.map (cP b),v] w λe w'=>e=.returned (cE cC)/\AA6 w w':=by
 have hT1:=underlying69;have vM:=underlying9;have hml:m.length<=maxLen:=by
  rcases id hv.2 with⟨-,h0⟩|⟨_,_,_,_,_,_,h3,h4,-⟩
  ·omega
  ·omega
 unfold maxLen at hml;obtain⟨pv,cv,rfl⟩:=Bf hv;go_enter func31,ntmps31;go_wp2;go_loopw[5] (λi wr=>∃q:Nat,q<=m.length/\i=cI cJ (q:Int)/\AA6 w wr) (λi _=>m.length-(intOf i).toNat);exact⟨0,AY,rfl,AL⟩;obtain⟨q,hq,rfl,hb⟩:=hrel;have h1:=AB h0 hb;have hmr:=hm.other (h1.block b hm.lt);by_cases hend:q=m.length
 ·subst hend;obtain⟨es,ck,pO,hz1⟩:=hmr.len;have hL1:∀ty,(Builtin.len_ #[69] ty #[.map (cP b)]).run prog wr=.ok (goInt es.size) wr:=λty=>Go.run_len_map _ _ ty b es ck (by kernel_rfl) pO;rw[hz1]at hL1;clear hz1 pO;go_wp2;go_ret;exact⟨rfl,hb⟩
 ·have hlt:q<m.length:=by omega
  have A8:(q:Int)<m.length:=by omega
  have hx:m[q]? =cP m[q]:=by simp[hlt]
  have hat:=hmr.at (x:=m[q].1) (v:=m[q].2) (List.getElem_mem hlt);obtain⟨g,c,iG,hg1,hg2,hfz,k0,k1,k2⟩:=ACV.at hv hx;obtain⟨rfl,rfl⟩:pv=cP ⟨g,0,cX⟩/\cv=c:=by simpa using iG
  replace k0:=AA h1 k0;replace k1:=AA h1 k1;replace k2:=AA h1 k2;clear hx iG hfz hg1 hg2;obtain⟨⟨ya,yb,yc⟩,hye⟩:∃y,m[q]=y:=⟨_,rfl⟩;rw[hye]at hat k0 k1 k2;clear hye;have hL:(Instr.lookup 69 (.map (cP b)) (cS ya) cC).run prog wr=.ok (.tuple #[Kn (yb,yc),cE cC]) wr:=by
   have:=ABl (P:=prog) hT1 vM rU hmr ya;rw[hat.1,hat.2]at this;exact this
  have hE:∀w,(Op.equalIn 10000 34 (.agg #[cS yb,cI cJ yc]) (.agg #[cS yb,cI cJ yc])).run prog w=.ok cC w:=λw=>by
   have:=ABv (yb,yc) (yb,yc) w;rwa[decide_eq_true rfl]at this
  clear hat hmr;obtain⟨wo,rfl⟩:=again wr;go_upto_region 5 with fail;generalize Cr:World.alloc wo _=W at*;obtain⟨J8,hX⟩:=ng Cr;have k1:=AA J8 k1;have k2:=AA J8 k2;obtain⟨x0,x1⟩:=hX.c2;have hbb:=AB hb J8;clear Cr J8 k0 hL;go_wp2;refine ALQ (S:=λ_ v=>v=W.drew) rfl ?_;iterate 11((apply Ab.z rfl;intro L w1 _ _ _ z hK;have hS:=z.s;(subst hS);go_simp;exact hK (rfl);rfl))
  refine Ab.nil λw4 Bb=>?_;subst Bb;go_wp2;go_roundw;exact⟨q+1,by omega,by go_num,hbb.drew⟩;simp[intOf];omega
def AFA(w:World){α:Type}(At1:World->Addr->α->Prop)(n:Nat):Row At1 n w (cY cX 0 0) []:=⟨cX,0,rfl,λ_=>⟨rfl,rfl⟩,⟨AY,AQ⟩,λi x hx=>by simp at hx⟩
def ACw:∀{l:List Vu} {i:Nat} {x:Vu},l[i]? =cP x->(ACQ l)[i*2]? =cP (cS x.1)/\(ACQ l)[i*2+1]? =cP (cI cJ x.2)
 | [],i,x,h=>by simp at h
 |y::r,0,x,h=>by
  obtain rfl:y=x:=by simpa using h
  simp[ACQ]
 |y::r,i+1,x,h=>by
  have ih:=ACw (l:=r) (i:=i) (by simpa using h);have e:ACQ (y::r)=cS y.1::cI cJ y.2::ACQ r:=by simp[ACQ]
  rw[e,show(i+1)*2=i*2+1+1 by omega];simpa using ih
def AFC{w:World}{B:Nat}{v:Value}{l:List Vu}(h:w.ownsRow B 34 2 v l.length (ACQ l))(hn:l.length<=100000):Row AtU 2 w v l:=by
 rcases id h.2 with⟨rfl,h0⟩|⟨g,cap,cur,rfl,-,-,hcap,-⟩
 ·obtain rfl:l=[]:=List.length_eq_zero_iff.1 h0;exact AFA w _ _
 ·refine⟨cP ⟨g,0,cX⟩,cap,rfl,(λe=>by cases e),⟨by omega,hcap⟩,λi x hx=>⟨_,rfl,?_⟩⟩;obtain⟨h1,h2⟩:=ACw hx;have hi:=(List.getElem?_eq_some_iff.1 hx).1;have e1:=(h.cellAt (i*2) (by omega)).trans h1;have e2:=(h.cellAt (i*2+1) (by omega)).trans h2;rw[Dk,Nat.zero_add];exact⟨e1,e2⟩
def AEp{w0 w:World}(h0:AA6 w0 w){x bn:ByteArray}{m:Vm}{g:List Vu}{fr hp gl tr mk TV fr':Value}{P:Nat->Prop}(hg:g.length<=100000)(hs:ABu w0 (mY x bn m g) hp gl tr mk)(hf:Row ACF 4 w0 fr [⟨x,bn,0,m⟩])(ht:ABq w0 x bn m g TV fr' P):Calls prog 14 #[Ko (mY x bn m g) fr hp gl tr mk,rsV TV fr'] w λe w'=>e=.returned (cE cC)/\AA6 w w':=by
 obtain⟨ABn,ACK,rfl,hFR,hO,hG,-⟩:=ht;have hgr:=AFC hG hg;have hH:=λ(W:World) (hb:AA6 w W)=>(ACT (AB h0 hb) hs.hp (AFA w0 _ _)).mono λe w' (h:IC ([]=[]) e/\_)=>And.intro (h.1.yes rfl) h.2;have qA:=λ(W:World) (hb:AA6 w W)=>(ABy (AB h0 hb) hs.gl hgr).mono λe w' (h:IC (g=g) e/\_)=>And.intro (h.1.yes rfl) h.2;have hT:=λ(W:World) (hb:AA6 w W)=>(ABf (AB h0 hb) hs.tr (AFA w0 _ _)).mono λe w' (h:IC ([]=[]) e/\_)=>And.intro (h.1.yes rfl) h.2;have hK:=λ(W:World) (hb:AA6 w W)=>(ABx (AB h0 hb) hs.mk' (AFA w0 _ _)).mono λe w' (h:IC ([]=[]) e/\_)=>And.intro (h.1.yes rfl) h.2;obtain⟨p0,c0,rfl,-,-,hl⟩:=hf;obtain⟨p1,c1,rfl⟩:=hs.hp.slice;obtain⟨p2,c2,rfl⟩:=hs.gl.slice;obtain⟨p3,c3,rfl⟩:=hs.tr.slice;obtain⟨p4,c4,rfl⟩:=hs.mk'.slice;obtain⟨q2,d2,rfl⟩:=hgr.slice;obtain⟨qv,dv,rfl⟩:=Bf hO;have hE:∀w,(Op.equalIn 10000 34 (.agg #[cS ⟨#[]⟩,cI cJ 0]) (.agg #[cS ⟨#[]⟩,cI cJ 0])).run prog w=.ok cC w:=λw=>by
  have:=ABv (Bv,0) (Bv,0) w;rwa[decide_eq_true rfl]at this
 have hSV:=λ(W:World) (hb:AA6 w W) (b:Nat) (hm:CQ w0 b m)=>ADJ (AB h0 hb) hm hO;clear hgr hs hG;show Calls prog 14 #[.agg #[cI cJ 0,cS ⟨#[]⟩,cI cJ 0,cI cJ 0,cY p0 1 c0,cY p1 0 c1,cY p2 g.length c2,cY p3 0 c3,cY p4 0 c4,cI cJ 0,cI cJ 0,cI cJ 0,cI cJ 0],rsV (cY q2 g.length d2) (cY (cP ⟨ABn,0,cX⟩) 1 1)] w _;go_enter func14,ntmps14;go_upto_region 1 with fail;generalize Cr:World.alloc (World.alloc _ _) _=W at*;obtain⟨hP,hA,hb1⟩:=ABY Cr;clear Cr;obtain⟨x0,x1,x2,x3,x4,x5,x6,x7,x8,x9,x10,x11,x12⟩:=hP.c13;obtain⟨y0,y1,y2,y3,y4,y5,y6,y7,y8,y9,y10,y11,y12⟩:=hA.c13;have y13:=hA.c 13 _ rfl;go_wp2_with fail;refine(hH _ hb1).mono ?_;rintro e w1 ⟨rfl,hb2⟩;replace hP:=hP.nx hb2;replace hA:=hA.nx hb2;replace hb1:=AB hb1 hb2;obtain⟨x0,x1,x2,x3,x4,x5,x6,x7,x8,x9,x10,x11,x12⟩:=hP.c13;obtain⟨y0,y1,y2,y3,y4,y5,y6,y7,y8,y9,y10,y11,y12⟩:=hA.c13;go_upto_region 5 with fail;refine(qA _ hb1).mono ?_;rintro e w1 ⟨rfl,hb2⟩;replace hP:=hP.nx hb2;replace hA:=hA.nx hb2;replace hb1:=AB hb1 hb2;obtain⟨x0,x1,x2,x3,x4,x5,x6,x7,x8,x9,x10,x11,x12⟩:=hP.c13;obtain⟨y0,y1,y2,y3,y4,y5,y6,y7,y8,y9,y10,y11,y12⟩:=hA.c13;go_upto_region 5 with fail;refine(hT _ hb1).mono ?_;rintro e w1 ⟨rfl,hb2⟩;replace hP:=hP.nx hb2;replace hA:=hA.nx hb2;replace hb1:=AB hb1 hb2;obtain⟨x0,x1,x2,x3,x4,x5,x6,x7,x8,x9,x10,x11,x12⟩:=hP.c13;obtain⟨y0,y1,y2,y3,y4,y5,y6,y7,y8,y9,y10,y11,y12⟩:=hA.c13;go_upto_region 5 with fail;refine(hK _ hb1).mono ?_;rintro e w1 ⟨rfl,hb2⟩;replace hP:=hP.nx hb2;replace hA:=hA.nx hb2;replace hb1:=AB hb1 hb2;obtain⟨x0,x1,x2,x3,x4,x5,x6,x7,x8,x9,x10,x11,x12⟩:=hP.c13;obtain⟨y0,y1,y2,y3,y4,y5,y6,y7,y8,y9,y10,y11,y12⟩:=hA.c13;go_upto_region 5 with fail;have x4:=hP.c 4 _ rfl;have y13:=hA.c 13 _ rfl;clear x0 x1 x2 x3 x5 x6 x7 x8 x9 x10 x11 x12 y0 y1 y2 y3 y4 y5 y6 y7 y8 y9 y10 y11 y12 hE hH qA hT hK;go_wp2;go_loopw[5] (λi wr=>∃q:Nat,q<=1/\i=cI cJ (q:Int)/\AA6 w1 wr) (λi _=>1-(intOf i).toNat);exact⟨0,AY,rfl,AL⟩;obtain⟨q,hq,rfl,hb⟩:=hrel;have x4:=AA hb x4;have y13:=AA hb y13;have hbb:=AB hb1 hb;by_cases hend:q=1
 ·subst hend;go_wp2;go_ret;exact⟨rfl,hbb⟩
 ·have hlt:q<1:=by omega
  have A8:(q:Int)<1:=by omega
  have hq0:q=0:=by omega
  obtain⟨a,rfl,k0,k1,k2,bx,k3,hmx⟩:=hl q ⟨x,bn,0,m⟩ (by rw[hq0];rfl);have h1:=AB h0 hbb;have g0:w0.cell? ⟨ABn,q*4,cX⟩=cP (cS x):=by rw[hq0];exact hFR.c 0 _ rfl
  have g1:w0.cell? ⟨ABn,q*4+1,cX⟩=cP (cS bn):=by rw[hq0];exact hFR.c 1 _ rfl
  have g2:w0.cell? ⟨ABn,q*4+2,cX⟩=cP (cI cJ 0):=by rw[hq0];exact hFR.c 2 _ rfl
  have g3:w0.cell? ⟨ABn,q*4+3,cX⟩=cP (cY qv m.length dv):=by rw[hq0];exact hFR.c 3 _ rfl
  replace k0:=AA h1 k0;replace k1:=AA h1 k1;replace k2:=AA h1 k2;replace k3:=AA h1 k3;replace g0:=AA h1 g0;replace g1:=AA h1 g1;replace g2:=AA h1 g2;replace g3:=AA h1 g3;clear hq0;have hx1:=EZ (rfl:x=x);have hx2:=EZ (rfl:bn=bn);obtain⟨wo,rfl⟩:=again wr;have J8:=AJ wo (.cells #[cS x,cS bn,cI cJ 0,.map (cP bx)] 84);replace y13:=AA J8 y13;replace g0:=AA J8 g0;replace g1:=AA J8 g1;replace g2:=AA J8 g2;replace g3:=AA J8 g3;clear J8;go_upto_region 10 with fail;clear x4 y13 k0 k1 k2 k3 g0 g1 g2 g3;generalize Cr:World.alloc (World.alloc wo _) _=W7 at*;obtain⟨hX,hY,hb4⟩:=ABY Cr;clear Cr;obtain⟨n0,n1,n2,n3⟩:=hX.c4;obtain⟨m0,m1,m2,m3⟩:=hY.c4;have Qg:=AB hbb hb4;go_wp2_with fail;refine(hSV _ Qg bx hmx).mono ?_;rintro e w8 ⟨rfl,Bp⟩;have hbz:=AB hb (AB hb4 Bp);go_wp2;go_roundw;exact⟨q+1,by omega,by go_num,hbz⟩;simp[intOf];omega
end Go.Proofs.YtlffomedflegdaaGreatDoor
