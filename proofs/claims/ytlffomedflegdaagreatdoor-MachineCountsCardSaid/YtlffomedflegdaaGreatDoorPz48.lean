/- Part 48 of 49 of the proof: Tq, Tr, Viq, Tv, Ts. -/
import Derived.Test.YtlffomedflegdaaGreatDoorPz00
import Derived.Test.YtlffomedflegdaaGreatDoorPz15
import Derived.Test.YtlffomedflegdaaGreatDoorPz23
import Derived.Test.YtlffomedflegdaaGreatDoorPz27
import Derived.Test.YtlffomedflegdaaGreatDoorPz42
import Derived.Test.YtlffomedflegdaaGreatDoorPz47
set_option linter.all false
set_option maxHeartbeats 16000000
set_option maxRecDepth 100000
namespace Go.Proofs.YtlffomedflegdaaGreatDoor
open Go.Proofs.Tryz
open Go.RowKit
variable {cs:List Value}{fr gl hp mk tr v:Value}{i k n:Nat}{p:Pg}{q:Q6}{s:St}{t:TypeId}{w:World}{α:Type}
section
open Word Num Dp
theorem AAj:gH=FN:=rfl
theorem AAi:KO FN:=fun e he=>by cases he
theorem tQ:Zp FN:=fun f hf b hb=>by
 obtain rfl:f=Nu:=by simpa[FN]using hf
 obtain rfl:b=Pp:=by simpa[Nu]using hb
 refine⟨fun i hi a ha=>?_,⟨by decide,by decide⟩⟩;obtain rfl:i=RI:=by simpa[Pp]using hi
 obtain rfl:a=⟨1,kS,0⟩:=by simpa[RI]using ha
 exact⟨by decide,by decide⟩
theorem aR(fuel:Int)(h:fuel<=100000):Way FN IY fuel/\jW IY:=KT V9 (by decide) (x:=fS) (args:=[5]) (fun n hn=>by
 obtain rfl:n=5:=by simpa using hn
 exact⟨by decide,by decide⟩) fG h
def oQ(e:Ending):Prop:=e=.returned (.bool true)
theorem xP(w:World):Row Nj 1 w (.slice none 0 0) []:=⟨none,0,rfl,(fun _=>⟨rfl,rfl⟩),⟨by simp,by simp⟩,fun i x h=>by cases h⟩
theorem ADW{p:Nat}(h:Ae w p [.int .i64 5]):Row Nj 1 w (.slice (some ⟨p,0,none⟩) 1 1) [5]:=⟨_,1,rfl,(fun h=>by cases h),⟨by simp,by simp⟩,fun i x hx=>by
 cases i with
 |zero=>
  obtain rfl:5=x:=by simpa using hx
  exact⟨_,rfl,h.c 0 _ rfl⟩
 |succ i=>simp at hx⟩
theorem aT{W2:World}{p1 p2 p3 p4:Option Addr}{k1 k2 k3 k4:Nat}(hv:Cj W2 (.agg #[.bool false,.slice p1 0 k1,.slice p2 0 k2,.slice p3 0 k3,.slice p4 1 k4]) FN (.slice p1 0 k1) (.slice p2 0 k2) (.slice p3 0 k3) (.slice p4 1 k4))(h:AA6 W2 w)(hS:Qx w IY fr hp gl tr mk){fuel:Int}(hf:fuel<=100000){T:St}(hT:Runs FN [] [] fuel IY 0 T):Calls prog 12 #[.agg #[.bool false,.slice p1 0 k1,.slice p2 0 k2,.slice p3 0 k3,.slice p4 1 k4],Ko IY fr hp gl tr mk,.int .i64 fuel,.slice none 0 0,.slice none 0 0] w fun e w'=>(∃fr' hp' TV TI mk',e=.returned (Ko T fr' hp' TV TI mk')/\Bt w' w.heap.size T fr' hp' TV TI mk')/\AA6 w w':=by
 have hE:Env W2 w.heap.size ⟨.bool false,.slice p1 0 k1,.slice p2 0 k2,.slice p3 0 k3,.slice p4 1 k4,.slice none 0 0,.slice none 0 0⟩ FN [] []:=
  ⟨hv,xP _,xP _,h.size,V9,AAi,tQ,(fun n hn=>by cases hn),(fun c hc=>by cases hc),by decide,fun f hf b hb=>by
   obtain rfl:f=Nu:=(by simpa[FN]using hf);obtain rfl:b=Pp:=by simpa[Nu]using hb
   decide⟩
 refine(Vi hE h ⟨rfl,rfl,rfl,rfl,rfl,rfl,rfl⟩ rfl hS (aR fuel hf).2 fuel (aR fuel hf).1).mono ?_;rintro e w' ⟨t,fr',hp',TV,TI,mk',he,hO,hr,-,hb⟩;obtain rfl:t=T:=hr.det hT;exact⟨⟨_,_,_,_,_,he,hO⟩,hb⟩
theorem Sq(m:Int)(hm:w.cell? ⟨1,0,none⟩=some (.int .i64 m)):Calls prog 8 #[] w fun e w'=>oQ e/\AA6 w w':=by
 have hP:=UQ m hm;go_enter func8,ntmps8;go_wp2_with fail;refine hP.mono ?_;rintro e w1 ⟨⟨u1,u2,u3,u4,rfl,hv⟩,hb1⟩;rw[AAj]at hv;obtain⟨p1,k1,rfl⟩:=hv.c.slice;obtain⟨p2,k2,rfl⟩:=hv.g.slice;obtain⟨p3,k3,rfl⟩:=hv.xt.slice;obtain⟨p4,k4,rfl⟩:=hv.f.slice;rw[show FN.cs.length=0 from rfl,show FN.gs.length=0 from rfl,show FN.xs.length=0 from rfl,show FN.fs.length=1 from rfl]at*;have hX:=Ae.alloc w1 [.bool false,.slice p1 0 k1,.slice p2 0 k2,.slice p3 0 k3,.slice p4 1 k4] 27;have hb2:=AJ w1 (.cells #[.bool false,.slice p1 0 k1,.slice p2 0 k2,.slice p3 0 k3,.slice p4 1 k4] 27);obtain⟨x0,x1,x2,x3,x4⟩:=hX.c5;have hY:=Ae.alloc (w1.alloc (.cells #[.bool false,.slice p1 0 k1,.slice p2 0 k2,.slice p3 0 k3,.slice p4 1 k4] 27)) [.int .i64 5] 2;have hb3:=(Below.refl (w1.alloc (.cells #[.bool false,.slice p1 0 k1,.slice p2 0 k2,.slice p3 0 k3,.slice p4 1 k4] 27)).heap.size (w1.alloc (.cells #[.bool false,.slice p1 0 k1,.slice p2 0 k2,.slice p3 0 k3,.slice p4 1 k4] 27))).alloc (AQ) (.cells #[.int .i64 5] 2);have hsz:(w1.alloc (.cells #[.bool false,.slice p1 0 k1,.slice p2 0 k2,.slice p3 0 k3,.slice p4 1 k4] 27)).heap.size=w1.heap.size+1:=by simp
 rw[hsz]at hY;go_wp2_with fail;have hv2:=hv.kp (AB hb2 hb3);have hx3:=hX.nx hb3;have hbb:=AB (AB hb1 hb2) hb3;generalize(w1.alloc (.cells #[.bool false,.slice p1 0 k1,.slice p2 0 k2,.slice p3 0 k3,.slice p4 1 k4] 27)).alloc (.cells #[.int .i64 5] 2)=W2 at*;generalize w1.heap.size=px at*;have hSt:=OW (Below.refl W2.heap.size W2) (p:=FN) hv2 fS (f:=Nu) rfl (b0:=Pp) (br:=[]) rfl (ADW hY) (by decide) (by decide);refine hSt.mono ?_;rintro e w3 ⟨fr,hp,gl,tr,mk,he,hO,hb4⟩;obtain rfl:e=.returned (.tuple #[.agg #[.int .i64 0,.string ⟨#[]⟩,.int .i64 0,.int .i64 0,fr,hp,gl,tr,mk,.int .i64 0,.int .i64 0,.int .i64 0,.int .i64 0],.int .i64 0]):=he;replace hO:Bt w3 W2.heap.size IY fr hp gl tr mk:=hO;have hI:=hO.in;obtain⟨_,l1⟩:=hI.fr;obtain⟨_,l2⟩:=hI.hp;obtain⟨_,l3⟩:=hI.gl;obtain⟨_,l4⟩:=hI.tr;obtain⟨_,l5⟩:=hI.mk';obtain⟨q1,d1,rfl⟩:=l1.slice;obtain⟨q2,d2,rfl⟩:=l2.slice;obtain⟨q3,d3,rfl⟩:=l3.slice;obtain⟨q4,d4,rfl⟩:=l4.slice;obtain⟨q5,d5,rfl⟩:=l5.slice;rw[show(IY.frames.map Kw).length=1 from rfl,show(IY.heap.map Ld).length=0 from rfl,show(IY.globals.map C9).length=0 from rfl,show(IY.trace.map Qc).length=0 from rfl,show(IY.marks.map dN).length=0 from rfl]at*;have hx4:=hx3.nx hb4;have hZ:=Ae.alloc w3 [.int .i64 0,.string ⟨#[]⟩,.int .i64 0,.int .i64 0,.slice q1 1 d1,.slice q2 0 d2,.slice q3 0 d3,.slice q4 0 d4,.slice q5 0 d5,.int .i64 0,.int .i64 0,.int .i64 0,.int .i64 0] 40;have hb5:=AJ w3 (.cells #[.int .i64 0,.string ⟨#[]⟩,.int .i64 0,.int .i64 0,.slice q1 1 d1,.slice q2 0 d2,.slice q3 0 d3,.slice q4 0 d4,.slice q5 0 d5,.int .i64 0,.int .i64 0,.int .i64 0,.int .i64 0] 40);have hx5:=hx4.nx hb5;obtain⟨x0,x1,x2,x3,x4⟩:=hx5.c5;obtain⟨z0,z1,z2,z3,z4,z5,z6,z7,z8,z9,z10,z11,z12⟩:=hZ.c13;go_wp2_with fail;have hv5:AA6 W2 (w3.alloc (.cells #[.int .i64 0,.string ⟨#[]⟩,.int .i64 0,.int .i64 0,.slice q1 1 d1,.slice q2 0 d2,.slice q3 0 d3,.slice q4 0 d4,.slice q5 0 d5,.int .i64 0,.int .i64 0,.int .i64 0,.int .i64 0] 40)):=AB hb4 hb5;have TA:=hI.kp hb5;replace hbb:=AB hbb hv5;generalize w3.alloc (.cells #[.int .i64 0,.string ⟨#[]⟩,.int .i64 0,.int .i64 0,.slice q1 1 d1,.slice q2 0 d2,.slice q3 0 d3,.slice q4 0 d4,.slice q5 0 d5,.int .i64 0,.int .i64 0,.int .i64 0,.int .i64 0] 40)=W3 at*;generalize w3.heap.size=pz at*;refine(aT hv2 hv5 TA (by decide) lW).mono ?_;rintro e w4 ⟨⟨fr,hp,gl,tr,mk,he,hO⟩,hb6⟩;have hJ:=hO.in;obtain⟨_,l1⟩:=hJ.fr;obtain⟨_,l2⟩:=hJ.hp;obtain⟨_,l3⟩:=hJ.gl;obtain⟨_,l4⟩:=hJ.tr;obtain⟨_,l5⟩:=hJ.mk';obtain⟨r1,g1,rfl⟩:=l1.slice;obtain⟨r2,g2,rfl⟩:=l2.slice;obtain⟨r3,g3,rfl⟩:=l3.slice;obtain⟨r4,g4,rfl⟩:=l4.slice;obtain⟨r5,g5,rfl⟩:=l5.slice;obtain rfl:e=.returned (.agg #[.int .i64 1,.string ⟨#[105,110,116]⟩,.int .i64 5,.int .i64 0,.slice r1 0 g1,.slice r2 0 g2,.slice r3 0 g3,.slice r4 1 g4,.slice r5 1 g5,.int .i64 0,.int .i64 2,.int .i64 0,.int .i64 0]):=he;have hx6:=hx5.nx hb6;have hz6:=hZ.nx hb6;have Yx:=TA.kp hb6;have hS:=Ae.alloc w4 [.int .i64 1,.string ⟨#[105,110,116]⟩,.int .i64 5,.int .i64 0,.slice r1 0 g1,.slice r2 0 g2,.slice r3 0 g3,.slice r4 1 g4,.slice r5 1 g5,.int .i64 0,.int .i64 2,.int .i64 0,.int .i64 0] 40;have BJ:=AJ w4 (.cells #[.int .i64 1,.string ⟨#[105,110,116]⟩,.int .i64 5,.int .i64 0,.slice r1 0 g1,.slice r2 0 g2,.slice r3 0 g3,.slice r4 1 g4,.slice r5 1 g5,.int .i64 0,.int .i64 2,.int .i64 0,.int .i64 0] 40);have hx7:=hx6.nx BJ;have hz7:=hz6.nx BJ;have hI7:=Yx.kp BJ;have hv7:=AB (AB hv5 hb6) BJ;replace hbb:=AB (AB hbb hb6) BJ;obtain⟨x0,x1,x2,x3,x4⟩:=hx7.c5;obtain⟨z0,z1,z2,z3,z4,z5,z6,z7,z8,z9,z10,z11,z12⟩:=hz7.c13;go_wp2_with fail;generalize w4.alloc (.cells #[.int .i64 1,.string ⟨#[105,110,116]⟩,.int .i64 5,.int .i64 0,.slice r1 0 g1,.slice r2 0 g2,.slice r3 0 g3,.slice r4 1 g4,.slice r5 1 g5,.int .i64 0,.int .i64 2,.int .i64 0,.int .i64 0] 40)=W4 at*;generalize w4.heap.size=py at*;refine(aT hv2 hv7 hI7 (by decide) tT).mono ?_;rintro e w5 ⟨⟨fr,hp,gl,tr,mk,he,hO⟩,Bp⟩;have hJ:=hO.in;obtain⟨_,l1⟩:=hJ.fr;obtain⟨_,l2⟩:=hJ.hp;obtain⟨_,l3⟩:=hJ.gl;obtain⟨_,l4⟩:=hJ.tr;obtain⟨_,l5⟩:=hJ.mk';obtain⟨m1,n1,rfl⟩:=l1.slice;obtain⟨m2,n2,rfl⟩:=l2.slice;obtain⟨m3,n3,rfl⟩:=l3.slice;obtain⟨m4,n4,rfl⟩:=l4.slice;obtain⟨m5,n5,rfl⟩:=l5.slice;obtain rfl:e=.returned (.agg #[.int .i64 3,.string ⟨#[]⟩,.int .i64 0,.int .i64 0,.slice m1 1 n1,.slice m2 0 n2,.slice m3 0 n3,.slice m4 1 n4,.slice m5 1 n5,.int .i64 0,.int .i64 1,.int .i64 0,.int .i64 0]):=he;have hz8:=hz7.nx Bp;have hs8:=hS.nx Bp;have hT:=Ae.alloc w5 [.int .i64 3,.string ⟨#[]⟩,.int .i64 0,.int .i64 0,.slice m1 1 n1,.slice m2 0 n2,.slice m3 0 n3,.slice m4 1 n4,.slice m5 1 n5,.int .i64 0,.int .i64 1,.int .i64 0,.int .i64 0] 40;have J9:=AJ w5 (.cells #[.int .i64 3,.string ⟨#[]⟩,.int .i64 0,.int .i64 0,.slice m1 1 n1,.slice m2 0 n2,.slice m3 0 n3,.slice m4 1 n4,.slice m5 1 n5,.int .i64 0,.int .i64 1,.int .i64 0,.int .i64 0] 40);have hz9:=hz8.nx J9;have hs9:=hs8.nx J9;replace hbb:=AB (AB hbb Bp) J9;have z0:=hz9.c 0 _ rfl;obtain⟨s0,s1,s2,-,-,-,s6,s7,s8,s9,s10⟩:=hs9.c11;obtain⟨t0,-,-,-,-,-,t6,t7,t8⟩:=hT.c9;go_wp2_with fail;go_ret;exact⟨rfl,hbb⟩
end
section
open Num Dp
theorem Jo(f:α->Nat){x:α}:∀{l:List α},x∈l->f x<=Aj f l
 | [],h=>by cases h
 |y::r,h=>by
  unfold Aj;rcases List.mem_cons.1 h with rfl|h
  ·omega
  ·have:=Jo f h;omega
theorem RX(f:α->Nat):∀{l:List α},(∀x∈l,1<=f x)->l.length<=Aj f l
 | [],_=>by simp
 |y::r,h=>by
  have h1:=h y (by simp);have h2:=RX f (l:=r) fun x hx=>h x (by simp[hx]);unfold Aj;simp only[List.length_cons];omega
theorem M4{nm:α->ByteArray}{x:ByteArray}:∀{l:List α} {k:Nat},Cu nm x l=some k->∃b,Ai nm x l=some b
 | [],k,h=>by cases h
 |y::r,k,h=>by
  unfold Ai;by_cases e:nm y=x
  ·exact⟨y,by rw[if_pos e]⟩
  ·rw[if_neg e];unfold Cu at h;rw[if_neg e]at h
   cases h2:Cu nm x r with
   |none=>rw[h2]at h;cases h
   |some j=>exact M4 h2
theorem J4(h:Qz p q):DJ p where
 names:=fun c hc=>by
  obtain⟨a,b,d,-⟩:=Vv (h.s.q.1.2 c hc).1;exact⟨a,b,d⟩
 heads:=h.s.h
 fs:=fun f hf=>by
  obtain⟨j,hj,e⟩:=List.mem_iff_getElem.1 hf;have hjf:p.fs[j]? =some f:=by rw[List.getElem?_eq_getElem hj,e]
  obtain⟨⟨hs1,hs2⟩,ho⟩:=h.s.o j f hjf;have hn:=h.s.n j f hjf;refine⟨hs1,fun b hb=>?_⟩;obtain⟨i,hi,e2⟩:=List.mem_iff_getElem.1 hb;have hib:f.bs[i]? =some b:=by rw[List.getElem?_eq_getElem hi,e2]
  have hq:=((h.s.q.2.2.2.2 f hf).2.2.2.2.2 b hb)
  exact⟨(hn i b hib).1,fun x hx=>⟨(ho i b hib).1 x hx,(hq.2.2.1.2 x hx).1⟩,(ho i b hib).2,hq.2.2.2.1,hq.2.2.2.2.1,fun y hy=>by
   obtain⟨k,hk⟩:=(hs2 i b hib).2 y hy
   exact M4 hk⟩
theorem aQ(h:Qz p q):KO p:=fun e he=>(Vv (h.s.q.2.2.1.2 e he).1).2.2.2
theorem lV(h:Ky p):Zp p:=fun f hf b hb=>by
 obtain⟨-,h2,h3,-⟩:=h.2 f hf b hb;exact⟨fun i hi=>(h2 i hi).1,h3⟩
theorem P7(h:Qz p q):p.gs.length<=4000:=by
 have:=h.w.n;unfold Ww CY at this;omega
theorem tL(h:Qz p q):∀c∈p.cs,c.fs.length<=4000:=fun c hc=>by
 have h1:=h.w.n;have h2:=Jo DV hc;unfold Ww at h1;have h3:c.fs.length<=DV c:=by unfold DV CY;omega
 omega
theorem tN(h:Qz p q):∀f∈p.fs,∀b∈f.bs,b.cs.length<=100000:=fun f hf b hb=>by
 have h1:=h.w.n;have h2:=Jo cntF hf;have h3:=Jo G5 hb;have h4:=RX IJ (l:=b.cs) fun x _=>by unfold IJ;omega
 unfold Ww at h1;have h5:Aj G5 f.bs<=cntF f:=by unfold cntF;omega
 have h6:Aj IJ b.cs<=G5 b:=by unfold G5;omega
 omega
end
section
open Go.ChangeShapes Go.WideShapes Go.Deep
theorem nX{H:Type}{P:Program}{ts:List TypeId}{ds:List (DataW H)}(hk:(DataW.weightsEach P ts ds).all (· <=reachBytes)=true){j:Nat}{d:DataW H}(ht:ts[j]? =some t)(hd:ds[j]? =some d):∀k∈DataW.weights P t d,k<=140737488351232:=fun k hm=>by
 have:=List.all_eq_true.1 hk k (DataW.weights_mem_each ht hd k hm);exact BK this
section
variable {H : Type} {enc : TypeId × Value -> H} {w : World} {base : Nat} {spare : Nat -> Bool} {held : Bool}
theorem Iw(h:(cs.drop k).take 1=[v]):cs[k]? =some v:=by
 have h2:((cs.drop k).take 1)[0]? =some v:=by rw[h];rfl
 grind
theorem Dy(h:Rd enc prog w base spare held 9 ((cs.drop k).take 1)):∃s:ByteArray,cs[k]? =some (.string s)/\Sz s:=by
 obtain⟨s,e,hz⟩:=h.str underlying9;exact⟨s,Iw e,hz⟩
theorem KJ(h:Rd enc prog w base spare held 3 ((cs.drop k).take 1)):∃n:Int,cs[k]? =some (.int .i64 n)/\(Lit.int .i64 n).wf=true:=by
 obtain⟨s,e,hz⟩:=h.int underlying3;exact⟨s,Iw e,hz⟩
theorem P6(h:Rd enc prog w base spare held 2 ((cs.drop k).take 1)):∃n:Int,cs[k]? =some (.int .i64 n)/\(Lit.int .i64 n).wf=true:=by
 obtain⟨s,e,hz⟩:=h.int underlying2;exact⟨s,Iw e,hz⟩
theorem zW{a:Addr}(h:Rd enc prog w base spare held 9 cs)(_:cs.length=1)(hc:∀j,j<1->w.cell? (a.add j)=cs[j]?):∃x,DL w a x:=by
 obtain⟨s,rfl,hz⟩:=h.str underlying9;exact⟨s,hc 0 (by decide),hz⟩
theorem VR{a:Addr}(h:Rd enc prog w base spare held 71 cs)(_:cs.length=2)(hc:∀j,j<2->w.cell? (a.add j)=cs[j]?):∃x,IU w a x:=by
 have hs:=(h.struct underlying71).2;obtain⟨n,e0,z0⟩:=Dy (k:=0) (hs 0 _ rfl);obtain⟨t,e1,z1⟩:=Dy (k:=1) (hs 1 _ rfl);exact⟨⟨n,t⟩,⟨(hc 0 (by decide)).trans e0,z0⟩,(hc 1 (by decide)).trans e1,z1⟩
theorem Cw{E:World->Addr->α->Prop}{sz:Nat}{e:TypeId}(ht:prog.underlying t=some (.slice e))(hby:1<=prog.bytesOf e)(hsz:prog.cellsOf e=sz)(h:Rd enc prog w base spare held t ((cs.drop k).take 1))(hE:∀(a:Addr) (cs:List Value),Rd enc prog w base spare held e cs->cs.length=sz->(∀j,j<sz->w.cell? (a.add j)=cs[j]?)->∃x,E w a x):∃v l,cs[k]? =some v/\Row E sz w v l:=by
 obtain⟨p,len,cap,hv,-⟩:=h.slice ht hby;rw[hv]at h;obtain⟨l,hl⟩:=h.row ht hby hsz hE;exact⟨_,l,Iw hv,hl⟩
theorem zX{a:Addr}(h:Rd enc prog w base spare held 153 cs)(_:cs.length=2)(hc:∀j,j<2->w.cell? (a.add j)=cs[j]?):∃x,Y0 w a x:=by
 have hs:=(h.struct underlying153).2;obtain⟨n,e0,z0⟩:=Dy (k:=0) (hs 0 _ rfl);obtain⟨u,l,e1,hl⟩:=Cw (k:=1) (E:=IU) (sz:=2) underlying23 (BK (by kernel_rfl)) (by kernel_rfl) (hs 1 _ rfl) fun _ _=>VR;exact⟨⟨n,l⟩,⟨(hc 0 (by decide)).trans e0,z0⟩,u,(hc 1 (by decide)).trans e1,hl⟩
theorem DW{a:Addr}(h:w.cell? (a.add k)=some v):At w a k v:=by
 by_cases hk:k=0
 ·subst hk;replace h:w.cell? a=some v:=h;obtain⟨b,o,sp⟩:=a
  cases sp with
  |none=>exact h
  |some s=>
   exfalso;unfold World.cell? at h;split at h
   ·cases h
   ·cases h
 ·unfold Addr.add at h;rw[if_neg hk]at h;exact h
theorem KN{j:Nat}(hj:j<n)(h:((cs.drop k).take n)[j]? =some v):cs[k+j]? =some v:=by grind
theorem mK{cs':List Value}{m:Nat}(h:cs'=(cs.drop k).take n)(hm:i+m<=n):(cs'.drop i).take m=(cs.drop (k+i)).take m:=by
 subst h;rw[List.drop_take,List.take_take,List.drop_drop,Nat.min_eq_left (by omega)]
theorem oG{a b c d e:Value}(hl:cs.length=5)(h0:cs[0]? =some a)(h1:cs[1]? =some b)(h2:cs[2]? =some c)(h3:cs[3]? =some d)(h4:cs[4]? =some e):cs=[a,b,c,d,e]:=by
 match cs,hl with
 | [x0,x1,x2,x3,x4],_=>simp_all
theorem oC{P:Program}{fs:Array Field}{r:Go.Reach}{b0:Nat}{d:DataW H}{p:List MemPlace}(hs:P.underlying t=some (.struct fs))(hv:Value.okWide P w r b0 t v)(h:DataW.Trod enc P w base spare held t v d p) (hk:∀k∈DataW.weights P t d,k<=140737488351232):∃cs:List Value,v=.agg cs.toArray/\Rd enc P w base spare held t cs:=by
 obtain⟨cs,rfl,hsz⟩:=okWide_struct hs hv;obtain⟨fuel,hf⟩:=h;exact⟨cs.toList,by simp,fuel,(d,p),hf,hk⟩
theorem kE(h:Rd enc prog w base spare held 4 ((cs.drop k).take 1)):∃b:Bool,cs[k]? =some (.bool b):=by
 obtain⟨s,e⟩:=h.bool underlying4;exact⟨s,Iw e⟩
end
end
section
open Go.ChangeShapes Go.WideShapes Go.Deep
theorem ME{n:Int}(h:(Lit.int .i64 n).wf=true):Bo n:=by
 have h1:IntKind.i64.min= -9223372036854775808:=rfl;have h2:IntKind.i64.max=9223372036854775807:=rfl;simp only[Lit.wf,Bool.and_eq_true,decide_eq_true_eq]at h;grind
theorem Row.split{E:World->Addr->α->Prop}{R:α->Prop}{sz:Nat}{l:List α}(h:Row (fun w a x=>E w a x/\R x) sz w v l):Row E sz w v l/\∀x∈l,R x:=by
 obtain⟨p,cu,h1,h2,h3,h4⟩:=h;refine⟨⟨p,cu,h1,h2,h3,fun i x hx=>?_⟩,fun x hx=>?_⟩
 ·obtain⟨a,e,he,-⟩:=h4 i x hx;exact⟨a,e,he⟩
 ·obtain⟨i,hi,e⟩:=List.mem_iff_getElem.1 hx;obtain⟨a,-,-,he⟩:=h4 i x (by rw[List.getElem?_eq_getElem hi,e]);exact he
section
variable {H : Type} {enc : TypeId × Value -> H} {w : World} {base : Nat} {spare : Nat -> Bool} {held : Bool}
theorem ADN{a:Addr}(h:Rd enc prog w base spare held 155 cs)(_:cs.length=2)(hc:∀j,j<2->w.cell? (a.add j)=cs[j]?):∃x,gV w a x/\Bo x.k:=by
 have hs:=(h.struct underlying155).2;obtain⟨n,e0,z0⟩:=Dy (k:=0) (hs 0 _ rfl);obtain⟨k,e1,z1⟩:=KJ (k:=1) (hs 1 _ rfl);exact⟨⟨n,k⟩,⟨⟨(hc 0 (by decide)).trans e0,z0⟩,(hc 1 (by decide)).trans e1⟩,ME z1⟩
theorem xO{a:Addr}(h:Rd enc prog w base spare held 77 cs)(_:cs.length=3)(hc:∀j,j<3->w.cell? (a.add j)=cs[j]?):∃x,Lg w a x/\Bo x.n:=by
 have hs:=(h.struct underlying77).2;obtain⟨k,e0,z0⟩:=KJ (k:=0) (hs 0 _ rfl);obtain⟨s,e1,z1⟩:=Dy (k:=1) (hs 1 _ rfl);obtain⟨n,e2,z2⟩:=P6 (k:=2) (hs 2 _ rfl);exact⟨⟨k,s,n⟩,⟨(hc 0 (by decide)).trans e0,⟨(hc 1 (by decide)).trans e1,z1⟩,(hc 2 (by decide)).trans e2⟩,ME z2⟩
theorem Zr{a:Addr}(h:Rd enc prog w base spare held 77 ((cs.drop k).take 3))(hn:k+3<=n)(hc:∀j,j<n->w.cell? (a.add j)=cs[j]?):∃x,Q5 w a k x/\Bo x.n:=by
 have hs:=(h.struct underlying77).2;obtain⟨q,e0,z0⟩:=KJ (k:=0) (hs 0 _ rfl);obtain⟨s,e1,z1⟩:=Dy (k:=1) (hs 1 _ rfl);obtain⟨m,e2,z2⟩:=P6 (k:=2) (hs 2 _ rfl);exact⟨⟨q,s,m⟩,⟨DW ((hc k (by omega)).trans (KN (j:=0) (by decide) e0)),⟨DW ((hc (k+1) (by omega)).trans (KN (j:=1) (by decide) e1)),z1⟩,DW ((hc (k+2) (by omega)).trans (KN (j:=2) (by decide) e2))⟩,ME z2⟩
theorem ADQ{a:Addr}(h:Rd enc prog w base spare held 234 cs)(_:cs.length=4)(hc:∀j,j<4->w.cell? (a.add j)=cs[j]?):∃x,iQ w a x/\Bo x.a.n:=by
 have hs:=(h.struct underlying234).2;obtain⟨n,e0,z0⟩:=Dy (k:=0) (hs 0 _ rfl);obtain⟨x,hx,hy⟩:=Zr (k:=1) (n:=4) (a:=a) (hs 1 _ rfl) (by decide) hc;exact⟨⟨n,x⟩,⟨⟨(hc 0 (by decide)).trans e0,z0⟩,hx⟩,hy⟩
theorem zS{a:Addr}(h:Rd enc prog w base spare held 232 cs)(_:cs.length=4)(hc:∀j,j<4->w.cell? (a.add j)=cs[j]?):∃x,Py w a x/\(Bo x.i/\∀b∈x.vs,Bo b.a.n):=by
 have hs:=(h.struct underlying232).2;obtain⟨n,e0,z0⟩:=Dy (k:=0) (hs 0 _ rfl);obtain⟨b,e1,z1⟩:=Dy (k:=1) (hs 1 _ rfl);obtain⟨q,e2,z2⟩:=KJ (k:=2) (hs 2 _ rfl);obtain⟨u,l,e3,hl⟩:=Cw (k:=3) (E:=fun w a x=>iQ w a x/\Bo (Bd.a x).n) (sz:=4) underlying230 (BK (by kernel_rfl)) (by kernel_rfl) (hs 3 _ rfl) fun _ _=>ADQ;obtain⟨hl,r3⟩:=hl.split;exact⟨⟨n,b,q,l⟩,⟨⟨(hc 0 (by decide)).trans e0,z0⟩,⟨DW ((hc 1 (by decide)).trans e1),z1⟩,DW ((hc 2 (by decide)).trans e2),u,DW ((hc 3 (by decide)).trans e3),hl⟩,⟨ME z2,r3⟩⟩
theorem zM{a:Addr}(h:Rd enc prog w base spare held 238 cs)(_:cs.length=2)(hc:∀j,j<2->w.cell? (a.add j)=cs[j]?):∃x,Pw w a x/\(∀a∈x.vs,Bo a.n):=by
 have hs:=(h.struct underlying238).2;obtain⟨n,e0,z0⟩:=Dy (k:=0) (hs 0 _ rfl);obtain⟨u,l,e1,hl⟩:=Cw (k:=1) (E:=fun w a x=>Lg w a x/\Bo (Ag.n x)) (sz:=3) underlying129 (BK (by kernel_rfl)) (by kernel_rfl) (hs 1 _ rfl) fun _ _=>xO;obtain⟨hl,r1⟩:=hl.split;exact⟨⟨n,l⟩,⟨⟨(hc 0 (by decide)).trans e0,z0⟩,u,DW ((hc 1 (by decide)).trans e1),hl⟩,r1⟩
theorem ADO{a:Addr}(h:Rd enc prog w base spare held 133 cs)(_:cs.length=6)(hc:∀j,j<6->w.cell? (a.add j)=cs[j]?):∃x,WZ w a x/\VT x:=by
 have hs:=(h.struct underlying133).2;obtain⟨q,e0,z0⟩:=KJ (k:=0) (hs 0 _ rfl);obtain⟨d,e1,z1⟩:=Dy (k:=1) (hs 1 _ rfl);obtain⟨n,e2,z2⟩:=Dy (k:=2) (hs 2 _ rfl);obtain⟨u3,l3,e3,h3⟩:=Cw (k:=3) (E:=fun w a x=>Lg w a x/\Bo (Ag.n x)) (sz:=3) underlying129 (BK (by kernel_rfl)) (by kernel_rfl) (hs 3 _ rfl) fun _ _=>xO;obtain⟨h3,r3⟩:=h3.split;obtain⟨u4,l4,e4,h4⟩:=Cw (k:=4) (E:=fun w a x=>Py w a x/\(Bo (Fr.i x)/\∀b∈Fr.vs x,Bo b.a.n)) (sz:=4) underlying130 (BK (by kernel_rfl)) (by kernel_rfl) (hs 4 _ rfl) fun _ _=>zS;obtain⟨h4,r4⟩:=h4.split;obtain⟨u5,l5,e5,h5⟩:=Cw (k:=5) (E:=fun w a x=>Pw w a x/\(∀a∈Vt.vs x,Bo a.n)) (sz:=2) underlying131 (BK (by kernel_rfl)) (by kernel_rfl) (hs 5 _ rfl) fun _ _=>zM;obtain⟨h5,r5⟩:=h5.split;exact⟨⟨q,d,n,l3,l4,l5⟩,⟨(hc 0 (by decide)).trans e0,⟨DW ((hc 1 (by decide)).trans e1),z1⟩,⟨DW ((hc 2 (by decide)).trans e2),z2⟩,⟨u3,DW ((hc 3 (by decide)).trans e3),h3⟩,⟨u4,DW ((hc 4 (by decide)).trans e4),h4⟩,u5,DW ((hc 5 (by decide)).trans e5),h5⟩,⟨r3,r4,r5⟩⟩
theorem zQ{a:Addr}(h:Rd enc prog w base spare held 213 cs)(_:cs.length=4)(hc:∀j,j<4->w.cell? (a.add j)=cs[j]?):∃x,AtIn w a x/\Bo x.a.n:=by
 have hs:=(h.struct underlying213).2;obtain⟨n,e0,z0⟩:=Dy (k:=0) (hs 0 _ rfl);obtain⟨x,hx,hy⟩:=Zr (k:=1) (n:=4) (a:=a) (hs 1 _ rfl) (by decide) hc;exact⟨⟨n,x⟩,⟨⟨(hc 0 (by decide)).trans e0,z0⟩,hx⟩,hy⟩
theorem zO{a:Addr}(h:Rd enc prog w base spare held 211 cs)(_:cs.length=2)(hc:∀j,j<2->w.cell? (a.add j)=cs[j]?):∃x,Px w a x/\(∀j∈x.is,Bo j.a.n):=by
 have hs:=(h.struct underlying211).2;obtain⟨n,e0,z0⟩:=Dy (k:=0) (hs 0 _ rfl);obtain⟨u,l,e1,hl⟩:=Cw (k:=1) (E:=fun w a x=>AtIn w a x/\Bo (TH.a x).n) (sz:=4) underlying209 (BK (by kernel_rfl)) (by kernel_rfl) (hs 1 _ rfl) fun _ _=>zQ;obtain⟨hl,r1⟩:=hl.split;exact⟨⟨n,l⟩,⟨⟨(hc 0 (by decide)).trans e0,z0⟩,u,DW ((hc 1 (by decide)).trans e1),hl⟩,r1⟩
theorem zN{a:Addr}(h:Rd enc prog w base spare held 80 ((cs.drop k).take 6))(hn:k+6<=n)(hc:∀j,j<n->w.cell? (a.add j)=cs[j]?):∃x,XD w a k x/\(Bo x.a.n/\Bo x.n):=by
 have hs:=(h.struct underlying80).2;obtain⟨q,e0,z0⟩:=KJ (k:=0) (hs 0 _ rfl);have ha:Rd enc prog w base spare held 77 ((((cs.drop k).take 6).drop 1).take 3):=hs 1 _ rfl;rw[mK rfl (by decide)]at ha;obtain⟨x,hx,hy⟩:=Zr (k:=k+1) (n:=n) (a:=a) ha (by omega) hc;obtain⟨u,l,e4,h4⟩:=Cw (k:=4) (E:=DL) (sz:=1) underlying78 (BK (by kernel_rfl)) (by kernel_rfl) (hs 2 _ rfl) fun _ _=>zW;obtain⟨m,e5,z5⟩:=P6 (k:=5) (hs 3 _ rfl);exact⟨⟨q,x,l,m⟩,⟨DW ((hc k (by omega)).trans (KN (j:=0) (by decide) e0)),hx,⟨u,DW ((hc (k+4) (by omega)).trans (KN (j:=4) (by decide) e4)),h4⟩,DW ((hc (k+5) (by omega)).trans (KN (j:=5) (by decide) e5))⟩,⟨hy,ME z5⟩⟩
theorem zT{a:Addr}(h:Rd enc prog w base spare held 82 cs)(_:cs.length=9)(hc:∀j,j<9->w.cell? (a.add j)=cs[j]?):∃x,Jf w a x/\RA x:=by
 have hs:=(h.struct underlying82).2;obtain⟨n,e0,z0⟩:=Dy (k:=0) (hs 0 _ rfl);obtain⟨u1,l1,e1,h1⟩:=Cw (k:=1) (E:=fun w a x=>Px w a x/\(∀j∈Ph.is x,Bo j.a.n)) (sz:=2) underlying74 (BK (by kernel_rfl)) (by kernel_rfl) (hs 1 _ rfl) fun _ _=>zO;obtain⟨h1,r1⟩:=h1.split;obtain⟨u2,l2,e2,h2⟩:=Cw (k:=2) (E:=fun w a x=>WZ w a x/\VT x) (sz:=6) underlying75 (BK (by kernel_rfl)) (by kernel_rfl) (hs 2 _ rfl) fun _ _=>ADO;obtain⟨h2,r2⟩:=h2.split;obtain⟨x,hx,hy⟩:=zN (k:=3) (n:=9) (a:=a) (hs 3 _ rfl) (by decide) hc;exact⟨⟨n,l1,l2,x⟩,⟨⟨(hc 0 (by decide)).trans e0,z0⟩,⟨u1,DW ((hc 1 (by decide)).trans e1),h1⟩,⟨u2,DW ((hc 2 (by decide)).trans e2),h2⟩,hx⟩,⟨r1,r2,hy.1,hy.2⟩⟩
theorem ADP{a:Addr}(h:Rd enc prog w base spare held 66 cs)(_:cs.length=5)(hc:∀j,j<5->w.cell? (a.add j)=cs[j]?):∃x,VP w a x/\(∀b∈x.bs,RA b):=by
 have hs:=(h.struct underlying66).2;obtain⟨n,e0,z0⟩:=Dy (k:=0) (hs 0 _ rfl);obtain⟨r,e1,z1⟩:=Dy (k:=1) (hs 1 _ rfl);obtain⟨u2,l2,e2,h2⟩:=Cw (k:=2) (E:=IU) (sz:=2) underlying23 (BK (by kernel_rfl)) (by kernel_rfl) (hs 2 _ rfl) fun _ _=>VR;obtain⟨u3,l3,e3,h3⟩:=Cw (k:=3) (E:=IU) (sz:=2) underlying23 (BK (by kernel_rfl)) (by kernel_rfl) (hs 3 _ rfl) fun _ _=>VR;obtain⟨u4,l4,e4,h4⟩:=Cw (k:=4) (E:=fun w a x=>Jf w a x/\RA x) (sz:=9) underlying64 (BK (by kernel_rfl)) (by kernel_rfl) (hs 4 _ rfl) fun _ _=>zT;obtain⟨h4,r4⟩:=h4.split;exact⟨⟨n,r,l2,l3,l4⟩,⟨⟨(hc 0 (by decide)).trans e0,z0⟩,⟨DW ((hc 1 (by decide)).trans e1),z1⟩,⟨u2,DW ((hc 2 (by decide)).trans e2),h2⟩,⟨u3,DW ((hc 3 (by decide)).trans e3),h3⟩,u4,DW ((hc 4 (by decide)).trans e4),h4⟩,r4⟩
theorem AAX(h:Rd enc prog w base spare held 27 cs):∃(p:Pg) (u1 u2 u3 u4:Value),Cj w (.agg cs.toArray) p u1 u2 u3 u4/\Ky p:=by
 obtain⟨hl,hs⟩:=h.struct underlying27;obtain⟨b,e0⟩:=kE (k:=0) (hs 0 _ rfl);obtain⟨u1,l1,e1,h1⟩:=Cw (k:=1) (E:=Y0) (sz:=2) underlying22 (BK (by kernel_rfl)) (by kernel_rfl) (hs 1 _ rfl) fun _ _=>zX;obtain⟨u2,l2,e2,h2⟩:=Cw (k:=2) (E:=IU) (sz:=2) underlying23 (BK (by kernel_rfl)) (by kernel_rfl) (hs 2 _ rfl) fun _ _=>VR;obtain⟨u3,l3,e3,h3⟩:=Cw (k:=3) (E:=fun w a x=>gV w a x/\Bo (Ex.k x)) (sz:=2) underlying24 (BK (by kernel_rfl)) (by kernel_rfl) (hs 3 _ rfl) fun _ _=>ADN;obtain⟨u4,l4,e4,h4⟩:=Cw (k:=4) (E:=fun w a x=>VP w a x/\∀b∈Fn.bs x,RA b) (sz:=5) underlying25 (BK (by kernel_rfl)) (by kernel_rfl) (hs 4 _ rfl) fun _ _=>ADP;obtain⟨h3,r3⟩:=h3.split;obtain⟨h4,r4⟩:=h4.split;have:=oG (hl.trans (by kernel_rfl)) e0 e1 e2 e3 e4;exact⟨⟨b,l1,l2,l3,l4⟩,u1,u2,u3,u4,⟨by rw[this],h1,h2,h3,h4⟩,r3,r4⟩
theorem Zt{a:Addr}(h:Rd enc prog w base spare held 2 cs)(_:cs.length=1)(hc:∀j,j<1->w.cell? (a.add j)=cs[j]?):∃x,Nj w a x/\Bo x:=by
 obtain⟨s,rfl,hz⟩:=h.int underlying2;exact⟨s,hc 0 (by decide),ME hz⟩
theorem AAJ(h:Rd enc prog w base spare held 5 ((cs.drop k).take 1)):∃n:Int,cs[k]? =some (.int .u8 n)/\(Lit.int .u8 n).wf=true:=by
 obtain⟨s,e,hz⟩:=h.int underlying5;exact⟨s,Iw e,hz⟩
structure oM(w:World)(v:Value)(f:Nat)(l1:List Int)(fuel:Int)(l2 l3:List Int)(u1 u2 u3:Value):Prop where
 e:v=.agg #[.int .u8 (f:Int),u1,.int .i64 fuel,u2,u3]
 f:f<256
 r1:Row Nj 1 w u1 l1
 r2:Row Nj 1 w u2 l2
 r3:Row Nj 1 w u3 l3
 g1:∀n∈l1,Bo n
 g2:∀n∈l2,Bo n
 g3:∀n∈l3,Bo n
 fu:Bo fuel
theorem ADX(h:Rd enc prog w base spare held 30 cs):∃(f:Nat) (l1:List Int) (fuel:Int) (l2 l3:List Int) (u1 u2 u3:Value),oM w (.agg cs.toArray) f l1 fuel l2 l3 u1 u2 u3:=by
 obtain⟨hl,hs⟩:=h.struct underlying30;obtain⟨f,e0,z0⟩:=AAJ (k:=0) (hs 0 _ rfl);obtain⟨u1,l1,e1,h1⟩:=Cw (k:=1) (E:=fun w a x=>Nj w a x/\Bo x) (sz:=1) underlying28 (BK (by kernel_rfl)) (by kernel_rfl) (hs 1 _ rfl) fun _ _=>Zt;obtain⟨fu,e2,z2⟩:=P6 (k:=2) (hs 2 _ rfl);obtain⟨u2,l2,e3,h2⟩:=Cw (k:=3) (E:=fun w a x=>Nj w a x/\Bo x) (sz:=1) underlying28 (BK (by kernel_rfl)) (by kernel_rfl) (hs 3 _ rfl) fun _ _=>Zt;obtain⟨u3,l3,e4,h3⟩:=Cw (k:=4) (E:=fun w a x=>Nj w a x/\Bo x) (sz:=1) underlying28 (BK (by kernel_rfl)) (by kernel_rfl) (hs 4 _ rfl) fun _ _=>Zt;obtain⟨h1,r1⟩:=h1.split;obtain⟨h2,r2⟩:=h2.split;obtain⟨h3,r3⟩:=h3.split;have:=oG (hl.trans (by kernel_rfl)) e0 e1 e2 e3 e4;have hf:0<=f/\f<256:=by
  have h1:IntKind.u8.min=0:=rfl;have h2:IntKind.u8.max=255:=rfl;simp only[Lit.wf,Bool.and_eq_true,decide_eq_true_eq]at z0;exact⟨by omega,by omega⟩
 obtain⟨n,rfl⟩:=Int.eq_ofNat_of_zero_le hf.1;exact⟨n,l1,fu,l2,l3,u1,u2,u3,by rw[this],by omega,h1,h2,h3,r1,r2,r3,ME z2⟩
end
end
section
def Lu(w:World)(s:St)(fr hp gl tr mk:Value)(P:Nat->Prop):Prop:=
 ∃F1 F2 F3 F4 F5,AZ w 0 84 4 (s.frames.map Kw) fr F1/\AZ w 0 119 2 (s.heap.map Ld) hp F2/\AZ w 0 34 2 (s.globals.map C9) gl F3/\AZ w 0 59 4 (s.trace.map Qc) tr F4/\AZ w 0 2 1 (s.marks.map dN) mk F5/\
  ∀b∈F1++(F2++(F3++(F4++F5))),b<w.heap.size/\P b
theorem Lu.in{P:Nat->Prop}(h:Lu w s fr hp gl tr mk P):Qx w s fr hp gl tr mk:=by
 obtain⟨F1,F2,F3,F4,F5,h1,h2,h3,h4,h5,-⟩:=h;exact⟨⟨_,h1⟩,⟨_,h2⟩,⟨_,h3⟩,⟨_,h4⟩,⟨_,h5⟩⟩
theorem Lu.same{w1:World}{P Q:Nat->Prop}(h:Lu w s fr hp gl tr mk P)(hh:∀b,b<w.heap.size->P b->w1.heap[b]? =w.heap[b]?)(hz:w.heap.size<=w1.heap.size)(hQ:∀b,b<w.heap.size->P b->Q b):Lu w1 s fr hp gl tr mk Q:=by
 obtain⟨F1,F2,F3,F4,F5,h1,h2,h3,h4,h5,h6⟩:=h;have k:∀b∈F1++(F2++(F3++(F4++F5))),w1.heap[b]? =w.heap[b]? :=fun b hb=>hh b (h6 b hb).1 (h6 b hb).2;refine⟨F1,F2,F3,F4,F5,h1.same fun b hb=>k b (by simp[hb]),h2.same fun b hb=>k b (by simp[hb]),h3.same fun b hb=>k b (by simp[hb]),h4.same fun b hb=>k b (by simp[hb]),h5.same fun b hb=>k b (by simp[hb]),fun b hb=>⟨A9 (h6 b hb).1 hz,hQ b (h6 b hb).1 (h6 b hb).2⟩⟩
theorem Bt.a{B:Nat}(h:Bt w B s fr hp gl tr mk):Lu w s fr hp gl tr mk fun b=>B<=b:=by
 obtain⟨F1,F2,F3,F4,F5,h1,h2,h3,h4,h5,-⟩:=h;refine⟨F1,F2,F3,F4,F5,AZ.mono (AY) h1,AZ.mono (AY) h2,AZ.mono (AY) h3,AZ.mono (AY) h4,AZ.mono (AY) h5,fun b hb=>?_⟩;simp only[List.mem_append]at hb;rcases hb with hb|hb|hb|hb|hb
 ·exact⟨(h1.fp b hb).2,(h1.fp b hb).1⟩
 ·exact⟨(h2.fp b hb).2,(h2.fp b hb).1⟩
 ·exact⟨(h3.fp b hb).2,(h3.fp b hb).1⟩
 ·exact⟨(h4.fp b hb).2,(h4.fp b hb).1⟩
 ·exact⟨(h5.fp b hb).2,(h5.fp b hb).1⟩
abbrev gY(p:Nat):Value:=.pointer (some ⟨p,0,none⟩)
def Wi(s:St)(fr hp gl tr mk:Value):List Value:=[.int .i64 s.status,.string s.result.1,.int .i64 s.result.2,.int .i64 s.code,fr,hp,gl,tr,mk,.int .i64 s.allocs,.int .i64 s.steps,.int .i64 s.guards,.int .i64 s.asked]
def Off(V:Nat->Value)(L:Nat->Bool)(b:Nat):Prop:=L 10=true->V 10≠gY b
structure Fv(W:World)(s:St)(V:Nat->Value)(L:Nat->Bool)(w:World):Prop where
 b:AA6 W w
 v6:L 6=true->∃fr hp gl tr mk,V 6=.tuple #[Ko s fr hp gl tr mk,.int .i64 0]/\Lu w s fr hp gl tr mk (Off V L)
 v7:L 7=true->∃fr hp gl tr mk,V 7=.tuple #[Ko s fr hp gl tr mk,.int .i64 0]/\Lu w s fr hp gl tr mk (Off V L)
 v8:L 8=true->∃fr hp gl tr mk,V 8=Ko s fr hp gl tr mk/\Lu w s fr hp gl tr mk (Off V L)
 v9:L 9=true->V 9=.int .i64 0
 vb:L 10=true->∃p,V 10=gY p/\W.heap.size<=p/\p<w.heap.size/\(L 11=false->Ae w p gF)/\(L 11=true->∃fr hp gl tr mk,Ae w p (Wi s fr hp gl tr mk)/\Lu w s fr hp gl tr mk (Off V L))
section
variable {W w w2 : World} {s : St} {V : Nat -> Value} {L : Nat -> Bool}
theorem Fv.start(h:AA6 W w):Fv W s V (fun _=>false) w:=⟨h,(fun e=>Bool.noConfusion e),(fun e=>Bool.noConfusion e),(fun e=>Bool.noConfusion e),(fun e=>Bool.noConfusion e),(fun e=>Bool.noConfusion e)⟩
theorem Off.upd(h:((10:Nat)==i)=false):Off V (upd L i)=Off V L:=by
 unfold Off;rw[upd_ne h]
theorem Fv.keep(h:Fv W s V L w)(h6:((6:Nat)==i)=false)(h7:((7:Nat)==i)=false)(h8:((8:Nat)==i)=false)(h9:((9:Nat)==i)=false)(ha:((10:Nat)==i)=false)(hb:((11:Nat)==i)=false):Fv W s V (upd L i) w:=by
 refine⟨h.b,?_,?_,?_,?_,?_⟩
 ·rw[upd_ne h6,Off.upd ha];exact h.v6
 ·rw[upd_ne h7,Off.upd ha];exact h.v7
 ·rw[upd_ne h8,Off.upd ha];exact h.v8
 ·rw[upd_ne h9];exact h.v9
 ·rw[upd_ne ha,upd_ne hb,Off.upd ha];exact h.vb
theorem Fv.kp(h:Fv W s V L w)(hb:AA6 w w2):Fv W s V L w2:=by
 have k:∀{fr hp gl tr mk:Value},Lu w s fr hp gl tr mk (Off V L)->Lu w2 s fr hp gl tr mk (Off V L):=fun h=>h.same (fun b h1 _=>hb.block b h1) hb.size fun _ _ h=>h;refine⟨AB h.b hb,fun e=>?_,fun e=>?_,fun e=>?_,h.v9,fun e=>?_⟩
 ·obtain⟨_,_,_,_,_,e1,e2⟩:=h.v6 e;exact⟨_,_,_,_,_,e1,k e2⟩
 ·obtain⟨_,_,_,_,_,e1,e2⟩:=h.v7 e;exact⟨_,_,_,_,_,e1,k e2⟩
 ·obtain⟨_,_,_,_,_,e1,e2⟩:=h.v8 e;exact⟨_,_,_,_,_,e1,k e2⟩
 ·obtain⟨p,e1,e2,e3,e4,e5⟩:=h.vb e;refine⟨p,e1,e2,A9 e3 hb.size,fun e=>(e4 e).same (hb.block p e3),fun e=>?_⟩;obtain⟨_,_,_,_,_,x1,x2⟩:=e5 e;exact⟨_,_,_,_,_,x1.same (hb.block p e3),k x2⟩
theorem iY(h:((10:Nat)==i)=false):Off (EB V i v) (upd L i)=Off V L:=by
 unfold Off;rw[upd_ne h,Br V v (by simpa using h)]
theorem Fv.set(h:Fv W s V L w)(v:Value)(ha:((10:Nat)==i)=false)(hb:((11:Nat)==i)=false)(h6:i=6->∃fr hp gl tr mk,v=.tuple #[Ko s fr hp gl tr mk,.int .i64 0]/\Lu w s fr hp gl tr mk (Off V L)) (h7:i=7->∃fr hp gl tr mk,v=.tuple #[Ko s fr hp gl tr mk,.int .i64 0]/\Lu w s fr hp gl tr mk (Off V L))(h8:i=8->∃fr hp gl tr mk,v=Ko s fr hp gl tr mk/\Lu w s fr hp gl tr mk (Off V L)) (h9:i=9->v=.int .i64 0):Fv W s (EB V i v) (upd L i) w:=by
 have key:∀{Q:Value->Prop} (n:Nat),(i=n->Q v)->(L n=true->Q (V n))->upd L i n=true->Q (EB V i v n):=fun n h1 h2 h3=>by
  by_cases e:i=n
  ·subst e;rw[BL];exact h1 rfl
  ·have hn:(n==i)=false:=by simpa using fun h=>e h.symm
   rw[upd_ne hn]at h3;rw[Br V v (fun h=>e h.symm)];exact h2 h3
 refine⟨h.b,?_,?_,?_,?_,?_⟩
 ·rw[iY ha];exact key (Q:=fun x=>∃fr hp gl tr mk,x=.tuple #[Ko s fr hp gl tr mk,.int .i64 0]/\Lu w s fr hp gl tr mk (Off V L)) 6 h6 h.v6
 ·rw[iY ha];exact key (Q:=fun x=>∃fr hp gl tr mk,x=.tuple #[Ko s fr hp gl tr mk,.int .i64 0]/\Lu w s fr hp gl tr mk (Off V L)) 7 h7 h.v7
 ·rw[iY ha];exact key (Q:=fun x=>∃fr hp gl tr mk,x=Ko s fr hp gl tr mk/\Lu w s fr hp gl tr mk (Off V L)) 8 h8 h.v8
 ·exact key (Q:=fun x=>x=.int .i64 0) 9 h9 h.v9
 ·rw[iY ha,upd_ne ha,upd_ne hb,Br V v (by simpa using ha)];exact h.vb
theorem Fv.made(h:Fv W s V L w)(hl:L 10=false)(h11:L 11=false)(t:TypeId):Fv W s (EB V 10 (gY w.heap.size)) (upd L 10) (w.alloc (.cells gF.toArray t)):=by
 have hal:=AJ w (.cells gF.toArray t);have k:∀{fr hp gl tr mk:Value},Lu w s fr hp gl tr mk (Off V L)->Lu (w.alloc (.cells gF.toArray t)) s fr hp gl tr mk (Off (EB V 10 (gY w.heap.size)) (upd L 10)):=fun h=>h.same (fun b h1 _=>hal.block b h1) hal.size fun b h1 _ _ e=>by
  rw[BL]at e;injection e with e;injection e with e;injection e with e;omega
 refine⟨AB h.b hal,?_,?_,?_,?_,fun _=>⟨w.heap.size,BL _ _ _,h.b.size,by simp,fun _=>Ae.alloc w gF t,fun e=>?_⟩⟩
 ·rw[upd_ne (by rfl),Br V _ (by decide)];intro e;obtain⟨_,_,_,_,_,e1,e2⟩:=h.v6 e;exact⟨_,_,_,_,_,e1,k e2⟩
 ·rw[upd_ne (by rfl),Br V _ (by decide)];intro e;obtain⟨_,_,_,_,_,e1,e2⟩:=h.v7 e;exact⟨_,_,_,_,_,e1,k e2⟩
 ·rw[upd_ne (by rfl),Br V _ (by decide)];intro e;obtain⟨_,_,_,_,_,e1,e2⟩:=h.v8 e;exact⟨_,_,_,_,_,e1,k e2⟩
 ·rw[upd_ne (by rfl),Br V _ (by decide)];exact h.v9
 ·rw[upd_ne (by rfl),h11]at e;cases e
theorem Fv.fill(h:Fv W s V L w){p:Nat}(hl:L 10=true)(h11:L 11=false)(hp:V 10=gY p){h':Value}(hA:Lu w s fr h' gl tr mk (Off V L)):Fv W s V (upd L 11) (BZ w p 0 (Wi s fr h' gl tr mk)):=by
 obtain⟨p',e1,e2,e3,e4,-⟩:=h.vb hl;obtain rfl:p=p':=by rw[hp]at e1;simpa[gY]using e1
 have hsz:=DK (p:=p) (Wi s fr h' gl tr mk) 0 w;have ho:Off V (upd L 11)=Off V L:=Off.upd (by rfl);have k:∀{fr1 hp1 gl1 tr1 mk1:Value},Lu w s fr1 hp1 gl1 tr1 mk1 (Off V L)->Lu (BZ w p 0 (Wi s fr h' gl tr mk)) s fr1 hp1 gl1 tr1 mk1 (Off V (upd L 11)):=fun h=>h.same (fun b _ h2=>Bu (fun e=>h2 hl (by rw[hp,e])) _ _ _) (Nat.le_of_eq hsz.symm) fun b _ h2=>by rw[ho];exact h2
 refine⟨h.b.trans (Ay e2 _ 0 w),?_,?_,?_,?_,fun _=>⟨p,hp,e2,by rw[hsz];exact e3,(fun e=>by rw[Cc]at e;cases e),fun _=>⟨_,_,_,_,_,CK (Wi s fr h' gl tr mk) _ 0 w (e4 h11) rfl,k hA⟩⟩⟩
 ·rw[upd_ne (by rfl)];intro e;obtain⟨_,_,_,_,_,e1,e2⟩:=h.v6 e;exact⟨_,_,_,_,_,e1,k e2⟩
 ·rw[upd_ne (by rfl)];intro e;obtain⟨_,_,_,_,_,e1,e2⟩:=h.v7 e;exact⟨_,_,_,_,_,e1,k e2⟩
 ·rw[upd_ne (by rfl)];intro e;obtain⟨_,_,_,_,_,e1,e2⟩:=h.v8 e;exact⟨_,_,_,_,_,e1,k e2⟩
 ·rw[upd_ne (by rfl)];exact h.v9
theorem Fv.called(h:Fv W s V L w)(hb:AA6 w w2)(ho:Bt w2 w.heap.size s fr hp gl tr mk):Fv W s (EB V 6 (.tuple #[Ko s fr hp gl tr mk,.int .i64 0])) (upd L 6) w2:=by
 refine(h.kp hb).set _ (by rfl) (by rfl) (fun _=>⟨_,_,_,_,_,rfl,ho.a.same (fun _ _ _=>rfl) (AQ) fun b _ h2=>?_⟩) (fun e=>absurd e (by decide)) (fun e=>absurd e (by decide)) (fun e=>absurd e (by decide));intro hl e;obtain⟨p,e1,-,e3,-⟩:=h.vb hl;rw[e1]at e;injection e with e;injection e with e;injection e with e;omega
end
end
end Go.Proofs.YtlffomedflegdaaGreatDoor
