/- Part 15 of the proof: Ou, Ov, Ow, Oz, Pa. -/
import Derived.Test.YtlffomedflegdaaGreatDoorPd14
set_option linter.all false
set_option maxHeartbeats 16000000
set_option maxRecDepth 100000
namespace Go.Proofs.YtlffomedflegdaaGreatDoor
open Go.Proofs.Tryz
open Go.RowKit
open Go.Value renaming int→cI,string→cS,slice→cY,bool→cE
open Go.IntKind renaming i64→cJ
open Option renaming some→cP,none→cX
open Bool renaming false→cA,true→cC
variable {B BB FB N R cap cap2 k:Nat}{b:Bk}{br:List Bk}{f:Fn}{fr:List Fn}{l:List ByteArray}{lg wh:Int}{q:Pg}{u v:Value}{w w' w0 w1:World}
section
open Word Num Dp
def Wy(B R k:Nat)(e:Ending)(w':World):Prop:=∃why:Int,e=.returned (cI cJ why)/\(why=0->∃N q wh lg,Ct w' B N R q wh lg (k+1))
def zL(w:World)(s:ByteArray):AZ (w.alloc (.cells #[cS s] 9)) w.heap.size 9 1 ([s].map dS) (cY (cP ⟨w.heap.size,0,cX⟩) 1 1) [w.heap.size]:=
 have hb:=Ae.alloc w [cS s] 9
 .inr ⟨w.heap.size,1,#[cS s],[],rfl,AQ,heap_alloc_new w _,AQ,by unfold maxLen;omega,rfl,rfl,(by simp[Dt.wd,dS]),AP.cc (hb.c 0 _ rfl) rfl AP.cn⟩
def zK(w:World)(s t:ByteArray):AZ (w.alloc (.cells #[cS s,cS t] 9)) w.heap.size 9 1 ([s,t].map dS) (cY (cP ⟨w.heap.size,0,cX⟩) 2 2) [w.heap.size]:=
 have hb:=Ae.alloc w [cS s,cS t] 9
 .inr ⟨w.heap.size,2,#[cS s,cS t],[],rfl,AQ,heap_alloc_new w _,AQ,by unfold maxLen;omega,rfl,rfl,(by simp[Dt.wd,dS]),AP.cc (hb.c 0 _ rfl) rfl (AP.cc (hb.c 1 _ rfl) rfl AP.cn)⟩
theorem LastB.carry{N':Nat}{oZ o9:Int}{k':Nat}(h:LastB w B N R q wh lg fr f FB cap br b BB cap2)(hR:Ct w' B N' R q oZ o9 k')(hq:q.fs=fr++[f])(hb:f.bs=br++[b])(e4:w'.cell? ⟨R,4,cX⟩=w.cell? ⟨R,4,cX⟩) (e5:w'.cell? ⟨FB,fr.length*5+4,cX⟩=w.cell? ⟨FB,fr.length*5+4,cX⟩):LastB w' B N' R q oZ o9 fr f FB cap br b BB cap2:=by
 obtain⟨TY,cap',hF'⟩:=hR.Fy hq;have e:=hF'.lc;rw[e4,h.lf.lc]at e;obtain⟨rfl,rfl⟩:FB=TY/\cap=cap':=by simpa using e
 obtain⟨BB',AAs,hB'⟩:=hR.lastB hF' hb;have e:=hB'.lc;rw[e5,h.lc]at e;grind
def LastB.up(h:LastB w B N R q wh lg fr f FB cap br b BB cap2)(hR:Ct w B N R q wh lg k)(hq:q.fs=fr++[f])(hb:f.bs=br++[b])(hw:AA6 w w'):LastB w' B N R q wh lg fr f FB cap br b BB cap2:=
 h.carry (hR.kp hw) hq hb (hw.cell hR.lt) (hw.cell h.lf.lt.lt)
def RO.neR(h:RO w B N R q wh lg fr f FB cap)(hR:Ct w B N R q wh lg k):FB≠R:=λe=>by
 obtain⟨c1,h1⟩:=h.lt;obtain⟨c2,h2⟩:=hR.typ;rw[e,h2]at h1;injection h1 with h1;injection h1 with _ h1 _;exact absurd h1 (by decide)
def VQ{s c:ByteArray}{l:List UInt8}(h:(s.toList==l)=cC)(hc:c.data.toList=l):s=c:=by
 have e:=eq_of_beq h;rw[ByteArray.toList_eq,<-hc]at e;exact ByteArray.ext (Array.toList_inj.1 e)
theorem fI(h0:AA6 w0 w)(hR:Ct w B N R q wh lg k)(hB:w0.heap.size<=B)(hk:k+1<=5000000)(hl:Row DL 1 w0 u l)(hz:Wz l)(hp:0<l.length)     (hq:q.fs=fr++[f]) (hbq:f.bs=br++[b]) (hL:LastB w B N R q wh lg fr f FB cap br b BB cap2):Calls prog 238 #[.pointer (cP ⟨R,0,cX⟩),.pointer (cP ⟨BB,br.length*9,cX⟩),u] w λe w'=>Wy B R k e w'/\Below B w w':=by
 obtain⟨p,c,rfl⟩:=hl.slice;obtain⟨a,rfl,-⟩:=CV hl hp;have cw:=hR.cw;have f5:=hR.Bw 5;have PV:(0:Int)<l.length:=by omega
 have TN:=hR.setW 9 ⟨by omega,(λh=>absurd h (by decide)),(λ_=>by rw[hq];simp),(λ_ h=>absurd h (by decide)),λ_ h=>absurd h (by decide)⟩;have hL9:=hL.carry TN hq hbq (World.cell?_setCell_other _ _ _ _ (λe=>by have:=congrArg Addr.off e;simp at this)) (World.cell?_setCell_other _ _ _ _ (λe=>hL.lf.neR hR (congrArg Addr.block e).symm));have J9:=hR.low (cI cJ 9) 5;have hBw:B<=w.heap.size:=by have:=hR.own.ge;have:=hR.lt;omega
 have h09:AA6 w0 (w.setCell ⟨R,5,cX⟩ (cI cJ 9)):=h0.trans (J9.mono hB);have d0:=AA h09 (Bg hl hp);go_enter func238,ntmps238;go_upto_region 2 with fail;generalize w.setCell ⟨R,5,cX⟩ (cI cJ 9)=w9 at*;replace hBw:B<=w9.heap.size:=AX hBw J9.size;go_cut[31]from 16 to 30 (λv wx=>∃r:Bool,v=cE r/\(r=cC->l.length=2)/\AA6 w9 wx)
 ·generalize l[0]=s at*
  cases hs:(s.toList==[106,117,109,112])with
  |false=>
   go_wp2;go_meet
   exact⟨_,rfl,(λh=>by cases h),AL⟩
  |true=>
   cases h2:((l.length:Int)==2)with
   |false=>
    go_wp2;go_meet
    exact⟨_,rfl,(λh=>by cases h),AL⟩
   |true=>
    have hl2:l.length=2:=by
     have:(l.length:Int)=2:=(by simpa using h2);omega
    have C8:1<l.length:=(by omega);have Fw:(1:Int)<l.length:=(by omega);obtain⟨s1,hg,hz1,d1⟩:=EN hl C8 hz;replace d1:=AA h09 d1;have hb:=AJ w9 (.cells #[cS s1] 9);have hN:=Bn (Below.refl (w9.alloc (.cells #[cS s1] 9)).heap.size _) (DN (l:=[s1]) (Ae.alloc w9 [cS s1] 9) ⟨show 1<=10000000 by decide,by simpa using hz1⟩);simp only[List.length_cons,List.length_nil,Nat.zero_add,List.all_cons,List.all_nil,Bool.and_true]at hN;replace hl2:=Wx hl2;generalize nm s1=v at*;go_wp2_with fail;refine hN.mono ?_;rintro e w3 ⟨rfl,rfl⟩;cases v
    ·go_wp2;go_meet;exact⟨_,rfl,(λh=>by cases h),hb⟩
    ·go_wp2;go_meet;exact⟨_,rfl,(λ_=>hl2.out),hb⟩
 obtain⟨r,rfl,hr,hb1⟩:=hcut;obtain⟨w1,rfl⟩:=again wc;have h01:=AB h09 hb1;have Jc:=TN.kp hb1;have hL1:=hL9.up TN hq hbq hb1;have Db:=J9.trans (hb1.mono hBw);replace d0:=AA hb1 d0;cases r;rotate_left
 ·have hl2:=hr rfl;have C8:1<l.length:=by omega
  have Fw:(1:Int)<l.length:=by omega
  obtain⟨s1,hg,hz1,d1⟩:=EN hl C8 hz;replace d1:=AA h01 d1;have hb2:=AJ w1 (.cells #[cS s1] 9);have hR2:=Jc.kp hb2;have hL2:=hL1.up Jc hq hbq hb2;have hv:=zL w1 s1;have hw2:w1.heap.size=w1.heap.size:=rfl;obtain⟨v0,v1,v2,v3,v4,v5,c0,c1,c2,c3,c4,c5⟩:=hL2.cells;have f0:=hL2.lt.Bw (br.length*9+3);have f1:=hL2.lt.Bw (br.length*9+3+1);have f2:=hL2.lt.Bw (br.length*9+3+2);have f3:=hL2.lt.Bw (br.length*9+3+3);have f4:=hL2.lt.Bw (br.length*9+3+4);have f5:=hL2.lt.Bw (br.length*9+3+5);obtain⟨hRe,hbe⟩:=hL2.KH hR2 hq hbq ⟨1,⟨0,⟨#[]⟩,0⟩,[s1],0⟩ ⟨(λ_=>rfl),(λh=>absurd (show(1:Int)=2 from h) (by decide)),AY,⟨show 1<=10 by decide,λt ht=>by rw[List.mem_singleton.1 ht];exact hz1⟩⟩ (AZ.mono Jc.own.sz hv) (by simp) rfl (by omega) hk;have ZY:=Db.trans ((hb2.mono (AX Jc.own.ge (AX (Nat.le_of_lt Jc.own.lt) Jc.own.sz))).trans hbe);go_wp2;go_ret;exact⟨⟨_,rfl,λ_=>⟨_,_,_,_,hRe⟩⟩,ZY⟩
 go_upto_region 5 with fail;go_cut[58]from 40 to 57 (λv wx=>∃r:Bool,v=cE r/\(r=cC->l.length=4/\l[0]=⟨#[98,114,97,110,99,104]⟩)/\AA6 w1 wx)
 ·generalize hs0:l[0]=s at*;replace hs0:=Wx hs0;have hbd:=(Below.refl w1.heap.size w1).drew
  cases hs:(s.toList==[98,114,97,110,99,104])with
  |false=>
   go_wp2;refine ALQ (S:=λ_ v=>AA6 w1 v) hbd ?_;(iterate 19(first|(refine Ab.f (λz=>z.s) (λz=>AA z.s d0) ?_)|(refine Ab.skip rfl (λL w1 hS hi=>(hS)) ?_;(try simp only[pE]))));refine Ab.nil λw4 Bb=>?_;go_wp2;go_meet
   exact⟨_,rfl,(λh=>by cases h),Bb⟩
  |true=>
   cases h2:((l.length:Int)==4)with
   |false=>
    go_wp2;refine ALQ (S:=λ_ v=>AA6 w1 v) hbd ?_;(iterate 19(first|(refine Ab.f (λz=>z.s) (λz=>AA z.s d0) ?_)|(refine Ab.skip rfl (λL w1 hS hi=>(hS)) ?_;(try simp only[pE]))));refine Ab.nil λw4 Bb=>?_;go_wp2;go_meet
    exact⟨_,rfl,(λh=>by cases h),Bb⟩
   |true=>
    have hs1:=VQ hs (c:=⟨#[98,114,97,110,99,104]⟩) rfl;replace hs1:=Wx hs1;have hl4:l.length=4:=by
     have:(l.length:Int)=4:=(by simpa using h2);omega
    have LQ:2<l.length:=(by omega);have Qj:(2:Int)<l.length:=(by omega);have nN:3<l.length:=(by omega);have h3I:(3:Int)<l.length:=(by omega);obtain⟨a2,e2,d2⟩:=BQ hl (q:=1) LQ;obtain rfl:a=a2:=(by simpa using e2);obtain⟨a3,e3,d3⟩:=BQ hl (q:=2) nN;obtain rfl:a=a3:=(by simpa using e3);have hz2:=Dl hz LQ;have hz3:=Dl hz nN;replace d2:=AA h01 d2;replace d3:=AA h01 d3;simp only[Nat.reduceAdd]at d2 d3 hz2 hz3;generalize l[2]=s2 at*;generalize l[3]=s3 at*;obtain⟨nv,nC⟩:∃nv,nv=[s2,s3].all nm:=⟨_,rfl⟩;replace hl4:=Wx hl4;replace nC:=Wx nC;go_wp2;refine ALR (S:=GC (λv1=>AA6 w1 v1) (R1 16 17 (λv v1=>∃pb,v=cY (cP ⟨pb,0,cX⟩) 2 2/\Ae v1 pb [cS s2,cS s3])) 17 (λv v1=>v=cE nv/\AA6 w1 v1)) (GC.start hbd) ?_;(iterate 16((refine AU.f (λz=>z.s.keep rfl rfl) (λz=>have hI:=z.s.k (z.f 17);ALS (AA hI d0) (ALS (AA hI d2) (AA hI d3))) ?_)));refine AU.free (λ_=>rfl) (λV L w2 K' Q' hS hi hR hd hK=>?_) ?_
    ·have hc:=hR.out 17 16 (by kernel_rfl) hi;have hI:=hS.k hc;have hb:=AJ w2 (.cells #[cS s2,cS s3] 9);go_simp;(try simp only[pE]);exact hK.out _ _ rfl (hS.made (Cv λh=>absurd rfl h) (AB hI hb) hc rfl ⟨_,rfl,Ae.alloc _ _ _⟩ rfl)
    (try simp only[pE]);refine AU.free (λ_=>rfl) (λV L w2 K' Q' hS hi hR hd hK=>?_) ?_
    ·obtain⟨pb,hp,hx⟩:=hS.val hi rfl (hd.out 16 (by kernel_rfl)) hi;have hI:=hS.k hi;have hN:=Bn (Below.refl w2.heap.size _) (DN (l:=[s2,s3]) hx ⟨show 2<=10000000 by decide,by simpa using⟨hz2,hz3⟩⟩);rw[<-nC.out]at hN;simp only[hp];go_simp;(go_wp2_with(refine hN.mono ?_;rintro e w3 ⟨rfl,rfl⟩));exact hK.out _ _ (by simp only[hp];rfl) (GC.call ⟨rfl,hI⟩)
    (try simp only[pE]);((refine AU.step (a1:=?_) (λ_=>rfl) (λV L w1 K' Q' hS hi hR hd hK=>?_) ?_ ?_ ?_;rotate_left);(· (go_simp;(try simp only[pE]);exact hK.out _ (hS.keep rfl rfl)));(· (intro V;rfl));(· (exact λL V V' Kt hl hv=>hv (17) (Classical.byContradiction λh=>by have:=Kt (18) (17) (by kernel_rfl) (by simpa using h);rw[hl]at this;cases this))));refine AU.nil λV w4 hS=>?_;obtain⟨GX,hb4⟩:=hS.done rfl;simp only[GX];go_wp2;go_meet;exact⟨_,rfl,(λ_=>⟨hl4.out,hs1.out⟩),hb4⟩
 obtain⟨r,rfl,hr,hb2⟩:=hcut;obtain⟨w2,rfl⟩:=again wc;have hNs:=Jc.own.sz;have hBN:=AX Jc.own.ge (Nat.le_of_lt Jc.own.lt);have h02:=AB h01 hb2;have hR2:=Jc.kp hb2;have hL2:=hL1.up Jc hq hbq hb2;replace Db:=Db.trans (hb2.mono (AX hBN hNs));replace d0:=AA hb2 d0;have Zh:=AX hNs hb2.size;have hlc:l.length<=c:=by
  obtain⟨_,_,e,-,⟨-,h⟩,-⟩:=hl;obtain⟨-,-,rfl⟩:=Value.slice.inj e;exact h
 cases r;rotate_left
 ·obtain⟨hl4,hw⟩:=hr rfl;have C8:0+1<l.length:=by omega
  have LQ:2<l.length:=by omega
  have nN:3<l.length:=by omega
  have hA:=FT h02 (row_one hl (q:=0) C8 (m:=c-1) (by omega)) ⟨show 1<=10000000 by decide,by simpa using Dl hz C8⟩ cA;obtain⟨a2,e2,d2⟩:=BQ hl (q:=1) LQ;obtain rfl:a=a2:=by simpa using e2
  obtain⟨a3,e3,d3⟩:=BQ hl (q:=2) nN;obtain rfl:a=a3:=by simpa using e3
  have hz2:=Dl hz LQ;have hz3:=Dl hz nN;replace d2:=AA h02 d2;replace d3:=AA h02 d3;simp only[Nat.reduceAdd]at d2 d3 hz2 hz3;rw[hw]at d0;generalize l[2]=s2 at*;generalize l[3]=s3 at*;have hc2:(2:Int)<=c:=by omega
  go_wp2_with fail;refine hA.mono ?_;rintro e w3 ⟨⟨v1,b1,al,F1,rfl,⟨p1,m1,c1,rfl⟩,h1⟩,hb3⟩;replace d0:=AA hb3 d0;replace d2:=AA hb3 d2;replace d3:=AA hb3 d3;have LX:=Db.trans (hb3.mono (AX hBN Zh));cases b1
  ·go_wp2;go_ret;exact⟨⟨_,rfl,λh=>absurd h (by decide)⟩,LX⟩
  obtain⟨k1,k2,-,k3⟩:=h1 rfl;obtain⟨x,rfl⟩:∃x,al=[x]:=List.length_eq_one_iff.1 (by simpa using k1);have hxz:x.s.size<=10000000:=k3 x (by simp)
  have hrow:=k2.view (E:=Lg) (ok:=VJ) MX (λx g o f h1 h2=>vA h1 h2) (by unfold Ln;simp) (λy hy=>by
   obtain rfl:=List.mem_singleton.1 hy;unfold VJ Sz
   omega)
  obtain⟨pa,ca,he,-,-,hat⟩:=hrow;obtain⟨ag,rfl,f0,⟨f1,-⟩,f2⟩:=hat 0 x rfl;obtain⟨rfl,rfl,rfl⟩:p1=cP ag/\m1=1/\c1=ca:=by simpa using he
  rw[Nat.zero_mul]at f0 f1 f2;change w3.cell? ag=_ at f0;change w3.cell? ⟨ag.block,ag.off+1,cX⟩=_ at f1;change w3.cell? ⟨ag.block,ag.off+2,cX⟩=_ at f2;have IK:=hR2.kp hb3;have hL3:=hL2.up hR2 hq hbq hb3;have rA:=AX Zh hb3.size;have vR:(0:Int)<((1:Nat):Int):=by decide
  have Qj:(2:Int)<l.length:=by omega
  have h3I:(3:Int)<l.length:=by omega
  go_wp2
  refine ALR (S:=GC (λv1=>AA6 w3 v1) (R2 11 14 (λv v1=>∃pb,v=.agg #[cI cJ 2,cI cJ x.k,cS x.s,cI cJ x.n,cY (cP ⟨pb,0,cX⟩) 2 2,cI cJ 0]/\AZ v1 w3.heap.size 9 1 ([s2,s3].map dS) (cY (cP ⟨pb,0,cX⟩) 2 2) [pb]) (R1 10 11 (λv v1=>∃pb,v=cY (cP ⟨pb,0,cX⟩) 2 2/\AZ v1 w3.heap.size 9 1 ([s2,s3].map dS) (cY (cP ⟨pb,0,cX⟩) 2 2) [pb]))) 14
   (λ_ v1=>(∃N q wh lg,Ct v1 B N R q wh lg (k+1))/\Below B w3 v1)) (GC.start (Below.refl w3.heap.size w3).drew) ?_
  iterate 10((refine AU.f (λz=>z.s.keep rfl rfl) (λz=>have hI:=z.s.k (z.f 14);ALS (AA hI f0) (ALS (AA hI f1) (ALS (AA hI f2) (ALS (AA hI d2) (AA hI d3))))) ?_))
  refine AU.free (λ_=>rfl) (λV L w4 K' Q' hS hi hR hd hK=>?_) ?_
  ·have hc:=hR.out.far (j:=14) (by kernel_rfl) hi;have hI:=hS.k hc;have hb:=AJ w4 (.cells #[cS s2,cS s3] 9);go_simp;(try simp only[pE]);exact hK.out _ _ rfl (hS.made (CO (λ_ _ _ _ ⟨pb,e,h⟩=>⟨pb,e,h.same λb hb'=>hb.block b (h.fp b hb').2⟩) (Cv λh=>absurd rfl h)) (AB hI hb) hc rfl ⟨_,rfl,AZ.mono hI.size (zK w4 s2 s3)⟩ rfl)
  (try simp only[pE]);refine AU.free (λ_=>rfl) (λV L w4 K' Q' hS hi hR hd hK=>?_) ?_
  ·have hc:=hR.out 14 11 (by kernel_rfl) hi;obtain⟨pb,hp,hv⟩:=hS.val hc rfl (hd.out 10 (by kernel_rfl)) hi;have hI:=hS.k hc;simp only[hp];go_simp;exact hK.out _ _ (by simp only[hp];rfl) (hS.made (CO (λh=>absurd rfl h) (Cv λ_ h=>absurd rfl h)) hI hc rfl ⟨pb,rfl,hv⟩ rfl)
  (try simp only[pE]);iterate 2((refine AU.f (λz=>z.s.keep rfl rfl) (λz=>z.s.k (z.f 14)) ?_))
  refine AU.free (λ_=>rfl) (λV L w4 K' Q' hS hi hR hd hK=>?_) ?_
  ·obtain⟨pb,hp,hv⟩:=hS.val hi rfl (hd.out 11 (by kernel_rfl)) hi;have hI:=hS.k hi;have Dc:=IK.kp hI;have hL4:=hL3.up IK hq hbq hI;obtain⟨v0,v1,v2,v3,v4,v5,c0,c1,c2,c3,c4,c5⟩:=hL4.cells;have f0:=hL4.lt.Bw (br.length*9+3);have f1:=hL4.lt.Bw (br.length*9+3+1);have f2:=hL4.lt.Bw (br.length*9+3+2);have f3:=hL4.lt.Bw (br.length*9+3+3);have f4:=hL4.lt.Bw (br.length*9+3+4);have f5:=hL4.lt.Bw (br.length*9+3+5)
   obtain⟨hRe,hbe⟩:=hL4.KH Dc hq hbq ⟨2,x,[s2,s3],0⟩ ⟨(λh=>absurd (show(2:Int)=1 from h) (by decide)),(λ_=>rfl),hxz,⟨show 2<=10 by decide,λt ht=>by
    rcases List.mem_cons.1 ht with rfl|ht
    ·exact hz2
    ·rw[List.mem_singleton.1 ht];exact hz3⟩⟩ (AZ.mono rA hv) (by simp) rfl (by omega) hk
   simp only[hp];go_simp;exact hK.out _ _ (by simp only[hp];rfl) (GC.call ⟨⟨_,_,_,_,hRe⟩,(hI.mono (AX hBN rA)).trans hbe⟩)
  (try simp only[pE]);refine AU.nil λV w4 hS=>?_;obtain⟨CS,hb5⟩:=hS.done rfl;go_wp2;go_ret;exact⟨⟨_,rfl,λ_=>CS⟩,LX.trans hb5⟩
 go_upto_region 10 with fail;go_cut[88]from 80 to 87 (λv wx=>∃r:Bool,v=cE r/\(r=cC->l.length=2/\l[0]=⟨#[114,101,116]⟩)/\wx=w2)
 ·generalize l[0]=s at*
  cases hs:(s.toList==[114,101,116])with
  |false=>
   go_wp2;go_meet
   exact⟨_,rfl,(λh=>by cases h),rfl⟩
  |true=>
   have hs1:=VQ hs (c:=⟨#[114,101,116]⟩) rfl;replace hs1:=Wx hs1
   cases h2:((l.length:Int)==2)with
   |false=>
    go_wp2;go_meet
    exact⟨_,rfl,(λh=>by cases h),rfl⟩
   |true=>
    have hl2:l.length=2:=by
     have:(l.length:Int)=2:=(by simpa using h2);omega
    replace hl2:=Wx hl2;go_wp2;go_meet;exact⟨_,rfl,(λ_=>⟨hl2.out,hs1.out⟩),rfl⟩
 obtain⟨r,rfl,hr,rfl⟩:=hcut;obtain⟨w2,rfl⟩:=again wc;cases r;rotate_left
 ·obtain⟨hl2,hw⟩:=hr rfl;have C8:0+1<l.length:=by omega
  have hA:=FT h02 (row_one hl (q:=0) C8 (m:=c-1) (by omega)) ⟨show 1<=10000000 by decide,by simpa using Dl hz C8⟩ cA;rw[hw]at d0;have hc2:(2:Int)<=c:=by omega
  go_wp2_with fail;refine hA.mono ?_;rintro e w3 ⟨⟨v1,b1,al,F1,rfl,⟨p1,m1,c1,rfl⟩,h1⟩,hb3⟩;replace d0:=AA hb3 d0;have LX:=Db.trans (hb3.mono (AX hBN Zh));cases b1
  ·go_wp2;go_ret;exact⟨⟨_,rfl,λh=>absurd h (by decide)⟩,LX⟩
  obtain⟨k1,k2,-,k3⟩:=h1 rfl;obtain⟨x,rfl⟩:∃x,al=[x]:=List.length_eq_one_iff.1 (by simpa using k1);have hxz:x.s.size<=10000000:=k3 x (by simp)
  have hrow:=k2.view (E:=Lg) (ok:=VJ) MX (λx g o f h1 h2=>vA h1 h2) (by unfold Ln;simp) (λy hy=>by
   obtain rfl:=List.mem_singleton.1 hy;unfold VJ Sz
   omega)
  obtain⟨pa,ca,he,-,-,hat⟩:=hrow;obtain⟨ag,rfl,e0,⟨e1,-⟩,e2⟩:=hat 0 x rfl;obtain⟨rfl,rfl,rfl⟩:p1=cP ag/\m1=1/\c1=ca:=by simpa using he
  rw[Nat.zero_mul]at e0 e1 e2;change w3.cell? ag=_ at e0;change w3.cell? ⟨ag.block,ag.off+1,cX⟩=_ at e1;change w3.cell? ⟨ag.block,ag.off+2,cX⟩=_ at e2;have IK:=hR2.kp hb3;have hL3:=hL2.up hR2 hq hbq hb3;have rA:=AX Zh hb3.size;have vR:(0:Int)<((1:Nat):Int):=by decide
  obtain⟨v0,v1,v2,v3,v4,v5,c0,c1,c2,c3,c4,c5⟩:=hL3.cells;have f0:=hL3.lt.Bw (br.length*9+3);have f1:=hL3.lt.Bw (br.length*9+3+1);have f2:=hL3.lt.Bw (br.length*9+3+2);have f3:=hL3.lt.Bw (br.length*9+3+3);have f4:=hL3.lt.Bw (br.length*9+3+4);have f5:=hL3.lt.Bw (br.length*9+3+5);obtain⟨hRe,hbe⟩:=hL3.KH IK hq hbq ⟨3,x,[],0⟩ ⟨(λh=>absurd (show(3:Int)=1 from h) (by decide)),(λh=>absurd (show(3:Int)=2 from h) (by decide)),hxz,Rw.nil⟩ AZ.nil (by simp) rfl (by omega) hk;have ZY:=LX.trans hbe;go_wp2;go_ret;exact⟨⟨_,rfl,λ_=>⟨_,_,_,_,hRe⟩⟩,ZY⟩
 go_upto_region 15 with fail;go_cut[111]from 103 to 110 (λv wx=>∃r:Bool,v=cE r/\(r=cC->l.length=2/\l[0]=⟨#[116,114,97,112]⟩)/\wx=w2)
 ·generalize l[0]=s at*
  cases hs:(s.toList==[116,114,97,112])with
  |false=>
   go_wp2;go_meet
   exact⟨_,rfl,(λh=>by cases h),rfl⟩
  |true=>
   have hs1:=VQ hs (c:=⟨#[116,114,97,112]⟩) rfl;replace hs1:=Wx hs1
   cases h2:((l.length:Int)==2)with
   |false=>
    go_wp2;go_meet
    exact⟨_,rfl,(λh=>by cases h),rfl⟩
   |true=>
    have hl2:l.length=2:=by
     have:(l.length:Int)=2:=(by simpa using h2);omega
    replace hl2:=Wx hl2;go_wp2;go_meet;exact⟨_,rfl,(λ_=>⟨hl2.out,hs1.out⟩),rfl⟩
 obtain⟨r,rfl,hr,rfl⟩:=hcut;obtain⟨w2,rfl⟩:=again wc;cases r
 ·go_wp2;go_ret;exact⟨⟨_,rfl,λh=>absurd h (by decide)⟩,Db⟩
 obtain⟨hl2,hw⟩:=hr rfl;have C8:1<l.length:=by omega
 have Fw:(1:Int)<l.length:=by omega
 obtain⟨s1,hg,hz1,d1⟩:=EN hl C8 hz;replace d1:=AA h02 d1;have hG:=JU s1 hz1 w2;go_wp2_with fail;refine hG.mono ?_;rintro e w3 ⟨⟨n,b1,rfl,-⟩,hb3⟩;have LX:=Db.trans (hb3.mono (AX hBN Zh));cases b1
 ·go_wp2;go_ret;exact⟨⟨_,rfl,λh=>absurd h (by decide)⟩,LX⟩
 have IK:=hR2.kp hb3;have hL3:=hL2.up hR2 hq hbq hb3;obtain⟨v0,v1,v2,v3,v4,v5,c0,c1,c2,c3,c4,c5⟩:=hL3.cells;have f0:=hL3.lt.Bw (br.length*9+3);have f1:=hL3.lt.Bw (br.length*9+3+1);have f2:=hL3.lt.Bw (br.length*9+3+2);have f3:=hL3.lt.Bw (br.length*9+3+3);have f4:=hL3.lt.Bw (br.length*9+3+4);have f5:=hL3.lt.Bw (br.length*9+3+5);obtain⟨hRe,hbe⟩:=hL3.KH IK hq hbq ⟨4,⟨0,⟨#[]⟩,0⟩,[],n⟩ ⟨(λh=>absurd (show(4:Int)=1 from h) (by decide)),(λh=>absurd (show(4:Int)=2 from h) (by decide)),AY,Rw.nil⟩ AZ.nil (by simp) rfl (by omega) hk;have ZY:=LX.trans hbe;go_wp2;go_ret;exact⟨⟨_,rfl,λ_=>⟨_,_,_,_,hRe⟩⟩,ZY⟩
end
section
open Word Num Dp
def MC(w:World)(B:Nat)(v:Value)(l:List ByteArray):Prop:=w.ownsRow B 9 1 v l.length (l.map .string)
def MC.sl(h:MC w B v l):∃p c,v=cY p l.length c:=Bf h
def MC.nil(w:World)(B:Nat):MC w B (cY cX 0 0) []:=⟨rfl,.inl ⟨rfl,rfl⟩⟩
theorem MC.row(h:MC w B v l)(hz:Wz l):Row DL 1 w v l:=by
 obtain⟨p,c,rfl⟩:=h.sl;rcases id h.2 with⟨h1,h2⟩|⟨g,cap,cur,h1,h2,h3,h4,h5,h6,h7⟩
 ·obtain rfl:l=[]:=List.length_eq_zero_iff.1 h2;obtain⟨rfl,-,rfl⟩:=Value.slice.inj h1;exact⟨cX,0,rfl,(λ_=>⟨rfl,rfl⟩),⟨by simp,by simp⟩,λi x hx=>by simp at hx⟩
 ·obtain⟨rfl,-,rfl⟩:=Value.slice.inj h1;refine⟨_,_,rfl,(λe=>by cases e),⟨by have:=hz.1;omega,h4⟩,λi x hx=>⟨_,rfl,?_,?_⟩⟩
  ·have hi:=(List.getElem?_eq_some_iff.1 hx).1;rw[Dk,Nat.zero_add,Nat.mul_one];rw[Ep h (by omega)];simp[hx]
  ·have:=hz.2 x (List.mem_of_getElem? hx);unfold Sz;omega
theorem Tv{ops:Array Oper}{rest:List Oper}{o:Oper}{a:Act}{Q:Exit->Act->World->Prop}(hgd:o.guard=cX)(s x:Operand)(ho:o.op=.call {callee:=.builtin .append,args:=#[s,x],argTypes:=#[78,78]}) (hs:a.eval s=v) {m:List ByteArray} (hv:MC w B v m)   (hx:a.eval x=u) (hl:Row DL 1 w u l)(hn:m.length+l.length<=100000000) (hB:B<=w.heap.size) (h:∀v' w',MC w' B v' (m++l)->Kp 9 B w w'->wpList prog ops Q rest (a.put o.dst v') w'):wpList prog ops Q (o::rest) a w:=by
 obtain⟨i0,hi,hz0,hz1,hz2⟩:=Cq (P:=prog) (t:=9) (z:=cS .empty) (s:=1) (b:=16) (by kernel_rfl);obtain⟨p,c,rfl,h0,-,hl⟩:=hl;have h1:=hv;unfold MC at h1
 cases p with
 |none=>
  obtain⟨e1,rfl⟩:=h0 rfl;obtain rfl:l=[]:=List.length_eq_zero_iff.1 e1
  exact wpList_append_own_none hgd s x 78 ho B 9 i0 1 underlying78 hi v _ _ hs h1 hx (h _ _ (by rw[List.append_nil];exact hv) .refl)
 |some ad=>
  refine wpList_plain hgd λ_ hK=>?_;refine wp_append_own' s x 78 ho B 9 i0 _ 1 16 underlying78 hi hz0 hz1 hz2 rfl (by decide) v _ _ hs h1 ad _ _ (l.map Value.string) hx (by simp) (λj u hu=>?_) (λu hu=>by obtain⟨s,_,rfl⟩:=List.mem_map.1 hu;rfl) (by unfold maxLen;omega) (by omega) hB λv' w' k1 k2 _=>hK _ _ (h v' w' (by unfold MC;rw[List.length_append,List.map_append];exact k1) (.grown h1 k2 hB));rw[List.getElem?_map]at hu
  cases hj:l[j]? with
  |none=>rw[hj]at hu;cases hu
  |some y=>
   rw[hj]at hu;obtain rfl:cS y=u:=(by simpa using hu);obtain⟨b,e,hb,-⟩:=hl j y hj;obtain rfl:ad=b:=(by simpa using e);rw[Nat.mul_one]at hb;exact hb
theorem Wz.drop(h:Wz l)(k:Nat):Wz (l.drop k):=by grind
end
section
open Word Num Dp
def ABD{n:Nat}(e:w.heap.size=n)(h:Below n w w1):AA6 w w1:=by subst e;exact h
def ABE{n:Nat}(e:w.heap.size=n)(h:AA6 w w1):Below n w w1:=by subst e;exact h
theorem YX{op:Int}{e:Ending}(h:aA (BH op) e):∃(s:ByteArray) (d nn:Bool) (l m:Int) (ok:Bool),e=.returned (.tuple #[.agg #[cS s,cE d,cE nn,cI cJ l,cI cJ m],cE ok])/\∀fm,BH op=cP fm->fm.d=d:=by
 cases hf:BH op with
 |none=>rw[hf]at h;exact⟨_,_,_,_,_,_,h,λ_ e=>by cases e⟩
 |some f=>
  rw[hf]at h;obtain⟨s,hs,h⟩:=h;exact⟨_,_,_,_,_,_,h,λfm e=>by cases e;rfl⟩
theorem oL{d:ByteArray}(h:d.toList.isEmpty=cC):decide (d≠Bv)=cA:=by
 have e:d=Bv:=VQ (l:=[]) (by rw[List.isEmpty_iff.1 h];rfl) rfl;simp[e]
def tY{d:ByteArray}(h:d.toList.isEmpty=cA):decide (d≠Bv)=cC:=by
 have e:d≠Bv:=λe=>by
  rw[e,ByteArray.toList_eq]at h;cases h
 simp[e]
def rowIs:(prog.info? 133).map (λi=>(i.zero,i.size,i.bytes))=cP (cP (.agg #[cI cJ 0,cS .empty,cS .empty,cY cX 0 0,cY cX 0 0,cY cX 0 0]),6,112):=by kernel_rfl
def Ct.wC(h:Ct w B N R q wh lg k)(hb:Below N w w1):Ct w1 B N R q wh lg k:=by
 obtain⟨cur,ht⟩:=h.typ;exact⟨h.own.kp hb,⟨cur,(hb.block R h.own.lt).trans ht⟩,h.qq,h.ss,h.kk,h.ll⟩
theorem Xl(h0:AA6 w0 w)(hW:Words w0)(hR:Ct w B N R q wh lg k)(hB:w0.heap.size<=B)(hk:k+2<=5000000)(hl:Row DL 1 w0 u l)(hz:Wz l)(hp:0<l.length):Calls prog 212 #[.pointer (cP ⟨R,0,cX⟩),u] w λe w'=>Wy B R (k+1) e w'/\Below B w w':=by
 obtain⟨p,c,rfl⟩:=hl.slice;obtain⟨a,rfl,-⟩:=CV hl hp;have hlc:l.length<=c:=by
  obtain⟨_,_,e,-,⟨-,h⟩,-⟩:=hl;obtain⟨-,-,rfl⟩:=Value.slice.inj e;exact h
 have d0:=AA h0 (Bg hl hp);have PV:(0:Int)<l.length:=by omega
 have hBw:B<=w.heap.size:=by have:=hR.own.ge;have:=hR.lt;omega
 go_enter func212,ntmps212;go_upto_region 2 with fail;generalize hW1:w.alloc _=W at*;obtain⟨hal,hX⟩:=ng hW1;replace d0:=AA hal d0;obtain⟨xb,hxb⟩:∃xb,w.heap.size=xb:=⟨_,rfl⟩;have yN:=ABE hxb hal;rw[hxb]at hX⊢;go_cut[24]from 16 to 23 (λv wx=>∃r:Bool,v=cE r/\(r=cC->2<l.length)/\wx=W)
 ·cases hg:decide ((2:Int)<(l.length:Int))with
  |false=>
   have QZ:=CJ hg;have hgN:¬2<l.length:=(by omega);go_wp2;go_meet
   exact⟨_,rfl,(λh=>by cases h),rfl⟩
  |true=>
   have QZ:=BK hg;have hgN:2<l.length:=(by omega);have C8:1<l.length:=(by omega);have Fw:(1:Int)<l.length:=(by omega);obtain⟨s1,hg1,hz1,d1⟩:=EN hl C8 hz;replace d1:=AA hal (AA h0 d1)
   cases hs:(s1.toList==[61])with
   |false=>
    go_wp2;go_meet
    exact⟨_,rfl,(λh=>by cases h),rfl⟩
   |true=>
    go_wp2;go_meet;exact⟨_,rfl,(λ_=>hgN),rfl⟩
 obtain⟨r,rfl,hr,rfl⟩:=hcut;obtain⟨W,rfl⟩:=again wc;go_upto_if 24 with fail;go_cut[1]from 25 to 36 (λv wx=>∃(l':List ByteArray) (a':Addr) (c':Nat) (d:ByteArray),v=cY (cP a') l'.length c'/\Row DL 1 w0 (cY (cP a') l'.length c') l'/\Wz l'/\0<l'.length/\Tz d/\Ae wx xb [cI cJ 0,cS d,cS ⟨#[]⟩,cY cX 0 0,cY cX 0 0,cY cX 0 0]/\Below xb w wx)
 ·cases r
  ·go_wp2;go_meet;exact⟨l,a,c,⟨#[]⟩,rfl,hl,hz,hp,AY,hX,yN⟩
  have hgN:=hr rfl;have QZ:(2:Int)<=l.length:=by omega
  have qX:(l.length:Int)<=c:=by omega
  have hz0:=Dl hz hp;have hT:=hl.tail (k:=2) (m:=c-2) (b:=⟨a.block,a.off+2,cX⟩) (by omega) (by omega) (λ_=>by simp[Addr.add]);have hb2:=AJ W (.cells #[cS l[0]] 9);have hN:=Bn (Below.refl (W.alloc (.cells #[cS l[0]] 9)).heap.size _) (DN (l:=[l[0]]) (Ae.alloc W [cS l[0]] 9) ⟨show 1<=10000000 by decide,by simpa using hz0⟩);simp only[List.length_cons,List.length_nil,Nat.zero_add,List.all_cons,List.all_nil,Bool.and_true]at hN;have hX2:=hX.nx hb2;have d2:=AA hb2 d0;have hbx:=AB hal hb2;generalize l[0]=s0 at*;generalize nm s0=v at*;go_wp2_with fail;refine hN.mono ?_;rintro e w3 ⟨rfl,rfl⟩;generalize hW2:W.alloc _=W2 at*;cases v
  ·go_wp2;go_ret;exact⟨⟨_,rfl,λh=>absurd h (by decide)⟩,hbx.mono hBw⟩
  have c1:=hX2.c 1 _ rfl;have f1:=hX2.f 1 (by decide);have Y7:=hX2.set (i:=1) (by decide) (cS s0);go_wp2;go_meet;exact⟨l.drop 2,⟨a.block,a.off+2,cX⟩,c-2,s0,by rw[List.length_drop],by rw[List.length_drop];exact hT,hz.drop 2,by simp;omega,hz0,Y7,(ABE hxb hbx).setCell (p:=⟨xb,1,cX⟩) (AQ) _⟩
 obtain⟨l',a',c',d,rfl,hl',hz',hp',hd,hX,hbx⟩:=hcut;obtain⟨w1,rfl⟩:=again wc;have hbw:AA6 w w1:=ABD hxb hbx;have h01:=AB h0 hbw;have hW1:=hW.kp h01;have Db:=hbw.mono hBw;have d0:=AA h01 (Bg hl' hp');have PV:(0:Int)<l'.length:=by omega
 generalize l'[0]=s0 at d0;have hOp:=jw s0 w1 hW1;go_wp2_with fail;refine hOp.mono ?_;rintro e w2 ⟨⟨op,ok,rfl,hop⟩,rfl⟩;have vO:=JV op w1 hW1;replace hop:=Wx hop;go_wp2_with fail;refine vO.mono ?_;rintro e w2 ⟨hb2,hOut⟩;obtain⟨fs,fd,fn,fl,fm,fok,rfl,FJ⟩:=YX hOut;replace FJ:=Wx FJ;have J8:=AJ w2 (.cells #[cS fs,cE fd,cE fn,cI cJ fl,cI cJ fm] 261);have hF:=Ae.alloc w2 [cS fs,cE fd,cE fn,cI cJ fl,cI cJ fm] 261;have hb3:=AB hb2 J8;go_upto_region 9 with fail;generalize hW3:w2.alloc _=w3 at*;obtain⟨gb,hgb⟩:∃gb,w2.heap.size=gb:=⟨_,rfl⟩;have AD4:w1.heap.size<=gb:=by rw[<-hgb];exact hb2.size
 rw[hgb]at hF⊢;have hxg:xb<gb:=A9 hX.lt AD4;have Y7:=hX.nx hb3;have jF:=AB hbw hb3;have IK:=hR.kp jF;have gN:=AB h01 hb3;have yH:Below xb w w3:=ABE hxb jF;replace Db:=jF.mono hBw;have b1:=hF.c 1 _ rfl;have x1:=Y7.c 1 _ rfl;clear hX hW1 h01 hb3 hbw hb2 hbx d0;go_cut[63]from 49 to 62 (λv wx=>∃r:Bool,v=cE r/\(r=cA->(5<=wh/\wh<=8)/\ok=cC/\fd=decide (d≠Bv))/\wx=w3)
 ·have hI:=Hu IK;go_wp2_with fail;refine hI.mono ?_;rintro e w4 ⟨⟨b,rfl,hb0⟩,rfl⟩;replace hb0:=Wx hb0;cases b
  ·go_wp2;go_meet;exact⟨_,rfl,(λh=>by cases h),rfl⟩
  cases ok
  ·go_wp2;go_meet;exact⟨_,rfl,(λh=>by cases h),rfl⟩
  cases hem:d.toList.isEmpty with
  |true=>
   have AEA:(d.toList==[])=cC:=(by rw[List.isEmpty_iff.1 hem];rfl);have hdd:=Wx (oL hem);cases fd
   ·go_wp2;go_meet;exact⟨_,rfl,(λ_=>⟨hb0.out (by trivial),by trivial,hdd.out.symm⟩),rfl⟩
   ·go_wp2;go_meet
    exact⟨_,rfl,(λh=>by cases h),rfl⟩
  |false=>
   have AEA:(d.toList==[])=cA:=by
    cases h:d.toList with
    |nil=>rw[h]at hem;cases hem
    |cons x y=>rfl
   have hdd:=Wx (tY hem);cases fd
   ·go_wp2;go_meet;exact⟨_,rfl,(λh=>by cases h),rfl⟩
   ·go_wp2;go_meet;exact⟨_,rfl,(λ_=>⟨hb0.out (by trivial),by trivial,hdd.out.symm⟩),rfl⟩
 obtain⟨r,rfl,hr,rfl⟩:=hcut;obtain⟨w3,rfl⟩:=again wc;cases r;rotate_left
 ·clear hr;go_wp2;go_ret;exact⟨⟨_,rfl,λh=>absurd h (by decide)⟩,Db⟩
 obtain⟨WJ,rfl,ql⟩:=hr rfl;clear hr b1 x1;replace hop:=hop.out rfl;replace ql:=Wx ql;have x0:=Y7.c 0 _ rfl;have y0:=Y7.f 0 (by simp);have Qa:=Y7.set (i:=0) (by simp) (cI cJ op);have gM:=hF.far (q:=⟨xb,0,cX⟩) (show xb≠gb by omega) (cI cJ op);have ZW:=yH.setCell (p:=⟨xb,0,cX⟩) (AQ) (cI cJ op);clear jF IK gN Y7 yH Db hF;go_upto_region 13 with fail;generalize w3.setCell ⟨xb,0,cX⟩ (cI cJ op)=w4 at*;replace Qa:Ae w4 xb [cI cJ op,cS d,cS ⟨#[]⟩,cY cX 0 0,cY cX 0 0,cY cX 0 0]:=Qa;go_cut[71]from 66 to 70 (λv wx=>∃r:Bool,v=cE r/\wx=w4)
 ·cases h6:((op:Int)==26)with
  |true=>
   go_wp2;go_meet
   exact⟨_,rfl,rfl⟩
  |false=>
   cases h7:((op:Int)==27)with
   |true=>
    go_wp2;go_meet
    exact⟨_,rfl,rfl⟩
   |false=>
    go_wp2;go_meet;exact⟨_,rfl,rfl⟩
 obtain⟨r,rfl,rfl⟩:=hcut;obtain⟨w4,rfl⟩:=again wc;have yI:AA6 w w4:=ABD hxb ZW;have TB:=AB h0 yI;have Po:=yI.mono hBw;have x2:=Qa.c 2 _ rfl;have y2:=Qa.f 2 (by simp);have b2:=gM.c 2 _ rfl;have hlc:l'.length<=c':=by
  obtain⟨_,_,e,-,⟨-,h⟩,-⟩:=hl';obtain⟨-,-,rfl⟩:=Value.slice.inj e;exact h
 have qX:(l'.length:Int)<=c':=by omega
 go_upto_if 71 with fail;go_cut[10]from 72 to 101 (λv wx=>∃(m:List ByteArray) (pm:Option Addr) (cm:Nat) (n:ByteArray),v=cY pm m.length cm/\Row DL 1 wx (cY pm m.length cm) m/\Wz m/\Tz n/\Ae wx xb [cI cJ op,cS d,cS n,cY cX 0 0,cY cX 0 0,cY cX 0 0]/\Ae wx gb [cS fs,cE fd,cE fn,cI cJ fl,cI cJ fm]/\Below xb w wx)
 ·cases r;rotate_left
  ·cases hg:decide ((l'.length:Int)<3)with
   |true=>
    have QZ:=BK hg;have hgN:l'.length<3:=(by omega);go_wp2;go_ret
    exact⟨⟨_,rfl,λh=>absurd h (by decide)⟩,Po⟩
   |false=>
    have QZ:=CJ hg;have hgN:¬l'.length<3:=(by omega);have C8:1<l'.length:=(by omega);have Fw:(1:Int)<l'.length:=(by omega);have LQ:2<l'.length:=(by omega);have Qj:(2:Int)<l'.length:=(by omega);have h3I:(3:Int)<=l'.length:=(by omega);obtain⟨s1,hg1,hz1,d1⟩:=EN hl' C8 hz';obtain⟨a2,e2,d2⟩:=BQ hl' (q:=1) LQ;obtain rfl:a'=a2:=(by simpa using e2);have hz2:=Dl hz' LQ;have d10:=d1;replace d1:=AA TB d1;replace d2:=AA TB d2;simp only[Nat.reduceAdd]at d2 hz2;generalize l'[2]=s2 at*;have WO:=Qa.set (i:=2) (by simp) (cS s2);have wX:=gM.far (q:=⟨xb,2,cX⟩) (show xb≠gb by omega) (cS s2);have Tn:=ZW.setCell (p:=⟨xb,2,cX⟩) (AQ) (cS s2);have jE:AA6 w (w4.setCell ⟨xb,2,cX⟩ (cS s2)):=ABD hxb Tn;have hd5:=AA (AB h0 jE) d10;clear hg1 e2 d10;have hl4:l'.length<=10000000:=hz'.1;go_upto_region 17 with fail;generalize w4.setCell ⟨xb,2,cX⟩ (cS s2)=w5 at*;(go_upto_region 18 with(at_builtin;refine Tv rfl _ _ rfl rfl (MC.nil _ w5.heap.size) rfl (DN (l:=[s1]) (Ae.alloc w5 _ _) ⟨show 1<=10000000 by decide,by simpa using hz1⟩) (show 0+1<=100000000 by decide) (by simp) ?_;intro v6 w6 hv6 wJ;obtain⟨p6,c6,rfl⟩:=hv6.sl));have ZR:AA6 w5 w6:=(AJ w5 _).trans wJ.b;have Ng:=WO.nx ZR;have nL:=wX.nx ZR;have hxl:=WO.lt;have hgl:=wX.lt;have qK:=Nat.le_of_lt hxl;have xg:=ZR.size;have ZV:=Tn.trans (ZR.mono qK);have PX:AA6 w0 w6:=AB (AB h0 jE) ZR
    have hwz:Wz ([]++[s1]++l'.drop 3):=⟨by simp;omega,λx hx=>by
     rcases List.mem_append.1 hx with h|h
     ·have h:x∈ [s1]:=h;rw[List.mem_singleton.1 h];exact hz1
     ·exact(hz'.drop 3).2 x h⟩
    clear wJ Tn jE;by_cases hc1:c'=3;subst hc1;have hT:=hl'.tail (k:=3) (m:=0) (b:=a') (by omega) (by omega) (λ_=>by omega);have vL:=hT.map λa x h=>DL.kp PX h;rw[show l'.length-3=0 by omega]at vL;rotate_left;have hT:=hl'.tail (k:=3) (m:=c'-3) (b:=⟨a'.block,a'.off+3,cX⟩) (by omega) (by omega) (λ_=>by simp[Addr.add]);have vL:=hT.map λa x h=>DL.kp PX h;all_goals
     (go_wp2_with(at_builtin;refine Tv rfl _ _ rfl rfl hv6 rfl vL (by simp;omega) xg ?_;intro v7 w7 hv7 JH;obtain⟨p7,c7,rfl⟩:=hv7.sl;obtain⟨m7,WM⟩:∃m7,m7=[]++[s1]++l'.drop 3:=⟨_,rfl⟩;rw[<-WM]at hv7⊢;replace WM:=Wx WM));go_meet;exact⟨m7,p7,c7,s2,rfl,hv7.row (WM.out▸hwz),WM.out▸hwz,hz2,Ng.below hxl JH.b,nL.below hgl JH.b,ZV.trans (JH.b.mono qK)⟩
  ·cases fn
   ·have Fw:(1:Int)<=l'.length:=(by omega);by_cases hc1:c'=1
    ·subst hc1;have hT:=hl'.tail (k:=1) (m:=0) (b:=a') (by omega) (by omega) (λ_=>by omega);go_wp2;go_meet;exact⟨l'.drop 1,cP a',0,⟨#[]⟩,by rw[List.length_drop,show l'.length-1=0 by omega],by rw[List.length_drop];exact hT.map λa x h=>DL.kp TB h,hz'.drop 1,AY,Qa,gM,ZW⟩
    ·have hT:=hl'.tail (k:=1) (m:=c'-1) (b:=⟨a'.block,a'.off+1,cX⟩) (by omega) (by omega) (λ_=>by simp[Addr.add]);go_wp2;go_meet;exact⟨l'.drop 1,cP ⟨a'.block,a'.off+1,cX⟩,c'-1,⟨#[]⟩,by rw[List.length_drop],by rw[List.length_drop];exact hT.map λa x h=>DL.kp TB h,hz'.drop 1,AY,Qa,gM,ZW⟩
   ·cases hg:decide ((l'.length:Int)<2)with
    |true=>
     have QZ:=BK hg;have hgN:l'.length<2:=(by omega);go_wp2;go_ret
     exact⟨⟨_,rfl,λh=>absurd h (by decide)⟩,Po⟩
    |false=>
     have QZ:=CJ hg;have hgN:¬l'.length<2:=(by omega);have C8:1<l'.length:=(by omega);have Fw:(1:Int)<l'.length:=(by omega);have Qj:(2:Int)<=l'.length:=(by omega);obtain⟨s1,hg1,hz1,d1⟩:=EN hl' C8 hz';replace d1:=AA TB d1;have WO:=Qa.set (i:=2) (by simp) (cS s1);have wX:=gM.far (q:=⟨xb,2,cX⟩) (show xb≠gb by omega) (cS s1);have Tn:=ZW.setCell (p:=⟨xb,2,cX⟩) (AQ) (cS s1);have Ku:AA6 w0 (w4.setCell ⟨xb,2,cX⟩ (cS s1)):=AB h0 (ABD hxb Tn);by_cases hc1:c'=2
     ·subst hc1;have hT:=hl'.tail (k:=2) (m:=0) (b:=a') (by omega) (by omega) (λ_=>by omega);go_wp2;go_meet;exact⟨l'.drop 2,cP a',0,s1,by rw[List.length_drop,show l'.length-2=0 by omega],by rw[List.length_drop];exact hT.map λa x h=>DL.kp Ku h,hz'.drop 2,hz1,WO,wX,Tn⟩
     ·have hT:=hl'.tail (k:=2) (m:=c'-2) (b:=⟨a'.block,a'.off+2,cX⟩) (by omega) (by omega) (λ_=>by simp[Addr.add]);go_wp2;go_meet;exact⟨l'.drop 2,cP ⟨a'.block,a'.off+2,cX⟩,c'-2,s1,by rw[List.length_drop],by rw[List.length_drop];exact hT.map λa x h=>DL.kp Ku h,hz'.drop 2,hz1,WO,wX,Tn⟩
 obtain⟨m,pm,cm,n,rfl,hm,hmz,hn,hX,hF,hbx⟩:=hcut;obtain⟨w5,rfl⟩:=again wc;have jE:AA6 w w5:=ABD hxb hbx;have hA:=FT (Below.refl w5.heap.size w5) hm hmz cA;go_wp2_with fail;refine hA.mono ?_;rintro e w6 ⟨⟨v1,b1,al,F1,rfl,⟨uo,m1,c1,rfl⟩,h1⟩,hb6⟩;have ADc:=hX.lt;have Ng:=hX.nx hb6;have nL:=hF.nx hb6;have ZV:Below xb w w6:=hbx.trans (hb6.mono (Nat.le_of_lt hX.lt));have AJl:AA6 w w6:=ABD hxb ZV;have jH:=hb6;replace h1:=Wx h1;have x2:=Ng.c 2 _ rfl;obtain⟨-,-,b2,b3,b4⟩:=nL.c5;go_upto_region 26 with fail;go_cut[133]from 107 to 132 (λv wx=>∃r:Bool,v=cE r/\(r=cA->b1=cC)/\AA6 w6 wx)
 ·cases b1
  ·go_wp2;go_meet;exact⟨_,rfl,(λh=>by cases h),AL⟩
  cases fn
  ·skip
   cases hg1:decide ((m1:Int)<fl)with
   |true=>
    have QZ:=BK hg1;go_wp2;go_meet
    exact⟨_,rfl,(λh=>by cases h),AL⟩
   |false=>
    have QZ:=CJ hg1
    cases hg2:decide (fm<(m1:Int))with
    |true=>
     have pI:=BK hg2;go_wp2;go_meet
     exact⟨_,rfl,(λh=>by cases h),AL⟩
    |false=>
     have pI:=CJ hg2;go_wp2;go_meet;exact⟨_,rfl,(λ_=>by trivial),AL⟩
  ·have J8:=AJ w6 (.cells #[cS n] 9);have hN:=Bn (Below.refl (w6.alloc (.cells #[cS n] 9)).heap.size _) (DN (l:=[n]) (Ae.alloc w6 [cS n] 9) ⟨show 1<=10000000 by decide,by simpa using hn⟩);simp only[List.length_cons,List.length_nil,Nat.zero_add,List.all_cons,List.all_nil,Bool.and_true]at hN;have b3':=AA J8 b3;have b4':=AA J8 b4;generalize nm n=nv at*;go_wp2_with fail;refine hN.mono ?_;rintro e w7 ⟨rfl,rfl⟩;generalize hW7:w6.alloc _=w7 at*;clear hN hW7;cases nv
   ·go_wp2;go_meet;exact⟨_,rfl,(λh=>by cases h),J8⟩
   cases hg1:decide ((m1:Int)<fl)with
   |true=>
    have QZ:=BK hg1;go_wp2;go_meet
    exact⟨_,rfl,(λh=>by cases h),J8⟩
   |false=>
    have QZ:=CJ hg1
    cases hg2:decide (fm<(m1:Int))with
    |true=>
     have pI:=BK hg2;go_wp2;go_meet
     exact⟨_,rfl,(λh=>by cases h),J8⟩
    |false=>
     have pI:=CJ hg2;go_wp2;go_meet;exact⟨_,rfl,(λ_=>by trivial),J8⟩
 obtain⟨r,rfl,hr,BJ⟩:=hcut;obtain⟨w7,rfl⟩:=again wc;have wR:=Ng.nx BJ;have AEC:Below xb w w7:=ZV.trans (BJ.mono (Nat.le_of_lt Ng.lt));have jD:AA6 w w7:=ABD hxb AEC;have yL:=jD.mono hBw;clear b2 b3 b4 x2 nL;cases r;rotate_left
 ·clear hr;go_wp2;go_ret;exact⟨⟨_,rfl,λh=>absurd h (by decide)⟩,yL⟩
 obtain rfl:=hr rfl;obtain⟨k1,k2,k3,k4⟩:=h1.out rfl;replace k1:=Wx k1;obtain rfl:m1=al.length:=by
  obtain⟨_,_,e⟩:=k2.slice;rw[List.length_map]at e;exact(Value.slice.inj e).2.1
 have nJ:N<=xb:=by rw[<-hxb];exact hR.own.sz
 have hRx:R<xb:=A9 hR.own.lt nJ;have hx5:xb<w5.heap.size:=ADc;have Gy:=(hR.kp jD).up (by omega);have hll:=(hR.kp jD).ll;have cl:=Gy.cl;have f6:=Gy.Bw 6
 cases hg:decide ((1024:Int)<=lg)with
 |true=>
  have QZ:=BK hg;go_wp2;go_ret
  exact⟨⟨_,rfl,λh=>absurd h (by decide)⟩,yL⟩
 |false=>
 have QZ:=CJ hg;have hwl:IntKind.i64.wrap (lg+1)=lg+1:=IntWalk.i64_in _ (by omega);have E8:=Gy.qH (lg+1) (by omega);have Bp:=Gy.low (cI cJ (lg+1)) 6;have nH:=wR.far (q:=⟨R,6,cX⟩) (show R≠xb by omega) (cI cJ (lg+1));have x3:=nH.c 3 _ rfl;have y3:=nH.f 3 (by simp);have wQ:=nH.set (i:=3) (by simp) (cY uo al.length c1);have hbN:=(Below.refl (B:=xb) (w7.setCell ⟨R,6,cX⟩ (cI cJ (lg+1)))).setCell (p:=⟨xb,3,cX⟩) (AQ) (cY uo al.length c1);have TN:=E8.wC (hbN.mono nJ);have J9:=Bp.trans (hbN.mono (AX hBw (by omega)));have k9:=k2.same (w':=(w7.setCell ⟨R,6,cX⟩ (cI cJ (lg+1))).setCell ⟨xb,3,cX⟩ (cY uo al.length c1)) λb hb=>by
  have h1:=(k2.fp b hb);refine(Below.heap_setCell _ _ _ _ (show b≠xb by omega)).trans ((Below.heap_setCell _ _ _ _ (show b≠R by omega)).trans (BJ.block b h1.2))
 go_upto_region 32 with fail;generalize(w7.setCell ⟨R,6,cX⟩ (cI cJ (lg+1))).setCell ⟨xb,3,cX⟩ (cY uo al.length c1)=w9 at*;replace wQ:Ae w9 xb [cI cJ op,cS d,cS n,cY uo al.length c1,cY cX 0 0,cY cX 0 0]:=wQ;obtain⟨fr,f,br,b,hq,hbq⟩:=TN.ss.b (by omega) (by omega);obtain⟨FB,cap,hF⟩:=TN.Fy hq;obtain⟨BB,cap2,hL⟩:=TN.lastB hF hbq;obtain⟨nf,hnf⟩:∃nf,nf=fr.length+1:=⟨_,rfl⟩;obtain⟨nb,hnb⟩:∃nb,nb=br.length+1:=⟨_,rfl⟩;have lcF:w9.cell? ⟨R,4,cX⟩=cP (cY (cP ⟨FB,0,cX⟩) nf cap):=by rw[hnf];exact hF.lc
 have gI:w9.cell? ⟨FB,fr.length*5+4,cX⟩=cP (cY (cP ⟨BB,0,cX⟩) nb cap2):=by rw[hnb];exact hL.lc
 have Da:=TN.qq.2.2.2;rw[hq]at Da;have MF:=Da.1;rw[List.length_append,List.length_singleton]at MF;have GU:=Da.last.2.2.2.2;rw[hbq]at GU;have Jh:=GU.1;rw[List.length_append,List.length_singleton]at Jh;have hlenp:b.cs.length<=k+1:=GU.last.2.2.1.1;have hix:(nf:Int)-1=(fr.length:Int):=by omega
 have Ns:(fr.length:Int)<nf:=by omega
 have Pm:fr.length<nf:=by omega
 have hwr:=wrN (n:=fr.length) (by omega);have hjx:(nb:Int)-1=(br.length:Int):=by omega
 have qb:(br.length:Int)<nb:=by omega
 have qZ:br.length<nb:=by omega
 have hjr:=wrN (n:=br.length) (by omega);have AJV:=hmz.1;have AEU:Rw 10000000 qAg al:=⟨by have:=k1.out;omega,k4⟩;have AEN:=jD.mono hBw|>.trans J9;have hB9:B<=w9.heap.size:=AX TN.own.ge (AX (Nat.le_of_lt TN.own.lt) TN.own.sz);replace hnf:=Wx hnf;replace hnb:=Wx hnb;go_wp2;refine ALQ (S:=λ_ v=>AA6 w9 v) Ac ?_;iterate 14((refine Ab.f (λz=>z.s) (λz=>AA z.s lcF) ?_))
 refine Ab.nil λuj yR=>?_;have cB:=AA yR gI;go_upto_region 34 with fail;have OL:AA6 w9 uj.drew:=AB yR Ac;have BO:=TN.kp OL;have hLd:=hL.up TN hq hbq OL;have hXd:=wQ.nx OL;obtain⟨F2,vc,xs,⟨hc,hox,⟨pc,cc,rfl⟩,hsp,-⟩,hF2⟩:=hLd.li;have LP:=hLd.lf.lt;have TT:=hLd.lt;have EK:(cY pc b.cs.length cc).ownBlock≠cP FB:=own_ne hox LP (by decide);have GY:(cY pc b.cs.length cc).ownBlock≠cP BB:=own_ne hox TT (by decide);have FL:(cY pc b.cs.length cc).ownBlock≠cP xb:=λe=>by
  have:=hsp.JI hc e;omega
 have hsz:B<=uj.drew.heap.size:=AX hB9 OL.size;have hN5:N<=w5.heap.size:=AX nJ (Nat.le_of_lt hx5);have kd:=k9.same (w':=uj.drew) λb hb=>OL.block b (k9.fp b hb).2;replace hq:=Wx hq;replace hbq:=Wx hbq;obtain⟨xx0,xx1,xx2,xx3,xx4,xx5⟩:=hXd.c6;go_wp2;refine ALR (S:=Ad uj.drew B 133 6 14 15 18 [cI cJ op,cS d,cS n,cY uo al.length c1,cY cX 0 0,cY cX 0 0] b.cs.length xs (cY pc b.cs.length cc) ⟨BB,br.length*9+2,cX⟩) (Ad.start (AL)) ?_;iterate 14((refine AU.f (λz=>z.s.keep rfl rfl rfl) (λz=>have hs:=z.f 18;ALS (z.s.cellOf hs (show uj.drew.cell? ⟨FB,fr.length*5+4,cX⟩=cP (cY (cP ⟨BB,0,cX⟩) nb cap2)from cB) EK) (ALS (z.s.cellOf hs hc GY) (ALS (z.s.cellOf hs xx0 FL) (ALS (z.s.cellOf hs xx1 FL) (ALS (z.s.cellOf hs xx2 FL) (ALS (z.s.cellOf hs xx3 FL) (ALS (z.s.cellOf hs xx4 FL) (z.s.cellOf hs xx5 FL)))))))) ?_))
 (apply AU.w rfl;intro V L w1 _ _ _ z hK;go_simp;exact hK rfl (z.s.made (z.o 15) rfl _);(try simp only[pE]));(refine Ad.aq (rowIs) (underlying75) (hox) ?_;(try simp only[pE]));iterate 2((refine AU.f (λz=>z.s.keep rfl rfl rfl) (λz=>z.s.cellOf (z.f 18) (show uj.drew.cell? ⟨FB,fr.length*5+4,cX⟩=cP (cY (cP ⟨BB,0,cX⟩) nb cap2)from cB) EK) ?_))
 (refine Ad.sv (λhS hi=>ALS (hS.cellOf hi hc GY) (hS.EA hi (o:=br.length*9+2) TT.lt (TT.Bw _) GY)) ?_;simp only[Act.put]);refine AU.nil λV w11 hS=>?_;obtain⟨jL,AEO⟩:=hS.Yq (d:=TD ⟨op,d,n,al,[],[]⟩) (q':={q with fs:=fr++[{f with bs:=br++[{b with cs:=b.cs++[⟨op,d,n,al,[],[]⟩]}]}]}) rfl rfl BO hsp hc hox (by simp) (by decide) (λw1 pb hlow hx=>⟨F1++([]++([]++[])),Af.of (AP.cc (hx.c 0 _ rfl) rfl (AP.cc (hx.c 1 _ rfl) rfl (AP.cc (hx.c 2 _ rfl) rfl (AP.cr (hx.c 3 _ rfl) (AZ.mono hN5 (kd.same λb hb=>hlow.block b (kd.fp b hb).2)) (AP.cr (l:=[]) (hx.c 4 _ rfl) AZ.nil (AP.cr (l:=[]) (hx.c 5 _ rfl) AZ.nil AP.cn)))))),by simpa using k3⟩) rfl rfl (by rw[<-hF2,List.map_append];rfl) ⟨BO.qq.1.up (Aa) λ_ h=>QW.up (Aa) h,BO.qq.2.1.up (Aa) λ_ h=>h,BO.qq.2.2.1.up (Aa) λ_ h=>h,Da.turn (Aa) (λ_ h=>QV.up (Aa) h) ⟨Da.last.1,Da.last.2.1,Da.last.2.2.1.up (Aa) λ_ h=>h,Da.last.2.2.2.1.up (Aa) λ_ h=>h,GU.turn (Aa) (λ_ h=>WI.up (Aa) h) ⟨GU.last.1,GU.last.2.1.up (Aa) λ_ h=>h,GU.last.2.2.1.snoc (λ_ h=>gG.up (Aa) h) ⟨λfm e=>(FJ.out fm e).trans ql.out,hd,hn,AEU,Rw.nil,Rw.nil⟩,GU.last.2.2.2⟩⟩⟩ ⟨BO.ss.r,BO.ss.c,(λ_=>by simp),(λ_ _=>⟨fr,_,br,_,rfl,rfl⟩),λ_ _=>⟨fr,_,br,_,b.cs,_,rfl,rfl,rfl⟩⟩ (by omega);have AAf:=(AEN.trans (OL.mono hB9)).trans AEO;have cw:=jL.cw;have f5:=jL.Bw 5;have Zg:=jL.setW 6 ⟨by omega,(λh=>absurd h (by decide)),(λ_=>by simp),(λ_ _=>⟨fr,_,br,_,rfl,rfl⟩),λh=>absurd h (by decide)⟩;have yM:=AAf.trans (jL.low (cI cJ 6) 5);have cw2:=Zg.cw;have f52:=Zg.Bw 5;have ABF:=Zg.setW 7 ⟨by omega,(λh=>absurd h (by decide)),(λ_=>by simp),(λ_ _=>⟨fr,_,br,_,rfl,rfl⟩),λ_ _=>⟨fr,_,br,_,b.cs,_,rfl,rfl,rfl⟩⟩;have FM:=yM.trans (Zg.low (cI cJ 7) 5)
 cases h31:((op:Int)==31)with
 |true=>
  go_wp2;go_ret
  exact⟨⟨_,rfl,λ_=>⟨_,_,_,_,ABF⟩⟩,FM⟩
 |false=>
  cases h34:((op:Int)==34)with
  |true=>
   go_wp2;go_ret
   exact⟨⟨_,rfl,λ_=>⟨_,_,_,_,ABF⟩⟩,FM⟩
  |false=>
   go_wp2;go_ret;exact⟨⟨_,rfl,λ_=>⟨_,_,_,_,Zg⟩⟩,yM⟩
end
section
open Word Num Dp
def AAB:(prog.info? 238).map (λi=>(i.zero,i.size,i.bytes))=cP (cP (.agg #[cS .empty,cY cX 0 0]),2,40):=by kernel_rfl
def AAF:(prog.info? 232).map (λi=>(i.zero,i.size,i.bytes))=cP (cP (.agg #[cS .empty,cS .empty,cI cJ 0,cY cX 0 0]),4,64):=by kernel_rfl
def GC.call'{K:World->Prop}{w2:World}{R:Rs}{cl:Nat}{Y:Value->World->Prop}{V:Nat->Value}{L:Nat->Bool}(hy:∀v,Y v w2):GC K R cl Y V (upd L cl) w2:=by simp_all[Rs,GC,upd]
theorem XR(h0:AA6 w0 w)(hR:Ct w B N R q wh lg k)(hB:w0.heap.size<=B)(hk:k+1<=5000000)(hl:Row DL 1 w0 u l)(hz:Wz l)(hp:0<l.length):Calls prog 215 #[.pointer (cP ⟨R,0,cX⟩),u] w λe w'=>Gb w B R k e w'/\Below B w w':=by
 obtain⟨p,c,rfl⟩:=hl.slice;obtain⟨a,rfl,-⟩:=CV hl hp;have d0:=AA h0 (Bg hl hp);have PV:(0:Int)<l.length:=by omega
 by_cases hw:l[0]=⟨#[97,116]⟩\/l[0]=⟨#[111,98,106]⟩\/l[0]=⟨#[106,117,109,112]⟩\/l[0]=⟨#[98,114,97,110,99,104]⟩\/l[0]=⟨#[114,101,116]⟩\/l[0]=⟨#[116,114,97,112]⟩;rotate_left
 ·simp only[not_or]at hw;obtain⟨e1,e2,e3,e4,e5,e6⟩:=hw;replace e1:=Fa e1 rfl;replace e2:=Fa e2 rfl;replace e3:=Fa e3 rfl;replace e4:=Fa e4 rfl;replace e5:=Fa e5 rfl;replace e6:=Fa e6 rfl;generalize l[0]=s at*;go_enter func215,ntmps215;go_wp2;go_ret2;exact⟨⟨_,_,rfl,(λh=>by cases h),λ_=>AL⟩,AL⟩
 have hBw:B<=w.heap.size:=by have:=hR.own.ge;have:=hR.lt;omega
 have hI:=Hu hR
 rcases hw with hw|hw|hw|hw|hw|hw<;>(
  rw[hw]at d0;go_enter func215,ntmps215;go_wp2_with fail;refine hI.mono ?_;rintro e w1 ⟨⟨b,rfl,hb0⟩,rfl⟩;cases b
  ·go_wp2;go_ret2;exact⟨ABJ (by decide),AL⟩
  have WJ:=hb0 rfl;obtain⟨fr,f,br,b,hq,hbq⟩:=hR.ss.b (by omega) (by omega);obtain⟨FB,cap,hF⟩:=hR.Fy hq;obtain⟨BB,cap2,hL⟩:=hR.lastB hF hbq;obtain⟨nf,hnf⟩:∃nf,nf=fr.length+1:=⟨_,rfl⟩;obtain⟨nb,hnb⟩:∃nb,nb=br.length+1:=⟨_,rfl⟩;have lcF:w.cell? ⟨R,4,cX⟩=cP (cY (cP ⟨FB,0,cX⟩) nf cap):=by rw[hnf];exact hF.lc
  have gI:w.cell? ⟨FB,fr.length*5+4,cX⟩=cP (cY (cP ⟨BB,0,cX⟩) nb cap2):=by rw[hnb];exact hL.lc
  have Da:=hR.qq.2.2.2;rw[hq]at Da;have MF:=Da.1;rw[List.length_append,List.length_singleton]at MF;have GU:=Da.last.2.2.2.2;rw[hbq]at GU;have Jh:=GU.1;rw[List.length_append,List.length_singleton]at Jh;have hix:(nf:Int)-1=(fr.length:Int):=by omega
  have Ns:(fr.length:Int)<nf:=by omega
  have Pm:fr.length<nf:=by omega
  have hwr:=wrN (n:=fr.length) (by omega);have hjx:(nb:Int)-1=(br.length:Int):=by omega
  have qb:(br.length:Int)<nb:=by omega
  have qZ:br.length<nb:=by omega
  have hjr:=wrN (n:=br.length) (by omega);replace hnf:=Wx hnf;replace hnb:=Wx hnb;go_wp2;refine ALQ (S:=λ_ v=>AA6 w v) Ac ?_;iterate 14((refine Ab.f (λz=>z.s) (λz=>AA z.s lcF) ?_))
  refine Ab.nil λw2 hS2=>?_;have cB:=AA hS2 gI;go_wp2;refine ALQ (S:=λ_ v=>AA6 w2 v) Ac ?_;iterate 12((refine Ab.f (λz=>z.s) (λz=>AA z.s cB) ?_))
  refine Ab.nil λw3 WQ=>?_;have hb3:=AB hS2 WQ;replace d0:=AA hb3 d0;replace h0:=AB h0 hb3;have IK:=hR.kp hb3;have hL3:=hL.up hR hq hbq hb3;have LX:=hb3.mono hBw;have hB3:B<=w3.heap.size:=AX hBw hb3.size;have hlc:l.length<=c:=by
   obtain⟨_,_,e,-,⟨-,h⟩,-⟩:=hl;obtain⟨-,-,rfl⟩:=Value.slice.inj e;exact h
  have qX:(l.length:Int)<=c:=by omega
  replace hq:=Wx hq
  replace hbq:=Wx hbq)
 ·have hP:Calls prog 237 #[cY (cP a) l.length c,cI cJ 4,cE cC] w3 λe w'=>VY w3 w' 4 l.length e/\AA6 w3 w':=Oi h0 hl hz 4 (by decide) cC;go_wp2_with fail;refine hP.mono ?_;rintro e w4 ⟨⟨vb,b1,bl,F1,rfl,⟨ps0,mb,cb,rfl⟩,h1⟩,hb4⟩;replace h1:=Wx h1;have Dc:=IK.kp hb4;have hL4:=hL3.up IK hq.out hbq.out hb4;have Po:=LX.trans (hb4.mono hB3);have TB:=AB h0 hb4;have hB4:B<=w4.heap.size:=AX hB3 hb4.size;have gK:N<=w3.heap.size:=IK.own.sz;go_upto_region 16 with fail;go_cut[83]from 64 to 82 (λv wx=>∃r:Bool,v=cE r/\(r=cA->wh=7/\b1=cC)/\AA6 w4 wx)
  ·have cw:=Dc.cw;have hbd:=(Below.refl w4.heap.size w4).drew
   cases h7:((wh:Int) !=7)with
   |true=>
    go_wp2;refine ALQ (S:=λ_ v=>AA6 w4 v) hbd ?_;(iterate 20(first|(refine Ab.f (λz=>z.s) (λz=>AA z.s cw) ?_)|(refine Ab.skip rfl (λL w1 hS hi=>(hS)) ?_;(try simp only[pE]))));refine Ab.nil λw5 hS5=>?_;go_wp2;go_meet
    exact⟨_,rfl,(λh=>by cases h),hS5⟩
   |false=>
    have hw7:wh=7:=(by simpa using h7);replace hw7:=Wx hw7;cases b1
    ·go_wp2;refine ALQ (S:=λ_ v=>AA6 w4 v) hbd ?_;(iterate 20(first|(refine Ab.f (λz=>z.s) (λz=>AA z.s cw) ?_)|(refine Ab.skip rfl (λL w1 hS hi=>(hS)) ?_;(try simp only[pE]))));refine Ab.nil λw5 hS5=>?_;go_wp2;go_meet;exact⟨_,rfl,(λh=>by cases h),hS5⟩
    ·obtain⟨k1,-⟩:=h1.out rfl;have C8:0+1<l.length:=(by omega);have Fw:(1:Int)<l.length:=(by omega);have LQ:1+1<l.length:=(by omega);have Qj:(2:Int)<l.length:=(by omega);obtain⟨a1,e1,d1⟩:=BQ hl (q:=0) C8;obtain rfl:a=a1:=(by simpa using e1);obtain⟨a2,e2,d2⟩:=BQ hl (q:=1) LQ;obtain rfl:a=a2:=(by simpa using e2);have hz1:=Dl hz C8;have hz2:=Dl hz LQ;replace d1:=AA TB d1;replace d2:=AA TB d2;simp only[Nat.zero_add,Nat.reduceAdd]at d1 d2 hz1 hz2;generalize l[1]=s1 at*;generalize l[2]=s2 at*;obtain⟨nv,nC⟩:∃nv,nv=[s1,s2].all nm:=⟨_,rfl⟩;replace nC:=Wx nC;go_wp2;refine ALR (S:=GC (λv1=>AA6 w4 v1) (R1 16 17 (λv v1=>∃pb,v=cY (cP ⟨pb,0,cX⟩) 2 2/\Ae v1 pb [cS s1,cS s2])) 17 (λ_ v1=>AA6 w4 v1)) (GC.start hbd) ?_;(iterate 16((refine AU.f (λz=>z.s.keep rfl rfl) (λz=>have hI:=z.s.k (z.f 17);ALS (AA hI cw) (ALS (AA hI d1) (AA hI d2))) ?_)));refine AU.free (λ_=>rfl) (λV L w2 K' Q' hS hi hR hd hK=>?_) ?_
     ·have hc:=hR.out 17 16 (by kernel_rfl) hi;have hI:=hS.k hc;have hb:=AJ w2 (.cells #[cS s1,cS s2] 9);go_simp;(try simp only[pE]);exact hK.out _ _ rfl (hS.made (Cv λh=>absurd rfl h) (AB hI hb) hc rfl ⟨_,rfl,Ae.alloc _ _ _⟩ rfl)
     (try simp only[pE]);refine AU.val (cE nv) (λ_=>rfl) (λV L w2 K' Q' hS hi hR hd hK=>?_) ?_
     ·obtain⟨pb,hp,hx⟩:=hS.val hi rfl (hd.out 16 (by kernel_rfl)) hi;have hI:=hS.k hi;have hN:=Bn (Below.refl w2.heap.size _) (DN (l:=[s1,s2]) hx ⟨show 2<=10000000 by decide,by simpa using⟨hz1,hz2⟩⟩);rw[<-nC.out]at hN;simp only[hp];go_simp;(go_wp2_with(refine hN.mono ?_;rintro e w3 ⟨rfl,rfl⟩));exact hK.out _ _ (by simp only[hp];rfl) (GC.call' λ_=>hI)
     (try simp only[pE]);(iterate 2((refine AU.q (λz=>z.s.keep rfl rfl) ?_)));refine AU.nil λV w5 hS=>?_;have hb5:=hS.done rfl;go_wp2;go_meet;exact⟨_,rfl,(λ_=>⟨hw7.out,trivial⟩),hb5⟩
  obtain⟨r,rfl,hr,hb5⟩:=hcut;obtain⟨w5,rfl⟩:=again wc;have CS:=Dc.kp hb5;have hL5:=hL4.up Dc hq.out hbq.out hb5;have Za:=Po.trans (hb5.mono hB4);have Ku:=AB TB hb5;have ZC:B<=w5.heap.size:=AX hB4 hb5.size;cases r;rotate_left
  ·go_wp2;go_ret2;exact⟨ABJ (by decide),Za⟩
  obtain⟨ZJ,rfl⟩:=hr rfl;replace ZJ:=Wx ZJ;obtain⟨k1,kn,k2,k3,k4⟩:=h1.out rfl;replace k2:=k2.same (w':=w5) λb hb=>hb5.block b (k2.fp b hb).2;obtain rfl:mb=bl.length:=by
   obtain⟨_,_,e⟩:=k2.slice;rw[List.length_map]at e;exact(Value.slice.inj e).2.1
  have nN:2+1<l.length:=by omega
  have h3I:(3:Int)<l.length:=by omega
  obtain⟨a3,e3,d3⟩:=BQ hl (q:=2) nN;obtain rfl:a=a3:=by simpa using e3
  have hz3:=Dl hz nN;replace d3:=AA Ku d3;simp only[Nat.reduceAdd]at d3 hz3;have hG:=λw=>JU l[3] hz3 w;generalize l[3]=s3 at*;go_wp2_with fail;refine(hG _).mono ?_;rintro e w6 ⟨⟨n,is,rfl,-⟩,hb6⟩;have ES:=CS.kp hb6;have hL6:=hL5.up CS hq.out hbq.out hb6;have qw:=Za.trans (hb6.mono ZC);have PX:=AB Ku hb6;have nM:B<=w6.heap.size:=AX ZC hb6.size;replace k2:=k2.same (w':=w6) λb hb=>hb6.block b (A9 (k2.fp b hb).2 (AQ));go_upto_region 19 with fail;go_cut[100]from 91 to 99 (λv wx=>∃r:Bool,v=cE r/\wx=w6)
  ·cases is
   ·go_wp2;go_meet;exact⟨_,rfl,rfl⟩
   ·cases hn0:decide (n<0)with
    |true=>
     have xq:=BK hn0;go_wp2;go_meet
     exact⟨_,rfl,rfl⟩
    |false=>
     have xq:=CJ hn0
     cases hn1:decide ((1024:Int)<n)with
     |true=>
      have ADo:=BK hn1;go_wp2;go_meet
      exact⟨_,rfl,rfl⟩
     |false=>
      have ADo:=CJ hn1;go_wp2;go_meet;exact⟨_,rfl,rfl⟩
  obtain⟨r,rfl,rfl⟩:=hcut;obtain⟨w6,rfl⟩:=again wc;cases r;rotate_left
  ·go_wp2;go_ret2;exact⟨ABJ (by decide),qw⟩
  obtain⟨cr,x,hcs⟩:∃cr x,b.cs=cr++[x]:=by
   obtain⟨fr',f',br',b',cr,x,e1,e2,e3⟩:=ES.ss.i (by have:=ZJ.out;omega) (by omega);rw[hq.out]at e1;obtain⟨rfl,h⟩:=List.append_inj' e1 rfl;obtain rfl:f=f':=(by simpa using h);rw[hbq.out]at e2;obtain⟨rfl,h⟩:=List.append_inj' e2 rfl;obtain rfl:b=b':=(by simpa using h);exact⟨cr,x,e3⟩
  obtain⟨IB,Nv,pY⟩:=hL6.oH hcs;obtain⟨ni,hni⟩:∃ni,ni=cr.length+1:=⟨_,rfl⟩;have lcI:w6.cell? ⟨BB,br.length*9+2,cX⟩=cP (cY (cP ⟨IB,0,cX⟩) ni Nv):=by rw[hni];exact pY.lc
  have hqc:=GU.last.2.2.1;rw[hcs]at hqc;have Z0:=hqc.1;rw[List.length_append,List.length_singleton]at Z0;have hmx:(ni:Int)-1=(cr.length:Int):=by omega
  have ADq:(cr.length:Int)<ni:=by omega
  have ADp:cr.length<ni:=by omega
  have hmr:=wrN (n:=cr.length) (by omega);obtain⟨F2,vc,xs,⟨hc,hox,⟨pc,cc,rfl⟩,hsp,-⟩,hF2⟩:=pY.lf;replace hni:=Wx hni;replace hcs:=Wx hcs;go_wp2;refine ALQ (S:=λ_ v=>AA6 w6 v) Ac ?_;iterate 12((refine Ab.f (λz=>z.s) (λz=>AA z.s lcI) ?_))
  refine Ab.nil λw7 iK=>?_;have cV:=AA iK hc;have AAb:x.fr.length<=k:=hqc.last.2.2.2.2.1.1;have hkk:=ES.kk;have hln:=hz.1;go_upto_region 22 with fail;go_cut[122]from 112 to 121 (λv wx=>∃r:Bool,v=cE r/\wx=w7)
  ·cases hg1:decide ((16:Int)<(bl.length:Int))with
   |true=>
    have QZ:=BK hg1;have hgN:16<bl.length:=(by omega);go_wp2;go_meet
    exact⟨_,rfl,rfl⟩
   |false=>
    have QZ:=CJ hg1;have hgN:¬16<bl.length:=by omega
    cases hg2:decide ((16:Int)<=(x.fr.length:Int))with
    |true=>
     have pI:=BK hg2;have hgM:16<=x.fr.length:=(by omega);go_wp2;go_meet
     exact⟨_,rfl,rfl⟩
    |false=>
     have pI:=CJ hg2;have hgM:¬16<=x.fr.length:=(by omega);go_wp2;go_meet;exact⟨_,rfl,rfl⟩
  obtain⟨r,rfl,rfl⟩:=hcut;obtain⟨w7,rfl⟩:=again wc;cases r;rotate_left
  ·go_wp2;go_ret2;exact⟨ABJ (by decide),qw.trans (iK.mono nM)⟩
  have GZ:AA6 w6 w7.drew:=AB iK Ac;have BO:=ES.kp GZ;have hc6:=AA GZ hc;have Pj:=Dh hox GZ (AQ);have qO:=hsp.kp (GZ.mono ES.own.sz);have hIT:=DC.nx pY.lt GZ;have C8:0+1<l.length:=by omega
  have Fw:(1:Int)<l.length:=by omega
  have LQ:1+1<l.length:=by omega
  have Qj:(2:Int)<l.length:=by omega
  obtain⟨a1,e1,d1⟩:=BQ hl (q:=0) C8;obtain rfl:a=a1:=by simpa using e1
  obtain⟨a2,e2,d2⟩:=BQ hl (q:=1) LQ;obtain rfl:a=a2:=by simpa using e2
  have hz1:=Dl hz C8;have hz2:=Dl hz LQ;simp only[Nat.zero_add,Nat.reduceAdd]at d1 d2 hz1 hz2;have hag:a.block<B:=A9 (World.block_lt_of_cell? _ ⟨a.block,a.off+1,cX⟩ d1) hB;replace d1:=AA (AB PX GZ) d1;replace d2:=AA (AB PX GZ) d2;generalize l[1]=s1 at*;generalize l[2]=s2 at*;have Qo:=own_ne Pj hIT (by decide);have DT:=Ed Pj hag;have hsz:B<=w7.drew.heap.size:=AX nM GZ.size;have kd:=k2.same (w':=w7.drew) λb hb=>GZ.block b (k2.fp b hb).2;have hx:=hqc.last;go_wp2;refine ALR (S:=Ad w7.drew B 232 4 14 15 18 [cS s1,cS s2,cI cJ n,cY ps0 bl.length cb] x.fr.length xs (cY pc x.fr.length cc) ⟨IB,cr.length*6+4,cX⟩) (Ad.start (AL)) ?_;iterate 14((refine AU.f (λz=>z.s.keep rfl rfl rfl) (λz=>have hs:=z.f 18;ALS (z.s.cellOf hs hc6 Qo) (ALS (z.s.cellOf hs (show w7.drew.cell? ⟨a.block,a.off+1,cX⟩=cP (cS s1)from d1) DT) (z.s.cellOf hs (show w7.drew.cell? ⟨a.block,a.off+2,cX⟩=cP (cS s2)from d2) DT))) ?_))
  (apply AU.w rfl;intro V L w1 _ _ _ z hK;go_simp;exact hK rfl (z.s.made (z.o 15) rfl _);(try simp only[pE]));(refine Ad.aq (AAF) (underlying130) (Pj) ?_;(try simp only[pE]));iterate 2((refine AU.f (λz=>z.s.keep rfl rfl rfl) (λz=>z.f 18) ?_))
  (refine Ad.sv (λhS hi=>ALS (hS.cellOf hi hc6 Qo) (hS.EA hi (o:=cr.length*6+4) hIT.lt (hIT.Bw _) Qo)) ?_;simp only[Act.put]);refine AU.nil λV w8 hS=>?_;obtain⟨E8,Bp⟩:=hS.Yq (d:=nR ⟨s1,s2,n,bl⟩) (q':={q with fs:=fr++[{f with bs:=br++[{b with cs:=cr++[{x with fr:=x.fr++[⟨s1,s2,n,bl⟩]}]}]}]}) rfl rfl BO qO hc6 Pj (by simp) (by decide) (λw1 pb hlow hx=>⟨F1++[],Af.of (AP.cc (hx.c 0 _ rfl) rfl (AP.cc (hx.c 1 _ rfl) rfl (AP.cc (hx.c 2 _ rfl) rfl (AP.cr (hx.c 3 _ rfl) (AZ.mono gK (kd.same λb hb=>hlow.block b (kd.fp b hb).2)) AP.cn)))),by simpa using k3⟩) rfl rfl (by rw[<-hF2,List.map_append];rfl) ⟨BO.qq.1.up (Aa) λ_ h=>QW.up (Aa) h,BO.qq.2.1.up (Aa) λ_ h=>h,BO.qq.2.2.1.up (Aa) λ_ h=>h,Da.turn (Aa) (λ_ h=>QV.up (Aa) h) ⟨Da.last.1,Da.last.2.1,Da.last.2.2.1.up (Aa) λ_ h=>h,Da.last.2.2.2.1.up (Aa) λ_ h=>h,GU.turn (Aa) (λ_ h=>WI.up (Aa) h) ⟨GU.last.1,GU.last.2.1.up (Aa) λ_ h=>h,hqc.turn (Aa) (λ_ h=>gG.up (Aa) h) ⟨hx.1,hx.2.1,hx.2.2.1,hx.2.2.2.1,hx.2.2.2.2.1.snoc (λ_ h=>h) ⟨hz1,hz2,AX kn hln,k4⟩,hx.2.2.2.2.2.up (Aa) λ_ h=>h⟩,GU.last.2.2.2⟩⟩⟩ ⟨BO.ss.r,BO.ss.c,(λ_=>by simp),(λ_ _=>⟨fr,_,br,_,rfl,rfl⟩),λ_ _=>⟨fr,_,br,_,cr,_,rfl,rfl,rfl⟩⟩ hk;have J9:=(qw.trans (GZ.mono nM)).trans Bp;go_wp2;go_ret2;exact⟨⟨_,_,rfl,(λ_ _=>⟨_,_,_,_,E8⟩),λh=>by cases h⟩,J9⟩
 ·go_upto_region 27 with fail;go_cut[165]from 143 to 164 (λv wx=>∃r:Bool,v=cE r/\(r=cA->7<=wh/\2<=l.length/\nm (l.getD 1 Bv)=cC)/\AA6 w3 wx)
  ·have cw:=IK.cw
   cases h7:decide (wh<7)with
   |true=>
    have QZ:=BK h7;go_wp2;go_meet
    exact⟨_,rfl,(λh=>by cases h),AL⟩
   |false=>
    have QZ:=CJ h7
    cases h2:decide ((l.length:Int)<2)with
    |true=>
     have pI:=BK h2;have hgN:l.length<2:=(by omega);go_wp2;go_meet
     exact⟨_,rfl,(λh=>by cases h),AL⟩
    |false=>
     have pI:=CJ h2;have hgN:¬l.length<2:=by omega
     cases h10:decide ((10:Int)<(l.length:Int))with
     |true=>
      have hgK:=BK h10;have hgM:10<l.length:=(by omega);go_wp2;go_meet
      exact⟨_,rfl,(λh=>by cases h),AL⟩
     |false=>
      have hgK:=CJ h10;have hgM:¬10<l.length:=(by omega);have C8:1<l.length:=(by omega);have Fw:(1:Int)<l.length:=(by omega);obtain⟨_,rfl,hz1,d1⟩:=EN hl C8 hz;replace d1:=AA h0 d1;generalize l.getD 1 Bv=s1 at*;have J8:=AJ w3 (.cells #[cS s1] 9);have hN:=Bn (Below.refl (w3.alloc (.cells #[cS s1] 9)).heap.size _) (DN (l:=[s1]) (Ae.alloc w3 [cS s1] 9) ⟨show 1<=10000000 by decide,by simpa using hz1⟩);simp only[List.length_cons,List.length_nil,Nat.zero_add,List.all_cons,List.all_nil,Bool.and_true]at hN;generalize nm s1=nv at*;have hx7:7<=wh/\2<=l.length:=(by omega);go_wp2_with fail;refine hN.mono ?_;rintro e w4 ⟨rfl,rfl⟩;cases nv
      ·go_wp2;go_meet;exact⟨_,rfl,(λh=>by cases h),J8⟩
      ·go_wp2;go_meet;exact⟨_,rfl,(λ_=>⟨hx7.1,hx7.2,by trivial⟩),J8⟩
  obtain⟨r,rfl,hr,hb4⟩:=hcut;obtain⟨w4,rfl⟩:=again wc;have Dc:=IK.kp hb4;have hL4:=hL3.up IK hq.out hbq.out hb4;have Po:=LX.trans (hb4.mono hB3);have TB:=AB h0 hb4;have hB4:B<=w4.heap.size:=AX hB3 hb4.size;cases r;rotate_left
  ·go_wp2;go_ret2;exact⟨ABJ (by decide),Po⟩
  obtain⟨ZJ,hl2,hnm⟩:=hr rfl;replace hnm:=Wx hnm;have Qj:(2:Int)<=l.length:=by omega
  go_upto_region 29 with fail;go_cut[13,14]from 166 to 171 (λv x wx=>∃(al:List Ag) (F1:List Nat) (pa:Option Addr) (m1 ca:Nat) (b1:Bool),v=cY pa m1 ca/\x=cE b1/\Hid (b1=cC->AZ wx w4.heap.size 77 3 (al.map Ls) (cY pa m1 ca) F1/\F1.Nodup/\Az al/\al.length<=10000000)/\AA6 w4 wx)
  ·by_cases hc2:c=2;subst hc2;have hT:=hl.tail (k:=2) (m:=0) (b:=a) (by omega) (by omega) (λ_=>by omega);rw[show l.length-2=0 by omega]at hT;rotate_left;have hT:=hl.tail (k:=2) (m:=c-2) (b:=⟨a.block,a.off+2,cX⟩) (by omega) (by omega) (λ_=>by simp[Addr.add]);all_goals
    have hA:=FT TB hT (hz.drop 2) cC;go_wp2_with fail;refine hA.mono ?_;rintro e w5 ⟨⟨v1,b1,al,F1,rfl,⟨pa,m1,ca,rfl⟩,h1⟩,hb5⟩;replace h1:=Wx h1;go_wp2;go_meet
    ·exact⟨al,F1,pa,m1,ca,b1,rfl,rfl,Wx λe=>by
     obtain⟨k1,k2,k3,k4⟩:=h1.out e
     exact⟨k2,k3,k4,by rw[k1];have:=(hz.drop 2).1;exact this⟩,hb5⟩
  obtain⟨al,F1,pa,m1,ca,b1,rfl,rfl,h1,hb5⟩:=hcut;obtain⟨w5,rfl⟩:=again wc;have CS:=Dc.kp hb5;have hL5:=hL4.up Dc hq.out hbq.out hb5;have Za:=Po.trans (hb5.mono hB4);have Ku:=AB TB hb5;have ZC:B<=w5.heap.size:=AX hB4 hb5.size;have hN4:N<=w4.heap.size:=Dc.own.sz;cases b1
  ·go_wp2;go_ret2;exact⟨ABJ (by decide),Za⟩
  obtain⟨k2,k3,k4,k5⟩:=h1.out rfl;obtain rfl:m1=al.length:=by
   obtain⟨_,_,e⟩:=k2.slice;rw[List.length_map]at e;exact(Value.slice.inj e).2.1
  obtain⟨cr,x,hcs⟩:∃cr x,b.cs=cr++[x]:=by
   obtain⟨fr',f',br',b',cr,x,e1,e2,e3⟩:=CS.ss.i ZJ (by omega);rw[hq.out]at e1;obtain⟨rfl,h⟩:=List.append_inj' e1 rfl;obtain rfl:f=f':=(by simpa using h);rw[hbq.out]at e2;obtain⟨rfl,h⟩:=List.append_inj' e2 rfl;obtain rfl:b=b':=(by simpa using h);exact⟨cr,x,e3⟩
  obtain⟨IB,Nv,pY⟩:=hL5.oH hcs;obtain⟨ni,hni⟩:∃ni,ni=cr.length+1:=⟨_,rfl⟩;have lcI:w5.cell? ⟨BB,br.length*9+2,cX⟩=cP (cY (cP ⟨IB,0,cX⟩) ni Nv):=by rw[hni];exact pY.lc
  have hqc:=GU.last.2.2.1;rw[hcs]at hqc;have Z0:=hqc.1;rw[List.length_append,List.length_singleton]at Z0;have hmx:(ni:Int)-1=(cr.length:Int):=by omega
  have ADq:(cr.length:Int)<ni:=by omega
  have ADp:cr.length<ni:=by omega
  have hmr:=wrN (n:=cr.length) (by omega);obtain⟨F2,vc,xs,⟨hc,hox,⟨pc,cc,rfl⟩,hsp,-⟩,hF2⟩:=pY.lo;replace hni:=Wx hni;replace hcs:=Wx hcs;go_wp2;refine ALQ (S:=λ_ v=>AA6 w5 v) Ac ?_;iterate 12((refine Ab.f (λz=>z.s) (λz=>AA z.s lcI) ?_))
  refine Ab.nil λw6 H6=>?_;have cV:=AA H6 hc;have Qi:=D8 (x.ob.length:Int) 99 w6;go_wp2_with fail;refine Qi.mono ?_;rintro e w7 ⟨⟨lim,rfl,-⟩,rfl⟩;have GZ:AA6 w5 w6.drew:=AB H6 Ac;have BO:=CS.kp GZ;have hc6:=AA GZ hc;have Pj:=Dh hox GZ (AQ);have qO:=hsp.kp (GZ.mono CS.own.sz);have hIT:=DC.nx pY.lt GZ;have C8:1<l.length:=by omega
  have Fw:(1:Int)<l.length:=by omega
  obtain⟨s1,hg,hz1,d1⟩:=EN hl C8 hz;have hag:a.block<B:=A9 (World.block_lt_of_cell? _ ⟨a.block,a.off+1,cX⟩ d1) hB;replace d1:=AA (AB Ku GZ) d1;have Qo:=own_ne Pj hIT (by decide);have DT:=Ed Pj hag;have hsz:B<=w6.drew.heap.size:=AX ZC GZ.size;have AAb:x.ob.length<=k:=hqc.last.2.2.2.2.2.1;have hkk:=BO.kk;have kd:=k2.same (w':=w6.drew) λb hb=>GZ.block b (k2.fp b hb).2;have hx:=hqc.last;go_wp2;refine ALR (S:=Ad w6.drew B 238 2 10 11 14 [cS s1,cY pa al.length ca] x.ob.length xs (cY pc x.ob.length cc) ⟨IB,cr.length*6+5,cX⟩) (Ad.start (AL)) ?_;iterate 10((refine AU.f (λz=>z.s.keep rfl rfl rfl) (λz=>have hs:=z.f 14;ALS (z.s.cellOf hs hc6 Qo) (z.s.cellOf hs (show w6.drew.cell? ⟨a.block,a.off+1,cX⟩=cP (cS s1)from d1) DT)) ?_))
  (apply AU.w rfl;intro V L w1 _ _ _ z hK;go_simp;exact hK rfl (z.s.made (z.o 11) rfl _);(try simp only[pE]));(refine Ad.aq (AAB) (underlying131) (Pj) ?_;(try simp only[pE]));iterate 2((refine AU.f (λz=>z.s.keep rfl rfl rfl) (λz=>have hs:=z.f 14;ALS (z.s.cellOf hs hc6 Qo) (z.s.cellOf hs (show w6.drew.cell? ⟨a.block,a.off+1,cX⟩=cP (cS s1)from d1) DT)) ?_))
  (refine Ad.sv (λhS hi=>ALS (hS.cellOf hi hc6 Qo) (hS.EA hi (o:=cr.length*6+5) hIT.lt (hIT.Bw _) Qo)) ?_;simp only[Act.put]);refine AU.nil λV w8 hS=>?_;obtain⟨E8,Bp⟩:=hS.Yq (d:=nQ ⟨s1,al⟩) (q':={q with fs:=fr++[{f with bs:=br++[{b with cs:=cr++[{x with ob:=x.ob++[⟨s1,al⟩]}]}]}]}) rfl rfl BO qO hc6 Pj (by simp) (by decide) (λw1 pb hlow hx=>⟨F1++[],Af.of (AP.cc (hx.c 0 _ rfl) rfl (AP.cr (hx.c 1 _ rfl) (AZ.mono hN4 (kd.same λb hb=>hlow.block b (kd.fp b hb).2)) AP.cn)),by simpa using k3⟩) rfl rfl (by rw[<-hF2,List.map_append];rfl) ⟨BO.qq.1.up (Aa) λ_ h=>QW.up (Aa) h,BO.qq.2.1.up (Aa) λ_ h=>h,BO.qq.2.2.1.up (Aa) λ_ h=>h,Da.turn (Aa) (λ_ h=>QV.up (Aa) h) ⟨Da.last.1,Da.last.2.1,Da.last.2.2.1.up (Aa) λ_ h=>h,Da.last.2.2.2.1.up (Aa) λ_ h=>h,GU.turn (Aa) (λ_ h=>WI.up (Aa) h) ⟨GU.last.1,GU.last.2.1.up (Aa) λ_ h=>h,hqc.turn (Aa) (λ_ h=>gG.up (Aa) h) ⟨hx.1,hx.2.1,hx.2.2.1,hx.2.2.2.1,hx.2.2.2.2.1.up (Aa) λ_ h=>h,hx.2.2.2.2.2.snoc (λ_ h=>h) ⟨hz1,k5,k4⟩⟩,GU.last.2.2.2⟩⟩⟩ ⟨BO.ss.r,BO.ss.c,(λ_=>by simp),(λ_ _=>⟨fr,_,br,_,rfl,rfl⟩),λ_ _=>⟨fr,_,br,_,cr,_,rfl,rfl,rfl⟩⟩ hk;have J9:=(Za.trans (GZ.mono ZC)).trans Bp;have cw:=E8.cw;have f5:=E8.Bw 5;have TN:=E8.setW 8 ⟨by omega,(λh=>absurd h (by decide)),(λ_=>by simp),(λ_ _=>⟨fr,_,br,_,rfl,rfl⟩),λ_ _=>⟨fr,_,br,_,cr,_,rfl,rfl,rfl⟩⟩;have Wt:=J9.trans (E8.low (cI cJ 8) 5);go_wp2;go_ret2;exact⟨⟨_,_,rfl,(λ_ _=>⟨_,_,_,_,TN⟩),λh=>by cases h⟩,Wt⟩
 all_goals
  have hE:=fI h0 IK hB hk hl hz hp hq.out hbq.out hL3;go_wp2_with fail;refine hE.mono ?_;rintro e w4 ⟨⟨why,rfl,hy⟩,hb4⟩;go_wp2;go_ret2;exact⟨⟨_,_,rfl,(λ_ h=>hy h),λh=>by cases h⟩,LX.trans hb4⟩
end
section
open Word Num Dp
theorem Ct.ADM(h:Ct w B N R q wh lg k):Ct (w.setCell ⟨R,0,cX⟩ (cE cC)) B N R {q with ssa:=cC} wh lg k:=by
 have s0:=h.own.spot;unfold IL at s0;have s1:=s0.nth 0 rfl rfl;unfold Qk at s1;have s2:=s1.nth 0 rfl rfl;obtain⟨cur,ht⟩:=h.typ;exact⟨s2.set1 (v1:=cE cC) rfl,Ew ht _ _,h.qq,⟨h.ss.r,h.ss.c,h.ss.f,h.ss.b,h.ss.i⟩,h.kk,h.ll⟩
def QF{why:Int}(hk:k+2<=5000000)(hy:why=0->∃N q wh lg,Ct w' B N R q wh lg (k+1)):Wy B R (k+1) (.returned (cI cJ why)) w':=⟨_,rfl,λh=>by
 obtain⟨N,q,wh,lg,h⟩:=hy h
 exact⟨N,q,wh,lg,h.up hk⟩⟩
theorem dh(h0:AA6 w0 w)(hW:Words w0)(hR:Ct w B N R q wh lg k)(hB:w0.heap.size<=B)(hk:k+2<=5000000)(hl:Row DL 1 w0 u l)(hz:Wz l)(hp:0<l.length)(fi:Bool):Calls prog 168 #[.pointer (cP ⟨R,0,cX⟩),u,cE fi] w λe w'=>Wy B R (k+1) e w'/\Below B w w':=by
 obtain⟨p,c,rfl⟩:=hl.slice;obtain⟨a,rfl,-⟩:=CV hl hp;have hBw:B<=w.heap.size:=by have:=hR.own.ge;have:=hR.lt;omega
 have PV:(0:Int)<l.length:=by omega
 have d0:=AA h0 (Bg hl hp);have hC:∀W,AA6 w W->Calls prog 212 #[.pointer (cP ⟨R,0,cX⟩),cY (cP a) l.length c] W λe w'=>Wy B R (k+1) e w'/\Below B W w':=λW hb=>Xl (AB h0 hb) hW (hR.kp hb) hB hk hl hz hp;go_enter func168,ntmps168;go_upto_region 1 with fail;go_cut[17]from 9 to 16 (λv wx=>∃r:Bool,v=cE r/\wx=w)
 ·cases h2:decide ((2:Int)<(l.length:Int))with
  |false=>
   have Qj:=CJ h2;have LQ:¬2<l.length:=(by omega);go_wp2;go_meet
   exact⟨_,rfl,rfl⟩
  |true=>
   have Qj:=BK h2;have LQ:2<l.length:=(by omega);have C8:0+1<l.length:=(by omega);have Fw:(1:Int)<l.length:=(by omega);obtain⟨a1,e1,d1⟩:=BQ hl (q:=0) C8;obtain rfl:a=a1:=(by simpa using e1);replace d1:=AA h0 d1;simp only[Nat.zero_add]at d1;generalize l[1]=s1 at*
   cases hs:(s1.toList==[61])with
   |false=>
    go_wp2;go_meet
    exact⟨_,rfl,rfl⟩
   |true=>
    go_wp2;go_meet;exact⟨_,rfl,rfl⟩
 obtain⟨r,rfl,rfl⟩:=hcut;obtain⟨w,rfl⟩:=again wc;cases r;rotate_left
 ·have iL:=hC _ (AL);go_wp2_with fail;refine iL.mono ?_;rintro e w2 ⟨⟨why,rfl,hy⟩,hb2⟩;replace hy:=Wx hy;go_wp2;go_ret;exact⟨⟨_,rfl,hy.out⟩,hb2⟩
 cases hs:(l[0].toList==[115,115,97])with
 |true=>
  have c0:=hR.ssa;have f0:=hR.Bw 0;have hT:=hR.ADM;have hbT:=hR.low (cE cC) 0;generalize l[0]=s0 at*;go_upto_region 4 with fail;go_cut[31]from 25 to 30 (λv wx=>∃r:Bool,v=cE r/\wx=w)
  ·cases fi
   ·go_wp2;go_meet;exact⟨_,rfl,rfl⟩
   ·cases h1:((l.length:Int) !=1)with
    |true=>
     go_wp2;go_meet
     exact⟨_,rfl,rfl⟩
    |false=>
     go_wp2;go_meet;exact⟨_,rfl,rfl⟩
  obtain⟨r,rfl,rfl⟩:=hcut;obtain⟨w,rfl⟩:=again wc;cases r;rotate_left
  ·go_wp2;go_ret;exact⟨⟨_,rfl,λh=>absurd h (by decide)⟩,AL⟩
  go_wp2;go_ret
  exact⟨⟨_,rfl,λ_=>⟨_,_,_,_,(hT.up (by omega)).up hk⟩⟩,hbT⟩
 |false=>
 have hH:=eX h0 hR hB (by omega) hl hz hp;have hP:∀W,AA6 w W->Calls prog 214 #[.pointer (cP ⟨R,0,cX⟩),cY (cP a) l.length c] W λe w'=>Gb W B R k e w'/\Below B W w':=λW hb=>dH (AB h0 hb) (hR.kp hb) hB (by omega) hl hz hp;have hS:∀W,AA6 w W->Calls prog 215 #[.pointer (cP ⟨R,0,cX⟩),cY (cP a) l.length c] W λe w'=>Gb W B R k e w'/\Below B W w':=λW hb=>XR (AB h0 hb) (hR.kp hb) hB (by omega) hl hz hp;generalize l[0]=s0 at*;go_wp2_with fail;refine hH.mono ?_;rintro e w2 ⟨⟨b,why,rfl,hy,hn⟩,hb2⟩;cases b;rotate_left
 ·replace hy:=Wx (hy rfl);go_wp2;go_ret;exact⟨QF hk hy.out,hb2⟩
 have hn2:=hn rfl;have hP1:=hP _ hn2;go_wp2_with fail;refine hP1.mono ?_;rintro e w3 ⟨⟨b,AJA,rfl,hy,hn⟩,hb3⟩;have Db:=hn2.mono hBw;cases b;rotate_left
 ·replace hy:=Wx (hy rfl);go_wp2;go_ret;exact⟨QF hk hy.out,Db.trans hb3⟩
 have QY:=AB hn2 (hn rfl);have hS1:=hS _ QY;go_wp2_with fail;refine hS1.mono ?_;rintro e w4 ⟨⟨b,AI9,rfl,hy,hn⟩,hb4⟩;have Db:=QY.mono hBw;cases b;rotate_left
 ·replace hy:=Wx (hy rfl);go_wp2;go_ret;exact⟨QF hk hy.out,Db.trans hb4⟩
 have iH:=AB QY (hn rfl);have iL:=hC _ iH;go_wp2_with fail;refine iL.mono ?_;rintro e w5 ⟨⟨AI8,rfl,hy⟩,hb5⟩;replace hy:=Wx hy;go_wp2;go_ret;exact⟨⟨_,rfl,hy.out⟩,(iH.mono hBw).trans hb5⟩
end
end Go.Proofs.YtlffomedflegdaaGreatDoor
