/- Part 14 of the proof: Oo, Op, Oq, Or, Os, Ot. -/
import Derived.Test.YtlffomedflegdaaGreatDoorPd13
set_option linter.all false
set_option maxHeartbeats 16000000
set_option maxRecDepth 100000
namespace Go.Proofs.YtlffomedflegdaaGreatDoor
open Go.Proofs.Tryz
open Go.RowKit
open Go.Value renaming int→cI,string→cS,slice→cY,bool→cE
open Go.IntKind renaming i64→cJ
open Option renaming some→cP,none→cX
open Bool renaming false→cA,true→cC
variable {B BB FB N R c cap cap2 g k n o:Nat}{a:Addr}{b:Bk}{br:List Bk}{f:Fn}{fr:List Fn}{l:List ByteArray}{lg wh:Int}{q:Pg}{u:Value}{w w0:World}
section
open Word Num Dp
theorem KF(h:Row DL 1 w (cY (cP a) n c) l)(h3:l.length=3)(hz:Wz l):∃s1 s2,l.getD 1 Bv=s1/\Tz s1/\Tz s2/\w.cell? ⟨a.block,a.off+1,cX⟩=cP (cS s1)/\w.cell? ⟨a.block,a.off+2,cX⟩=cP (cS s2):=by
 have h1:0+1<l.length:=by omega
 have h2:1+1<l.length:=by omega
 grind [BQ,Dl]
theorem EN(h:Row DL 1 w (cY (cP a) n c) l)(h1:0+1<l.length)(hz:Wz l):∃s1,l.getD 1 Bv=s1/\Tz s1/\w.cell? ⟨a.block,a.off+1,cX⟩=cP (cS s1):=by grind [BQ,Dl]
def Q9:(prog.info? 71).map (λi=>(i.zero,i.size,i.bytes))=cP (cP (.agg #[cS .empty,cS .empty]),2,32):=by kernel_rfl
def AAG:(prog.info? 155).map (λi=>(i.zero,i.size,i.bytes))=cP (cP (.agg #[cS .empty,cI cJ 0]),2,24):=by kernel_rfl
def ACO:(prog.info? 66).map (λi=>(i.zero,i.size,i.bytes))=cP (cP (.agg #[cS .empty,cS .empty,cY cX 0 0,cY cX 0 0,cY cX 0 0]),5,104):=by kernel_rfl
theorem Si(h0:AA6 w0 w)(hR:Ct w B N R q wh lg k)(hB:w0.heap.size<=B)(hk:k+1<=5000000)(hl:Row DL 1 w0 u l)(hz:Wz l)(hp:0<l.length)(hw:l[0]=⟨#[103,108,111,98,97,108]⟩):Calls prog 213 #[.pointer (cP ⟨R,0,cX⟩),u] w λe w'=>Gb w B R k e w'/\Below B w w':=by
 obtain⟨p,c,rfl⟩:=hl.slice;obtain⟨a,rfl,-⟩:=CV hl hp;have d0:=AA h0 (Bg hl hp);rw[hw]at d0;have PV:(0:Int)<l.length:=by omega
 have hBw:B<=w.heap.size:=by have:=hR.own.ge;have:=hR.lt;omega
 go_enter func213,ntmps213;go_upto_region 19 with fail;go_cut[131]from 124 to 130 (λv wx=>∃r:Bool,v=cE r/\(r=cA->(wh<=2\/wh=9)/\l.length=3/\nm (l.getD 1 Bv)=cC)/\AA6 w wx)
 ·have hT:=Gr h0 hl hz;have hO:=Ey hR;go_wp2_with fail;refine hO.mono ?_;rintro e w2 ⟨⟨b,rfl,hb0⟩,rfl⟩;cases b
  ·go_wp2;go_meet;exact⟨_,rfl,(λh=>by cases h),AL⟩
  replace hb0:=hb0 rfl;replace hb0:=Wx hb0;go_wp2_with fail;refine hT.mono ?_;rintro e w3 ⟨⟨b,rfl,ht⟩,hb⟩;cases b
  ·go_wp2;go_meet;exact⟨_,rfl,(λh=>by cases h),hb⟩
  ·replace ht:=Wx (ht rfl);go_wp2;go_meet;exact⟨_,rfl,(λ_=>⟨hb0.out,ht.out⟩),hb⟩
 obtain⟨r,rfl,hr,hb⟩:=hcut;replace hR:=hR.kp hb;have hBb:=hb.mono hBw;cases r;rotate_left
 ·go_wp2;go_ret2;exact⟨ABJ (by decide),hBb⟩
 obtain⟨WJ,hl3,hnm⟩:=hr rfl;have Fw:(1:Int)<l.length:=by omega
 have Qj:(2:Int)<l.length:=by omega
 have C8:1<l.length:=by omega
 have LQ:2<l.length:=by omega
 obtain⟨s1,s2,hg,hz1,hz2,d1,d2⟩:=KF hl hl3 hz;have hag:a.block<B:=A9 (World.block_lt_of_cell? w0 ⟨a.block,a.off+1,cX⟩ d1) hB;rw[hg]at hnm;replace d1:=AA (AB h0 hb) d1;replace d2:=AA (AB h0 hb) d2;replace hnm:=Wx hnm;have BO:=hR.kp (Below.refl wc.heap.size wc).drew;obtain⟨vc,xs,hc,hox,⟨pc,cc,rfl⟩,F,hsp,hF⟩:=BO.ADU;have hc':wc.cell? ⟨R,2,cX⟩=cP (cY pc q.gs.length cc):=hc;have hlen:q.gs.length<=k:=BO.qq.2.1.1;have EY:(cY pc q.gs.length cc).ownBlock≠cP R:=own_ne hox BO.typ (by decide);have DT:(cY pc q.gs.length cc).ownBlock≠cP a.block:=Ed hox hag;have hsz:B<=wc.drew.heap.size:=AX hBw hb.size;have Qi:=λw=>D8 (q.gs.length:Int) 8 w;go_wp2_with fail;refine(Qi _).mono ?_;rintro e w3 ⟨⟨r,rfl,hr2⟩,rfl⟩;go_wp2;refine ALR (S:=Ad wc.drew B 71 2 13 14 18 [cS s1,cS s2] q.gs.length xs (cY pc q.gs.length cc) ⟨R,2,cX⟩) (Ad.start (AL)) ?_;iterate 13((refine AU.f (λz=>z.s.keep rfl rfl rfl) (λz=>have hs:=z.f 18;ALS (z.s.cellOf hs hc EY) (ALS (z.s.cellOf hs (show wc.drew.cell? ⟨a.block,a.off+1,cX⟩=cP (cS s1)from d1) DT) (z.s.cellOf hs (show wc.drew.cell? ⟨a.block,a.off+2,cX⟩=cP (cS s2)from d2) DT))) ?_))
 (apply AU.w rfl;intro V L w1 _ _ _ z hK;go_simp;exact hK rfl (z.s.made (z.o 14) rfl _);(try simp only[pE]));(refine Ad.aq (Q9) (underlying23) (hox) ?_;(try simp only[pE]));iterate 3((refine AU.f (λz=>z.s.keep rfl rfl rfl) (λz=>have hs:=z.f 18;ALS (z.s.cellOf hs hc EY) (ALS (z.s.cellOf hs (show wc.drew.cell? ⟨a.block,a.off+1,cX⟩=cP (cS s1)from d1) DT) (z.s.cellOf hs (show wc.drew.cell? ⟨a.block,a.off+2,cX⟩=cP (cS s2)from d2) DT))) ?_))
 (refine Ad.sv (λhS hi=>ALS (hS.cellOf hi hc EY) (hS.EA hi (o:=2) BO.lt (BO.Bw 2) EY)) ?_;simp only[Act.put]);refine AU.nil λV w1 hS=>?_;obtain⟨Dc,hb4⟩:=hS.Yq (d:=IQ ⟨s1,s2⟩) (q':={q with gs:=q.gs++[⟨s1,s2⟩]}) rfl rfl BO hsp hc hox (by simp) (by decide) (λw1 pb hlow hx=>⟨[],Af.of (AP.cc (hx.c 0 _ rfl) rfl (AP.cc (hx.c 1 _ rfl) rfl AP.cn)),by simp⟩) rfl rfl (by rw[<-hF,List.map_append];rfl) ⟨BO.qq.1.up (Aa) λ_ h=>QW.up (Aa) h,BO.qq.2.1.snoc (λ_ h=>h) ⟨hz1,hz2⟩,BO.qq.2.2.1.up (Aa) λ_ h=>h,BO.qq.2.2.2.up (Aa) λ_ h=>QV.up (Aa) h⟩ ⟨BO.ss.r,BO.ss.c,BO.ss.f,BO.ss.b,BO.ss.i⟩ hk;have hb5:=(hBb.trans ((Below.refl wc.heap.size wc).drew.mono (AX hBw hb.size))).trans hb4;have c5:=Dc.cw;have f5:=Dc.Bw 5;have CS:=Dc.setW 2 ⟨by omega,(λh=>absurd h (by decide)),(λh=>absurd h (by decide)),(λh=>absurd h (by decide)),λh=>absurd h (by decide)⟩;have hb6:=hb5.trans (Dc.low (cI cJ 2) 5);go_wp2;go_ret2;exact⟨⟨_,_,rfl,(λ_ _=>⟨_,_,_,_,CS⟩),λh=>by cases h⟩,hb6⟩
theorem YQ(h0:AA6 w0 w)(hR:Ct w B N R q wh lg k)(hB:w0.heap.size<=B)(hk:k+1<=5000000)(hl:Row DL 1 w0 u l)(hz:Wz l)(hp:0<l.length)(hw:l[0]=⟨#[102,117,110,99]⟩):Calls prog 213 #[.pointer (cP ⟨R,0,cX⟩),u] w λe w'=>Gb w B R k e w'/\Below B w w':=by
 obtain⟨p,c,rfl⟩:=hl.slice;obtain⟨a,rfl,-⟩:=CV hl hp;have d0:=AA h0 (Bg hl hp);rw[hw]at d0;have PV:(0:Int)<l.length:=by omega
 have hBw:B<=w.heap.size:=by have:=hR.own.ge;have:=hR.lt;omega
 go_enter func213,ntmps213;go_upto_region 36 with fail;go_cut[232]from 225 to 231 (λv wx=>∃r:Bool,v=cE r/\(r=cA->(wh<=2\/wh=9)/\l.length=3/\nm (l.getD 1 Bv)=cC)/\AA6 w wx)
 ·have hT:=Gr h0 hl hz;have hO:=Ey hR;go_wp2_with fail;refine hO.mono ?_;rintro e w2 ⟨⟨b,rfl,hb0⟩,rfl⟩;cases b
  ·go_wp2;go_meet;exact⟨_,rfl,(λh=>by cases h),AL⟩
  replace hb0:=hb0 rfl;replace hb0:=Wx hb0;go_wp2_with fail;refine hT.mono ?_;rintro e w3 ⟨⟨b,rfl,ht⟩,hb⟩;cases b
  ·go_wp2;go_meet;exact⟨_,rfl,(λh=>by cases h),hb⟩
  ·replace ht:=Wx (ht rfl);go_wp2;go_meet;exact⟨_,rfl,(λ_=>⟨hb0.out,ht.out⟩),hb⟩
 obtain⟨r,rfl,hr,hb⟩:=hcut;replace hR:=hR.kp hb;have hBb:=hb.mono hBw;cases r;rotate_left
 ·go_wp2;go_ret2;exact⟨ABJ (by decide),hBb⟩
 obtain⟨WJ,hl3,hnm⟩:=hr rfl;have Fw:(1:Int)<l.length:=by omega
 have Qj:(2:Int)<l.length:=by omega
 have C8:1<l.length:=by omega
 have LQ:2<l.length:=by omega
 obtain⟨s1,s2,hg,hz1,hz2,d1,d2⟩:=KF hl hl3 hz;have hag:a.block<B:=A9 (World.block_lt_of_cell? w0 ⟨a.block,a.off+1,cX⟩ d1) hB;rw[hg]at hnm;replace d1:=AA (AB h0 hb) d1;replace d2:=AA (AB h0 hb) d2;replace hnm:=Wx hnm;have BO:=hR.kp (Below.refl wc.heap.size wc).drew;obtain⟨vc,xs,hc,hox,⟨pc,cc,rfl⟩,F,hsp,hF⟩:=BO.Tc;have hc':wc.cell? ⟨R,4,cX⟩=cP (cY pc q.fs.length cc):=hc;have hlen:q.fs.length<=k:=BO.qq.2.2.2.1;have EY:(cY pc q.fs.length cc).ownBlock≠cP R:=own_ne hox BO.typ (by decide);have DT:(cY pc q.fs.length cc).ownBlock≠cP a.block:=Ed hox hag;have hsz:B<=wc.drew.heap.size:=AX hBw hb.size;have Qi:=λw=>D8 (q.fs.length:Int) 8 w;go_wp2_with fail;refine(Qi _).mono ?_;rintro e w3 ⟨⟨r,rfl,hr2⟩,rfl⟩;go_wp2;refine ALR (S:=Ad wc.drew B 66 5 13 14 18 [cS s1,cS s2,cY cX 0 0,cY cX 0 0,cY cX 0 0] q.fs.length xs (cY pc q.fs.length cc) ⟨R,4,cX⟩) (Ad.start (AL)) ?_;iterate 13((refine AU.f (λz=>z.s.keep rfl rfl rfl) (λz=>have hs:=z.f 18;ALS (z.s.cellOf hs hc EY) (ALS (z.s.cellOf hs (show wc.drew.cell? ⟨a.block,a.off+1,cX⟩=cP (cS s1)from d1) DT) (z.s.cellOf hs (show wc.drew.cell? ⟨a.block,a.off+2,cX⟩=cP (cS s2)from d2) DT))) ?_))
 (apply AU.w rfl;intro V L w1 _ _ _ z hK;go_simp;exact hK rfl (z.s.made (z.o 14) rfl _);(try simp only[pE]));(refine Ad.aq (ACO) (underlying25) (hox) ?_;(try simp only[pE]));iterate 3((refine AU.f (λz=>z.s.keep rfl rfl rfl) (λz=>have hs:=z.f 18;ALS (z.s.cellOf hs hc EY) (ALS (z.s.cellOf hs (show wc.drew.cell? ⟨a.block,a.off+1,cX⟩=cP (cS s1)from d1) DT) (z.s.cellOf hs (show wc.drew.cell? ⟨a.block,a.off+2,cX⟩=cP (cS s2)from d2) DT))) ?_))
 (refine Ad.sv (λhS hi=>ALS (hS.cellOf hi hc EY) (hS.EA hi (o:=4) BO.lt (BO.Bw 4) EY)) ?_;simp only[Act.put]);refine AU.nil λV w1 hS=>?_;obtain⟨Dc,hb4⟩:=hS.Yq (d:=dFn ⟨s1,s2,[],[],[]⟩) (q':={q with fs:=q.fs++[⟨s1,s2,[],[],[]⟩]}) rfl rfl BO hsp hc hox (by simp) (by decide) (λw1 pb hlow hx=>⟨[]++([]++([]++[])),Af.of (AP.cc (hx.c 0 _ rfl) rfl (AP.cc (hx.c 1 _ rfl) rfl (AP.cr (l:=[]) (hx.c 2 _ rfl) AZ.nil (AP.cr (l:=[]) (hx.c 3 _ rfl) AZ.nil (AP.cr (l:=[]) (hx.c 4 _ rfl) AZ.nil AP.cn))))),by simp⟩) rfl rfl (by rw[<-hF,List.map_append];rfl) ⟨BO.qq.1.up (Aa) λ_ h=>QW.up (Aa) h,BO.qq.2.1.up (Aa) λ_ h=>h,BO.qq.2.2.1.up (Aa) λ_ h=>h,BO.qq.2.2.2.snoc (λ_ h=>QV.up (Aa) h) ⟨hz1,hz2,Rw.nil,Rw.nil,Rw.nil⟩⟩ ⟨BO.ss.r,BO.ss.c,(λ_=>by simp),(λh1 h2=>by omega),λh1 h2=>by omega⟩ hk;have hb5:=(hBb.trans ((Below.refl wc.heap.size wc).drew.mono (AX hBw hb.size))).trans hb4;have c5:=Dc.cw;have f5:=Dc.Bw 5;have CS:=Dc.setW 3 ⟨by omega,(λh=>absurd h (by decide)),(λ_=>by simp),(λh=>absurd h (by decide)),λh=>absurd h (by decide)⟩;have hb6:=hb5.trans (Dc.low (cI cJ 3) 5);have c6:=CS.cl;have f6:=CS.Bw 6;have ES:=CS.qH 0 (by omega);have BJ:=hb6.trans (CS.low (cI cJ 0) 6);go_wp2;go_ret2;exact⟨⟨_,_,rfl,(λ_ _=>⟨_,_,_,_,ES⟩),λh=>by cases h⟩,BJ⟩
end
section
open Word Num Dp
theorem Sj(h0:AA6 w0 w)(hR:Ct w B N R q wh lg k)(hB:w0.heap.size<=B)(hk:k+1<=5000000)(hl:Row DL 1 w0 u l)(hz:Wz l)(hp:0<l.length)(hw:l[0]=⟨#[101,120,116,101,114,110]⟩):Calls prog 213 #[.pointer (cP ⟨R,0,cX⟩),u] w λe w'=>Gb w B R k e w'/\Below B w w':=by
 obtain⟨p,c,rfl⟩:=hl.slice;obtain⟨a,rfl,-⟩:=CV hl hp;have d0:=AA h0 (Bg hl hp);rw[hw]at d0;have PV:(0:Int)<l.length:=by omega
 have hBw:B<=w.heap.size:=by have:=hR.own.ge;have:=hR.lt;omega
 go_enter func213,ntmps213;go_upto_region 26 with fail;go_cut[178]from 163 to 177 (λv wx=>∃r:Bool,v=cE r/\(r=cA->(wh<=2\/wh=9)/\l.length=3/\nm (l.getD 1 Bv)=cC)/\AA6 w wx)
 ·have hO:=Ey hR;go_wp2_with fail;refine hO.mono ?_;rintro e w2 ⟨⟨b,rfl,hb0⟩,rfl⟩;cases b
  ·go_wp2;go_meet;exact⟨_,rfl,(λh=>by cases h),AL⟩
  replace hb0:=hb0 rfl;replace hb0:=Wx hb0
  cases h2:((l.length:Int) !=3)with
  |true=>
   go_wp2;go_meet
   exact⟨_,rfl,(λh=>by cases h),AL⟩
  |false=>
   have hl2:l.length=3:=by
    have:(l.length:Int)=3:=(by simpa using h2);omega
   have C8:1<l.length:=(by omega);have Fw:(1:Int)<l.length:=(by omega);obtain⟨_,rfl,hz1,d1⟩:=EN hl C8 hz;replace d1:=AA h0 d1;generalize l.getD 1 Bv=s1 at*;have hb:=AJ w (.cells #[cS s1] 9);have hN:=Bn (Below.refl (w.alloc (.cells #[cS s1] 9)).heap.size _) (DN (l:=[s1]) (Ae.alloc w [cS s1] 9) ⟨show 1<=10000000 by decide,by simpa using hz1⟩);simp only[List.length_cons,List.length_nil,Nat.zero_add,List.all_cons,List.all_nil,Bool.and_true]at hN;replace hl2:=Wx hl2;generalize hv:nm s1=v at*;replace hv:=Wx hv;go_wp2_with fail;refine hN.mono ?_;rintro e w3 ⟨rfl,rfl⟩;cases v
   ·go_wp2;go_meet;exact⟨_,rfl,(λh=>by cases h),hb⟩
   ·go_wp2;go_meet;exact⟨_,rfl,(λ_=>⟨hb0.out,hl2.out,by trivial⟩),hb⟩
 obtain⟨r,rfl,hr,hb⟩:=hcut;replace hR:=hR.kp hb;have hBb:=hb.mono hBw;cases r;rotate_left
 ·go_wp2;go_ret2;exact⟨ABJ (by decide),hBb⟩
 obtain⟨WJ,hl3,hnm⟩:=hr rfl;have Fw:(1:Int)<l.length:=by omega
 have Qj:(2:Int)<l.length:=by omega
 have C8:1<l.length:=by omega
 have LQ:2<l.length:=by omega
 obtain⟨s1,s2,hg,hz1,hz2,d1,d2⟩:=KF hl hl3 hz;have hag:a.block<B:=A9 (World.block_lt_of_cell? w0 ⟨a.block,a.off+1,cX⟩ d1) hB;rw[hg]at hnm;replace d1:=AA (AB h0 hb) d1;replace d2:=AA (AB h0 hb) d2;replace hnm:=Wx hnm;have hG:=λw=>JU s2 hz2 w;go_wp2_with fail;refine(hG _).mono ?_;rintro e w4 ⟨⟨n,b,rfl,-⟩,hb4⟩;replace hR:=hR.kp hb4;replace hBb:=hBb.trans (hb4.mono (AX hBw hb.size));have hb:=AB hb hb4;replace d1:=AA hb4 d1;replace d2:=AA hb4 d2;go_upto_region 29 with fail;go_cut[195]from 186 to 194 (λv wx=>∃r:Bool,v=cE r/\(r=cA->0<=n/\n<=8)/\wx=w4)
 ·cases b
  ·go_wp2;go_meet;exact⟨_,rfl,(λh=>by cases h),rfl⟩
  cases hn1:decide (n<0)with
  |true=>
   go_wp2;go_meet
   exact⟨_,rfl,(λh=>by cases h),rfl⟩
  |false=>
   have hn2:=CJ hn1;replace hn2:=Wx hn2;go_wp2;go_meet;exact⟨_,rfl,(λh=>⟨by have:=hn2.out;omega,by have:=CJ h;omega⟩),rfl⟩
 obtain⟨r,rfl,hr,rfl⟩:=hcut;cases r;rotate_left
 ·go_wp2;go_ret2;exact⟨ABJ (by decide),hBb⟩
 have BO:=hR.kp (Below.refl wc.heap.size wc).drew;obtain⟨vc,xs,hc,hox,⟨pc,cc,rfl⟩,F,hsp,hF⟩:=BO.ADT;have hc':wc.cell? ⟨R,3,cX⟩=cP (cY pc q.xs.length cc):=hc;have hlen:q.xs.length<=k:=BO.qq.2.2.1.1;have EY:(cY pc q.xs.length cc).ownBlock≠cP R:=own_ne hox BO.typ (by decide);have DT:(cY pc q.xs.length cc).ownBlock≠cP a.block:=Ed hox hag;have hsz:B<=wc.drew.heap.size:=AX hBw hb.size;have Qi:=λw=>D8 (q.xs.length:Int) 8 w;go_wp2_with fail;refine(Qi _).mono ?_;rintro e w3 ⟨⟨r,rfl,hr2⟩,rfl⟩;go_wp2;refine ALR (S:=Ad wc.drew B 155 2 11 12 16 [cS s1,cI cJ n] q.xs.length xs (cY pc q.xs.length cc) ⟨R,3,cX⟩) (Ad.start (AL)) ?_;iterate 11((refine AU.f (λz=>z.s.keep rfl rfl rfl) (λz=>have hs:=z.f 16;ALS (z.s.cellOf hs hc EY) (z.s.cellOf hs (show wc.drew.cell? ⟨a.block,a.off+1,cX⟩=cP (cS s1)from d1) DT)) ?_))
 (apply AU.w rfl;intro V L w1 _ _ _ z hK;go_simp;exact hK rfl (z.s.made (z.o 12) rfl _);(try simp only[pE]));(refine Ad.aq (AAG) (underlying24) (hox) ?_;(try simp only[pE]));iterate 3((refine AU.f (λz=>z.s.keep rfl rfl rfl) (λz=>have hs:=z.f 16;ALS (z.s.cellOf hs hc EY) (z.s.cellOf hs (show wc.drew.cell? ⟨a.block,a.off+1,cX⟩=cP (cS s1)from d1) DT)) ?_))
 (refine Ad.sv (λhS hi=>ALS (hS.cellOf hi hc EY) (hS.EA hi (o:=3) BO.lt (BO.Bw 3) EY)) ?_;simp only[Act.put]);refine AU.nil λV w1 hS=>?_;obtain⟨Dc,hb4⟩:=hS.Yq (d:=nS ⟨s1,n⟩) (q':={q with xs:=q.xs++[⟨s1,n⟩]}) rfl rfl BO hsp hc hox (by simp) (by decide) (λw1 pb hlow hx=>⟨[],Af.of (AP.cc (hx.c 0 _ rfl) rfl (AP.cc (hx.c 1 _ rfl) rfl AP.cn)),by simp⟩) rfl rfl (by rw[<-hF,List.map_append];rfl) ⟨BO.qq.1.up (Aa) λ_ h=>QW.up (Aa) h,BO.qq.2.1.up (Aa) λ_ h=>h,BO.qq.2.2.1.snoc (λ_ h=>h) ⟨hnm.out,hz1⟩,BO.qq.2.2.2.up (Aa) λ_ h=>QV.up (Aa) h⟩ ⟨BO.ss.r,BO.ss.c,BO.ss.f,BO.ss.b,BO.ss.i⟩ hk;have hb5:=(hBb.trans ((Below.refl wc.heap.size wc).drew.mono (AX hBw hb.size))).trans hb4;have c5:=Dc.cw;have f5:=Dc.Bw 5;have CS:=Dc.setW 2 ⟨by omega,(λh=>absurd h (by decide)),(λh=>absurd h (by decide)),(λh=>absurd h (by decide)),λh=>absurd h (by decide)⟩;have hb6:=hb5.trans (Dc.low (cI cJ 2) 5);go_wp2;go_ret2;exact⟨⟨_,_,rfl,(λ_ _=>⟨_,_,_,_,CS⟩),λh=>by cases h⟩,hb6⟩
theorem U2(h0:AA6 w0 w)(hR:Ct w B N R q wh lg k)(hB:w0.heap.size<=B)(hk:k+1<=5000000)(hl:Row DL 1 w0 u l)(hz:Wz l)(hp:0<l.length)(hw:l[0]=⟨#[102,105,101,108,100]⟩):Calls prog 213 #[.pointer (cP ⟨R,0,cX⟩),u] w λe w'=>Gb w B R k e w'/\Below B w w':=by
 obtain⟨p,c,rfl⟩:=hl.slice;obtain⟨a,rfl,-⟩:=CV hl hp;have d0:=AA h0 (Bg hl hp);rw[hw]at d0;have PV:(0:Int)<l.length:=by omega
 have hBw:B<=w.heap.size:=by have:=hR.own.ge;have:=hR.lt;omega
 go_enter func213,ntmps213;go_upto_region 11 with fail;go_cut[74]from 65 to 73 (λv wx=>∃r:Bool,v=cE r/\(r=cA->(wh=1)/\l.length=3/\nm (l.getD 1 Bv)=cC)/\AA6 w wx)
 ·have hT:=Gr h0 hl hz;have cw:=hR.cw
  cases hw1:((wh:Int) !=1)with
  |false=>
   have hb0:wh=1:=(by have:(wh:Int)=1:=(by simpa using hw1);omega);replace hb0:=Wx hb0;go_wp2_with fail;refine hT.mono ?_;rintro e w3 ⟨⟨b,rfl,ht⟩,hb⟩;cases b
   ·go_wp2;go_meet;exact⟨_,rfl,(λh=>by cases h),hb⟩
   ·replace ht:=Wx (ht rfl);go_wp2;go_meet
    exact⟨_,rfl,(λ_=>⟨hb0.out,ht.out⟩),hb⟩
  |true=>
   go_wp2;go_meet;exact⟨_,rfl,(λh=>by cases h),AL⟩
 obtain⟨r,rfl,hr,hb⟩:=hcut;replace hR:=hR.kp hb;have hBb:=hb.mono hBw;cases r;rotate_left
 ·go_wp2;go_ret2;exact⟨ABJ (by decide),hBb⟩
 obtain⟨WJ,hl3,hnm⟩:=hr rfl;have Fw:(1:Int)<l.length:=by omega
 have Qj:(2:Int)<l.length:=by omega
 have C8:1<l.length:=by omega
 have LQ:2<l.length:=by omega
 obtain⟨s1,s2,hg,hz1,hz2,d1,d2⟩:=KF hl hl3 hz;have hag:a.block<B:=A9 (World.block_lt_of_cell? w0 ⟨a.block,a.off+1,cX⟩ d1) hB;rw[hg]at hnm;replace d1:=AA (AB h0 hb) d1;replace d2:=AA (AB h0 hb) d2;replace hnm:=Wx hnm;obtain⟨cr,c0,hq⟩:∃cr c0,q.cs=cr++[c0]:=by
  rcases List.eq_nil_or_concat q.cs with h|⟨cr,c0,h⟩
  ·exact absurd h (hR.ss.c WJ)
  ·exact⟨cr,c0,by rw[h,List.concat_eq_append]⟩
 have BO:=hR.kp (Below.refl wc.heap.size wc).drew;obtain⟨CB,cap,F,vc,xs,hc1,hCT,⟨hc,hox,⟨pc,cc,rfl⟩,hsp,-⟩,hF⟩:=BO.AAS hq;have hc1':wc.cell? ⟨R,1,cX⟩=cP (cY (cP ⟨CB,0,cX⟩) (cr.length+1) cap):=hc1;have hc':wc.cell? ⟨CB,cr.length*2+1,cX⟩=cP (cY pc c0.fs.length cc):=hc;have hqc:=BO.qq.1;rw[hq]at hqc;have hlen:c0.fs.length<=k:=hqc.last.2.2.1;have hlr:cr.length+1<=k:=by simpa using hqc.1
 have hkk:=BO.kk;have hix:((cr.length+1:Nat):Int)-1=(cr.length:Int):=by omega
 have Ns:(cr.length:Int)<(cr.length:Int)+1:=by omega
 have EY:(cY pc c0.fs.length cc).ownBlock≠cP R:=own_ne hox BO.typ (by decide);have DT:(cY pc c0.fs.length cc).ownBlock≠cP a.block:=Ed hox hag;have hsz:B<=wc.drew.heap.size:=AX hBw hb.size;have jA:(cY pc c0.fs.length cc).ownBlock≠cP CB:=own_ne hox hCT (by decide);have Qi:=λw=>D8 (c0.fs.length:Int) 8 w;go_wp2_with fail;refine(Qi _).mono ?_;rintro e w3 ⟨⟨r,rfl,hr2⟩,rfl⟩;by_cases hr0:r=0;rotate_left
 ·have ADk:(r==0)=cA:=by simpa using hr0
  go_wp2;go_ret2;exact⟨⟨_,_,rfl,(λ_ h=>absurd h hr0),λh=>by cases h⟩,hBb⟩
 subst hr0;go_wp2;refine ALR (S:=Ad wc.drew B 71 2 22 23 26 [cS s1,cS s2] c0.fs.length xs (cY pc c0.fs.length cc) ⟨CB,cr.length*2+1,cX⟩) (Ad.start (AL)) ?_;iterate 22((refine AU.f (λz=>z.s.keep rfl rfl rfl) (λz=>have hs:=z.f 26;ALS (z.s.cellOf hs hc1 EY) (ALS (z.s.cellOf hs hc jA) (ALS (z.s.cellOf hs (show wc.drew.cell? ⟨a.block,a.off+1,cX⟩=cP (cS s1)from d1) DT) (z.s.cellOf hs (show wc.drew.cell? ⟨a.block,a.off+2,cX⟩=cP (cS s2)from d2) DT)))) ?_))
 (apply AU.w rfl;intro V L w1 _ _ _ z hK;go_simp;exact hK rfl (z.s.made (z.o 23) rfl _);(try simp only[pE]));(refine Ad.aq (Q9) (underlying23) (hox) ?_;(try simp only[pE]));iterate 2((refine AU.f (λz=>z.s.keep rfl rfl rfl) (λz=>have hs:=z.f 26;ALS (z.s.cellOf hs hc1 EY) (ALS (z.s.cellOf hs hc jA) (ALS (z.s.cellOf hs (show wc.drew.cell? ⟨a.block,a.off+1,cX⟩=cP (cS s1)from d1) DT) (z.s.cellOf hs (show wc.drew.cell? ⟨a.block,a.off+2,cX⟩=cP (cS s2)from d2) DT)))) ?_))
 (refine Ad.sv (λhS hi=>ALS (hS.cellOf hi hc jA) (hS.EA hi (o:=cr.length*2+1) hCT.lt (hCT.Bw _) jA)) ?_;simp only[Act.put]);refine AU.nil λV w1 hS=>?_;obtain⟨Dc,hb4⟩:=hS.Yq (d:=IQ ⟨s1,s2⟩) (q':={q with cs:=cr++[{c0 with fs:=c0.fs++[⟨s1,s2⟩]}]}) rfl rfl BO hsp hc hox (by simp) (by decide) (λw1 pb hlow hx=>⟨[],Af.of (AP.cc (hx.c 0 _ rfl) rfl (AP.cc (hx.c 1 _ rfl) rfl AP.cn)),by simp⟩) rfl rfl (by rw[<-hF,List.map_append];rfl) ⟨hqc.turn (Aa) (λ_ h=>QW.up (Aa) h) ⟨hqc.last.1,hqc.last.2.1,hqc.last.2.2.snoc (λ_ h=>h) ⟨hz1,hz2⟩⟩,BO.qq.2.1.up (Aa) λ_ h=>h,BO.qq.2.2.1.up (Aa) λ_ h=>h,BO.qq.2.2.2.up (Aa) λ_ h=>QV.up (Aa) h⟩ ⟨BO.ss.r,(λ_=>by simp),(λh=>by omega),(λh=>by omega),λh=>by omega⟩ hk;have hb5:=(hBb.trans ((Below.refl wc.heap.size wc).drew.mono (AX hBw hb.size))).trans hb4;go_wp2;go_ret2;exact⟨⟨_,_,rfl,(λ_ _=>⟨_,_,_,_,Dc⟩),λh=>by cases h⟩,hb5⟩
end
section
open Word Num Dp
def ny:(prog.info? 82).map (λi=>(i.zero,i.size,i.bytes))=cP (cP (.agg #[cS .empty,cY cX 0 0,cY cX 0 0,cI cJ 0,cI cJ 0,cS .empty,cI cJ 0,cY cX 0 0,cI cJ 0]),9,136):=by kernel_rfl
theorem Pz{x:Tm}{v:Value}{F:List Nat}(c0:w.cell? ⟨g,o,cX⟩=cP (cI cJ x.k))(c1:w.cell? ⟨g,o+1,cX⟩=cP (cI cJ x.a.k))(c2:w.cell? ⟨g,o+2,cX⟩=cP (cS x.a.s))(c3:w.cell? ⟨g,o+3,cX⟩=cP (cI cJ x.a.n))(c4:w.cell? ⟨g,o+4,cX⟩=cP v)(c5:w.cell? ⟨g,o+5,cX⟩=cP (cI cJ x.n))(hv:AZ w B 9 1 (x.to.map dS) v F):Af w B (TW x) g o (F++[]):=
 Af.of (AP.cc c0 rfl (AP.ca (l:=[dN x.a.k,dS x.a.s,dN x.a.n]) (f1:=[]) (AP.cc c1 rfl (AP.cc c2 rfl (AP.cc c3 rfl AP.cn))) (AP.cr (by simpa[Dt.DF,Dt.wd,dN,dS]using c4) hv (AP.cc (by simpa[Dt.DF,Dt.wd,dN,dS]using c5) rfl AP.cn))))
def Fa{s c:ByteArray}(h:s≠c){l:List UInt8}(hc:c.data.toList=l):(s.toList==l)=cA:=by
 rw[beq_eq_false_iff_ne];intro e;rw[ByteArray.toList_eq,<-hc]at e;exact h (ByteArray.ext (Array.toList_inj.1 e))
end
section
open Word Num Dp
def AAE:(prog.info? 213).map (λi=>(i.zero,i.size,i.bytes))=cP (cP (.agg #[cS .empty,cI cJ 0,cS .empty,cI cJ 0]),4,48):=by kernel_rfl
theorem AZ.addr{s:Nat}{e:TypeId}{l:List Dt}{fp:List Nat}(h:AZ w B e s l (cY (cP a) n c) fp):∃g,a=⟨g,0,cX⟩:=by
 rcases h with⟨h1,_⟩|⟨g,_,_,_,h1,_⟩
 ·cases h1
 grind
def Own.ph{p:Ph}(h:Own w B N (PZ p) g o):∃v fp,w.cell? ⟨g,o,cX⟩=cP (cS p.d)/\w.cell? ⟨g,o+1,cX⟩=cP v/\AZ w B 213 4 (p.is.map xG) v fp/\fp.Nodup:=by
 obtain⟨fp,hL,hn,-⟩:=h.t;unfold PZ dS Af AP at hL;obtain⟨f1,f2,rfl,h1,h2⟩:=hL;unfold Af at h1;unfold AP at h2;obtain⟨h3,rfl,-⟩:=h1;obtain⟨f3,f4,rfl,h4,h5⟩:=h2;unfold AP at h5;subst h5;obtain⟨v,hc,hv⟩:=h4.row;exact⟨v,_,h3,by simpa[Dt.wd]using hc,hv,by simpa using(BN.1 hn).2⟩
def AAC:(prog.info? 211).map (λi=>(i.zero,i.size,i.bytes))=cP (cP (.agg #[cS .empty,cY cX 0 0]),2,40):=by kernel_rfl
theorem dH(h0:AA6 w0 w)(hR:Ct w B N R q wh lg k)(hB:w0.heap.size<=B)(hk:k+1<=5000000)(hl:Row DL 1 w0 u l)(hz:Wz l)(hp:0<l.length):Calls prog 214 #[.pointer (cP ⟨R,0,cX⟩),u] w λe w'=>Gb w B R k e w'/\Below B w w':=by
 obtain⟨p,c,rfl⟩:=hl.slice;obtain⟨a,rfl,-⟩:=CV hl hp;have d0:=AA h0 (Bg hl hp);have PV:(0:Int)<l.length:=by omega
 have hBw:B<=w.heap.size:=by have:=hR.own.ge;have:=hR.lt;omega
 obtain⟨vF,xsF,J7,-,⟨pF,cF,rfl⟩,-⟩:=hR.Tc;have hal:=AJ w (.cells #[cS ⟨#[]⟩,cS ⟨#[]⟩,cY cX 0 0,cY cX 0 0,cY cX 0 0] 66);have II:=AA hal J7;go_enter func214,ntmps214;go_upto_if 23 with fail;generalize hW:w.alloc _=W at*;go_cut[6]from 23 to 36 (λv wx=>(∃a6,v=.pointer (cP a6)/\∀(fr:List Fn) (f:Fn) (FB cap:Nat),q.fs=fr++[f]->wx.cell? ⟨R,4,cX⟩=cP (cY (cP ⟨FB,0,cX⟩) (fr.length+1) cap)->a6=⟨FB,fr.length*5,cX⟩)/\AA6 w wx)
 ·rcases List.eq_nil_or_concat q.fs with hq|⟨fr,f,hq⟩
  ·have WU:q.fs.length=0:=(by rw[hq];rfl);have Fw:¬(0:Int)<q.fs.length:=(by omega);have C8:¬0<q.fs.length:=(by omega);replace hq:=Wx hq;replace WU:=Wx WU;go_wp2;go_meet;exact⟨⟨_,rfl,λfr f FB cap h _=>by rw[hq.out]at h;simp at h⟩,hal⟩
  ·rw[List.concat_eq_append]at hq;obtain⟨FB,cap,hL⟩:=(hR.kp hal).Fy hq;have TJ:=hL.lc;obtain⟨rfl,hn,rfl⟩:pF=cP ⟨FB,0,cX⟩/\q.fs.length=fr.length+1/\cF=cap:=by
    rw[II]at TJ;simpa using TJ
   have Fw:(0:Int)<q.fs.length:=(by omega);have C8:0<q.fs.length:=(by omega);have hlen:q.fs.length<=k:=hR.qq.2.2.2.1;have hkk:=hR.kk;have hix:(q.fs.length:Int)-1=(fr.length:Int):=(by omega);have Ns:(fr.length:Int)<q.fs.length:=(by omega);have Pm:fr.length<q.fs.length:=(by omega);have hwr:=wrN (n:=fr.length) (by omega);replace hq:=Wx hq;replace hn:=Wx hn;go_wp2;simp only[decide_eq_true C8];refine ALQ (S:=λ_ v=>AA6 W v) Ac ?_;(iterate 14((refine Ab.f (λz=>z.s) (λz=>AA z.s II) ?_)));refine Ab.nil λw4 Bb=>?_;go_wp2;go_meet
   ·exact⟨⟨_,rfl,λfr' f' TY cap' h h2=>by
    rw[hq.out]at h;obtain⟨rfl,-⟩:=List.append_inj' h rfl;rw[AA Bb II]at h2;obtain⟨rfl,-⟩:FB=TY/\_:=by simpa using h2
    rfl⟩,AB hal Bb⟩
 obtain⟨⟨a6,rfl,h6⟩,hb1⟩:=hcut;obtain⟨w1,rfl⟩:=again wc;replace hR:=hR.kp hb1;replace d0:=AA hb1 d0;replace h0:=AB h0 hb1;have hBa:=hb1.mono hBw;replace hBw:B<=w1.heap.size:=AX hBw hb1.size;have hR0:=hR;by_cases e1:l[0]=⟨#[112,97,114,97,109]⟩
 ·rw[e1]at d0;go_upto_region 6 with fail;go_cut[51]from 42 to 50 (λv wx=>∃r:Bool,v=cE r/\(r=cA->(wh=3)/\l.length=3/\nm (l.getD 1 Bv)=cC)/\AA6 w1 wx)
  ·have hT:=Gr h0 hl hz;have cw:=hR.cw
   cases hw3:((wh:Int) !=3)with
   |false=>
    have hb0:wh=3:=(by have:(wh:Int)=3:=(by simpa using hw3);omega);replace hb0:=Wx hb0;go_wp2_with fail;refine hT.mono ?_;rintro e w3 ⟨⟨b,rfl,ht⟩,hb⟩;cases b
    ·go_wp2;go_meet;exact⟨_,rfl,(λh=>by cases h),hb⟩
    ·replace ht:=Wx (ht rfl);go_wp2;go_meet
     exact⟨_,rfl,(λ_=>⟨hb0.out,ht.out⟩),hb⟩
   |true=>
    go_wp2;go_meet;exact⟨_,rfl,(λh=>by cases h),AL⟩
  obtain⟨r,rfl,hr,hb⟩:=hcut;replace hR:=hR.kp hb;have hBb:=hBa.trans (hb.mono hBw);cases r;rotate_left
  ·go_wp2;go_ret2;exact⟨ABJ (by decide),hBb⟩
  obtain⟨WJ,hl3,hnm⟩:=hr rfl;have Fw:(1:Int)<l.length:=by omega
  have Qj:(2:Int)<l.length:=by omega
  have C8:1<l.length:=by omega
  have LQ:2<l.length:=by omega
  obtain⟨s1,s2,hg,hz1,hz2,d1,d2⟩:=KF hl hl3 hz;have hag:a.block<B:=A9 (World.block_lt_of_cell? w0 ⟨a.block,a.off+1,cX⟩ d1) hB;rw[hg]at hnm;replace d1:=AA (AB h0 hb) d1;replace d2:=AA (AB h0 hb) d2;replace hnm:=Wx hnm;obtain⟨fr,f,hq⟩:∃fr f,q.fs=fr++[f]:=by
   rcases List.eq_nil_or_concat q.fs with h|⟨fr,f,h⟩
   ·exact absurd h (hR.ss.f (by omega))
   ·exact⟨fr,f,by rw[h,List.concat_eq_append]⟩
  have BO:=hR.kp (Below.refl wc.heap.size wc).drew;obtain⟨FB,cap,hL⟩:=BO.Fy hq;obtain⟨F,vc,xs,⟨hc,hox,⟨pc,cc,rfl⟩,hsp,-⟩,hF⟩:=hL.lp;have LP:=hL.lt
  obtain rfl:a6=⟨FB,fr.length*5,cX⟩:=h6 fr f FB cap hq (by
   have e:=hL.lc;change wc.cell? ⟨R,4,cX⟩=_ at e;rw[hb.cell hR0.lt]at e
   exact e)
  have hc':wc.cell? ⟨FB,fr.length*5+2,cX⟩=cP (cY pc f.ps.length cc):=hc;have Da:=BO.qq.2.2.2;rw[hq]at Da;have hlen:f.ps.length<=k:=Da.last.2.2.1.1;have hkk:=BO.kk;have EY:(cY pc f.ps.length cc).ownBlock≠cP R:=own_ne hox BO.typ (by decide);have DT:(cY pc f.ps.length cc).ownBlock≠cP a.block:=Ed hox hag;have hsz:B<=wc.drew.heap.size:=AX hBw hb.size;have EK:(cY pc f.ps.length cc).ownBlock≠cP FB:=own_ne hox LP (by decide);have Qi:=λw=>D8 (f.ps.length:Int) 6 w;go_wp2_with fail;refine(Qi _).mono ?_;rintro e w3 ⟨⟨r,rfl,hr2⟩,rfl⟩;go_wp2;refine ALR (S:=Ad wc.drew B 71 2 12 13 16 [cS s1,cS s2] f.ps.length xs (cY pc f.ps.length cc) ⟨FB,fr.length*5+2,cX⟩) (Ad.start (AL)) ?_;iterate 12((refine AU.f (λz=>z.s.keep rfl rfl rfl) (λz=>have hs:=z.f 16;ALS (z.s.cellOf hs hc EK) (ALS (z.s.cellOf hs (show wc.drew.cell? ⟨a.block,a.off+1,cX⟩=cP (cS s1)from d1) DT) (z.s.cellOf hs (show wc.drew.cell? ⟨a.block,a.off+2,cX⟩=cP (cS s2)from d2) DT))) ?_))
  (apply AU.w rfl;intro V L w1 _ _ _ z hK;go_simp;exact hK rfl (z.s.made (z.o 13) rfl _);(try simp only[pE]));(refine Ad.aq (Q9) (underlying23) (hox) ?_;(try simp only[pE]));iterate 2((refine AU.f (λz=>z.s.keep rfl rfl rfl) (λz=>have hs:=z.f 16;ALS (z.s.cellOf hs hc EK) (ALS (z.s.cellOf hs (show wc.drew.cell? ⟨a.block,a.off+1,cX⟩=cP (cS s1)from d1) DT) (z.s.cellOf hs (show wc.drew.cell? ⟨a.block,a.off+2,cX⟩=cP (cS s2)from d2) DT))) ?_))
  (refine Ad.sv (λhS hi=>ALS (hS.cellOf hi hc EK) (hS.EA hi (o:=fr.length*5+2) LP.lt (LP.Bw _) EK)) ?_;simp only[Act.put]);refine AU.nil λV w1 hS=>?_;obtain⟨Dc,hb4⟩:=hS.Yq (d:=IQ ⟨s1,s2⟩) (q':={q with fs:=fr++[{f with ps:=f.ps++[⟨s1,s2⟩]}]}) rfl rfl BO hsp hc hox (by simp) (by decide) (λw1 pb hlow hx=>⟨[],Af.of (AP.cc (hx.c 0 _ rfl) rfl (AP.cc (hx.c 1 _ rfl) rfl AP.cn)),by simp⟩) rfl rfl (by rw[<-hF,List.map_append];rfl) ⟨BO.qq.1.up (Aa) λ_ h=>QW.up (Aa) h,BO.qq.2.1.up (Aa) λ_ h=>h,BO.qq.2.2.1.up (Aa) λ_ h=>h,Da.turn (Aa) (λ_ h=>QV.up (Aa) h) ⟨Da.last.1,Da.last.2.1,Da.last.2.2.1.snoc (λ_ h=>h) ⟨hz1,hz2⟩,Da.last.2.2.2.1.up (Aa) λ_ h=>h,Da.last.2.2.2.2.up (Aa) λ_ h=>WI.up (Aa) h⟩⟩ ⟨BO.ss.r,(λh=>by omega),(λ_=>by simp),(λh=>by omega),λh=>by omega⟩ hk;have hb5:=(hBb.trans ((Below.refl wc.heap.size wc).drew.mono (AX hBw hb.size))).trans hb4;go_wp2;go_ret2;exact⟨⟨_,_,rfl,(λ_ _=>⟨_,_,_,_,Dc⟩),λh=>by cases h⟩,hb5⟩
 by_cases e2:l[0]=⟨#[118,97,114]⟩
 ·rw[e2]at d0;go_upto_region 12 with fail;go_cut[93]from 77 to 92 (λv wx=>∃r:Bool,v=cE r/\(r=cA->(wh=3\/wh=4)/\l.length=3/\nm (l.getD 1 Bv)=cC)/\AA6 w1 wx)
  ·have hT:=Gr h0 hl hz;have cw:=hR.cw
   cases hw3:((wh:Int) !=3)with
   |false=>
    have hb0:wh=3\/wh=4:=(by have:(wh:Int)=3:=(by simpa using hw3);omega);replace hb0:=Wx hb0;go_wp2_with fail;refine hT.mono ?_;rintro e w3 ⟨⟨b,rfl,ht⟩,hb⟩;cases b
    ·go_wp2;go_meet;exact⟨_,rfl,(λh=>by cases h),hb⟩
    ·replace ht:=Wx (ht rfl);go_wp2;go_meet
     exact⟨_,rfl,(λ_=>⟨hb0.out,ht.out⟩),hb⟩
   |true=>
    cases hw4:((wh:Int) !=4)with
    |false=>
     have hb0:wh=3\/wh=4:=(by have:(wh:Int)=4:=(by simpa using hw4);omega);replace hb0:=Wx hb0;go_wp2_with fail;refine hT.mono ?_;rintro e w3 ⟨⟨b,rfl,ht⟩,hb⟩;cases b
     ·go_wp2;go_meet;exact⟨_,rfl,(λh=>by cases h),hb⟩
     ·replace ht:=Wx (ht rfl);go_wp2;go_meet
      exact⟨_,rfl,(λ_=>⟨hb0.out,ht.out⟩),hb⟩
    |true=>
     go_wp2;go_meet;exact⟨_,rfl,(λh=>by cases h),AL⟩
  obtain⟨r,rfl,hr,hb⟩:=hcut;replace hR:=hR.kp hb;have hBb:=hBa.trans (hb.mono hBw);cases r;rotate_left
  ·go_wp2;go_ret2;exact⟨ABJ (by decide),hBb⟩
  obtain⟨WJ,hl3,hnm⟩:=hr rfl;have Fw:(1:Int)<l.length:=by omega
  have Qj:(2:Int)<l.length:=by omega
  have C8:1<l.length:=by omega
  have LQ:2<l.length:=by omega
  obtain⟨s1,s2,hg,hz1,hz2,d1,d2⟩:=KF hl hl3 hz;have hag:a.block<B:=A9 (World.block_lt_of_cell? w0 ⟨a.block,a.off+1,cX⟩ d1) hB;rw[hg]at hnm;replace d1:=AA (AB h0 hb) d1;replace d2:=AA (AB h0 hb) d2;replace hnm:=Wx hnm;obtain⟨fr,f,hq⟩:∃fr f,q.fs=fr++[f]:=by
   rcases List.eq_nil_or_concat q.fs with h|⟨fr,f,h⟩
   ·exact absurd h (hR.ss.f (by omega))
   ·exact⟨fr,f,by rw[h,List.concat_eq_append]⟩
  have BO:=hR.kp (Below.refl wc.heap.size wc).drew;obtain⟨FB,cap,hL⟩:=BO.Fy hq;obtain⟨F,vc,xs,⟨hc,hox,⟨pc,cc,rfl⟩,hsp,-⟩,hF⟩:=hL.lv;have LP:=hL.lt
  obtain rfl:a6=⟨FB,fr.length*5,cX⟩:=h6 fr f FB cap hq (by
   have e:=hL.lc;change wc.cell? ⟨R,4,cX⟩=_ at e;rw[hb.cell hR0.lt]at e
   exact e)
  have hc':wc.cell? ⟨FB,fr.length*5+3,cX⟩=cP (cY pc f.vs.length cc):=hc;have Da:=BO.qq.2.2.2;rw[hq]at Da;have hlen:f.vs.length<=k:=Da.last.2.2.2.1.1;have hkk:=BO.kk;have EY:(cY pc f.vs.length cc).ownBlock≠cP R:=own_ne hox BO.typ (by decide);have DT:(cY pc f.vs.length cc).ownBlock≠cP a.block:=Ed hox hag;have hsz:B<=wc.drew.heap.size:=AX hBw hb.size;have EK:(cY pc f.vs.length cc).ownBlock≠cP FB:=own_ne hox LP (by decide);have Qi:=λw=>D8 (f.vs.length:Int) 1024 w;go_wp2_with fail;refine(Qi _).mono ?_;rintro e w3 ⟨⟨r,rfl,hr2⟩,rfl⟩;go_wp2;refine ALR (S:=Ad wc.drew B 71 2 12 13 16 [cS s1,cS s2] f.vs.length xs (cY pc f.vs.length cc) ⟨FB,fr.length*5+3,cX⟩) (Ad.start (AL)) ?_;iterate 12((refine AU.f (λz=>z.s.keep rfl rfl rfl) (λz=>have hs:=z.f 16;ALS (z.s.cellOf hs hc EK) (ALS (z.s.cellOf hs (show wc.drew.cell? ⟨a.block,a.off+1,cX⟩=cP (cS s1)from d1) DT) (z.s.cellOf hs (show wc.drew.cell? ⟨a.block,a.off+2,cX⟩=cP (cS s2)from d2) DT))) ?_))
  (apply AU.w rfl;intro V L w1 _ _ _ z hK;go_simp;exact hK rfl (z.s.made (z.o 13) rfl _);(try simp only[pE]));(refine Ad.aq (Q9) (underlying23) (hox) ?_;(try simp only[pE]));iterate 2((refine AU.f (λz=>z.s.keep rfl rfl rfl) (λz=>have hs:=z.f 16;ALS (z.s.cellOf hs hc EK) (ALS (z.s.cellOf hs (show wc.drew.cell? ⟨a.block,a.off+1,cX⟩=cP (cS s1)from d1) DT) (z.s.cellOf hs (show wc.drew.cell? ⟨a.block,a.off+2,cX⟩=cP (cS s2)from d2) DT))) ?_))
  (refine Ad.sv (λhS hi=>ALS (hS.cellOf hi hc EK) (hS.EA hi (o:=fr.length*5+3) LP.lt (LP.Bw _) EK)) ?_;simp only[Act.put]);refine AU.nil λV w1 hS=>?_;obtain⟨Dc,hb4⟩:=hS.Yq (d:=IQ ⟨s1,s2⟩) (q':={q with fs:=fr++[{f with vs:=f.vs++[⟨s1,s2⟩]}]}) rfl rfl BO hsp hc hox (by simp) (by decide) (λw1 pb hlow hx=>⟨[],Af.of (AP.cc (hx.c 0 _ rfl) rfl (AP.cc (hx.c 1 _ rfl) rfl AP.cn)),by simp⟩) rfl rfl (by rw[<-hF,List.map_append];rfl) ⟨BO.qq.1.up (Aa) λ_ h=>QW.up (Aa) h,BO.qq.2.1.up (Aa) λ_ h=>h,BO.qq.2.2.1.up (Aa) λ_ h=>h,Da.turn (Aa) (λ_ h=>QV.up (Aa) h) ⟨Da.last.1,Da.last.2.1,Da.last.2.2.1.up (Aa) λ_ h=>h,Da.last.2.2.2.1.snoc (λ_ h=>h) ⟨hz1,hz2⟩,Da.last.2.2.2.2.up (Aa) λ_ h=>WI.up (Aa) h⟩⟩ ⟨BO.ss.r,(λh=>by omega),(λ_=>by simp),(λh=>by omega),λh=>by omega⟩ hk;have hb5:=(hBb.trans ((Below.refl wc.heap.size wc).drew.mono (AX hBw hb.size))).trans hb4;have c5:=Dc.cw;have f5:=Dc.Bw 5;have CS:=Dc.setW 4 ⟨by omega,(λh=>absurd h (by decide)),(λ_=>by simp),(λh=>absurd h (by decide)),λh=>absurd h (by decide)⟩;have hb6:=hb5.trans (Dc.low (cI cJ 4) 5);go_wp2;go_ret2;exact⟨⟨_,_,rfl,(λ_ _=>⟨_,_,_,_,CS⟩),λh=>by cases h⟩,hb6⟩
 by_cases e3:l[0]=⟨#[98,108,111,99,107]⟩
 ·rw[e3]at d0;go_upto_region 19 with fail;go_cut[153]from 122 to 152 (λv wx=>∃r:Bool,v=cE r/\(r=cA->(wh=3\/wh=4\/wh=9)/\l.length=2/\nm (l.getD 1 Bv)=cC)/\AA6 w1 wx)
  ·have cw:=hR.cw
   cases hw3:((wh:Int) !=3)with
   |false=>
    have hb0:wh=3\/wh=4\/wh=9:=(by have:(wh:Int)=3:=(by simpa using hw3);omega);replace hb0:=Wx hb0
    cases h2:((l.length:Int) !=2)with
    |true=>
     go_wp2;go_meet
     exact⟨_,rfl,(λh=>by cases h),AL⟩
    |false=>
     have hl2:l.length=2:=by
      have:(l.length:Int)=2:=(by simpa using h2);omega
     have C8:1<l.length:=(by omega);have Fw:(1:Int)<l.length:=(by omega);obtain⟨_,rfl,hz1,d1⟩:=EN hl C8 hz;replace d1:=AA h0 d1;generalize l.getD 1 Bv=s1 at*;have hb:=AJ w1 (.cells #[cS s1] 9);have hN:=Bn (Below.refl (w1.alloc (.cells #[cS s1] 9)).heap.size _) (DN (l:=[s1]) (Ae.alloc w1 [cS s1] 9) ⟨show 1<=10000000 by decide,by simpa using hz1⟩);simp only[List.length_cons,List.length_nil,Nat.zero_add,List.all_cons,List.all_nil,Bool.and_true]at hN;replace hl2:=Wx hl2;generalize hv:nm s1=v at*;replace hv:=Wx hv;go_wp2_with fail;refine hN.mono ?_;rintro e w3 ⟨rfl,rfl⟩;cases v
     ·go_wp2;go_meet;exact⟨_,rfl,(λh=>by cases h),hb⟩
     ·go_wp2;go_meet
      exact⟨_,rfl,(λ_=>⟨hb0.out,hl2.out,by trivial⟩),hb⟩
   |true=>
    cases hw4:((wh:Int) !=4)with
    |false=>
     have hb0:wh=3\/wh=4\/wh=9:=(by have:(wh:Int)=4:=(by simpa using hw4);omega);replace hb0:=Wx hb0
     cases h2:((l.length:Int) !=2)with
     |true=>
      go_wp2;go_meet
      exact⟨_,rfl,(λh=>by cases h),AL⟩
     |false=>
      have hl2:l.length=2:=by
       have:(l.length:Int)=2:=(by simpa using h2);omega
      have C8:1<l.length:=(by omega);have Fw:(1:Int)<l.length:=(by omega);obtain⟨_,rfl,hz1,d1⟩:=EN hl C8 hz;replace d1:=AA h0 d1;generalize l.getD 1 Bv=s1 at*;have hb:=AJ w1 (.cells #[cS s1] 9);have hN:=Bn (Below.refl (w1.alloc (.cells #[cS s1] 9)).heap.size _) (DN (l:=[s1]) (Ae.alloc w1 [cS s1] 9) ⟨show 1<=10000000 by decide,by simpa using hz1⟩);simp only[List.length_cons,List.length_nil,Nat.zero_add,List.all_cons,List.all_nil,Bool.and_true]at hN;replace hl2:=Wx hl2;generalize hv:nm s1=v at*;replace hv:=Wx hv;go_wp2_with fail;refine hN.mono ?_;rintro e w3 ⟨rfl,rfl⟩;cases v
      ·go_wp2;go_meet;exact⟨_,rfl,(λh=>by cases h),hb⟩
      ·go_wp2;go_meet
       exact⟨_,rfl,(λ_=>⟨hb0.out,hl2.out,by trivial⟩),hb⟩
    |true=>
     cases hw9:((wh:Int) !=9)with
     |false=>
      have hb0:wh=3\/wh=4\/wh=9:=(by have:(wh:Int)=9:=(by simpa using hw9);omega);replace hb0:=Wx hb0
      cases h2:((l.length:Int) !=2)with
      |true=>
       go_wp2;go_meet
       exact⟨_,rfl,(λh=>by cases h),AL⟩
      |false=>
       have hl2:l.length=2:=by
        have:(l.length:Int)=2:=(by simpa using h2);omega
       have C8:1<l.length:=(by omega);have Fw:(1:Int)<l.length:=(by omega);obtain⟨_,rfl,hz1,d1⟩:=EN hl C8 hz;replace d1:=AA h0 d1;generalize l.getD 1 Bv=s1 at*;have hb:=AJ w1 (.cells #[cS s1] 9);have hN:=Bn (Below.refl (w1.alloc (.cells #[cS s1] 9)).heap.size _) (DN (l:=[s1]) (Ae.alloc w1 [cS s1] 9) ⟨show 1<=10000000 by decide,by simpa using hz1⟩);simp only[List.length_cons,List.length_nil,Nat.zero_add,List.all_cons,List.all_nil,Bool.and_true]at hN;replace hl2:=Wx hl2;generalize hv:nm s1=v at*;replace hv:=Wx hv;go_wp2_with fail;refine hN.mono ?_;rintro e w3 ⟨rfl,rfl⟩;cases v
       ·go_wp2;go_meet;exact⟨_,rfl,(λh=>by cases h),hb⟩
       ·go_wp2;go_meet
        exact⟨_,rfl,(λ_=>⟨hb0.out,hl2.out,by trivial⟩),hb⟩
     |true=>
      go_wp2;go_meet;exact⟨_,rfl,(λh=>by cases h),AL⟩
  obtain⟨r,rfl,hr,hb⟩:=hcut;replace hR:=hR.kp hb;have hBb:=hBa.trans (hb.mono hBw);cases r;rotate_left
  ·go_wp2;go_ret2;exact⟨ABJ (by decide),hBb⟩
  obtain⟨WJ,hl2,hnm⟩:=hr rfl;have Fw:(1:Int)<l.length:=by omega
  have C8:1<l.length:=by omega
  obtain⟨s1,hg,hz1,d1⟩:=EN hl C8 hz;have hag:a.block<B:=A9 (World.block_lt_of_cell? w0 ⟨a.block,a.off+1,cX⟩ d1) hB;replace d1:=AA (AB h0 hb) d1;obtain⟨fr,f,hq⟩:∃fr f,q.fs=fr++[f]:=by
   rcases List.eq_nil_or_concat q.fs with h|⟨fr,f,h⟩
   ·exact absurd h (hR.ss.f (by omega))
   ·exact⟨fr,f,by rw[h,List.concat_eq_append]⟩
  have BO:=hR.kp (Below.refl wc.heap.size wc).drew;obtain⟨FB,cap,hL⟩:=BO.Fy hq;obtain⟨F,vc,xs,⟨hc,hox,⟨pc,cc,rfl⟩,hsp,-⟩,hF⟩:=hL.lb;have LP:=hL.lt
  obtain rfl:a6=⟨FB,fr.length*5,cX⟩:=h6 fr f FB cap hq (by
   have e:=hL.lc;change wc.cell? ⟨R,4,cX⟩=_ at e;rw[hb.cell hR0.lt]at e
   exact e)
  have hc':wc.cell? ⟨FB,fr.length*5+4,cX⟩=cP (cY pc f.bs.length cc):=hc;have Da:=BO.qq.2.2.2;rw[hq]at Da;have hlen:f.bs.length<=k:=Da.last.2.2.2.2.1;have hkk:=BO.kk;have EY:(cY pc f.bs.length cc).ownBlock≠cP R:=own_ne hox BO.typ (by decide);have DT:(cY pc f.bs.length cc).ownBlock≠cP a.block:=Ed hox hag;have hsz:B<=wc.drew.heap.size:=AX hBw hb.size;have EK:(cY pc f.bs.length cc).ownBlock≠cP FB:=own_ne hox LP (by decide);have Qi:=λw=>D8 (f.bs.length:Int) 256 w;go_wp2_with fail;refine(Qi _).mono ?_;rintro e w3 ⟨⟨r,rfl,hr2⟩,rfl⟩;go_wp2;refine ALR (S:=Ad wc.drew B 82 9 9 10 13 [cS s1,cY cX 0 0,cY cX 0 0,cI cJ 0,cI cJ 0,cS ⟨#[]⟩,cI cJ 0,cY cX 0 0,cI cJ 0] f.bs.length xs (cY pc f.bs.length cc) ⟨FB,fr.length*5+4,cX⟩) (Ad.start (AL)) ?_;iterate 9((refine AU.f (λz=>z.s.keep rfl rfl rfl) (λz=>have hs:=z.f 13;ALS (z.s.cellOf hs hc EK) (z.s.cellOf hs (show wc.drew.cell? ⟨a.block,a.off+1,cX⟩=cP (cS s1)from d1) DT)) ?_))
  (apply AU.w rfl;intro V L w1 _ _ _ z hK;go_simp;exact hK rfl (z.s.made (z.o 10) rfl _);(try simp only[pE]));(refine Ad.aq (ny) (underlying64) (hox) ?_;(try simp only[pE]));iterate 2((refine AU.f (λz=>z.s.keep rfl rfl rfl) (λz=>have hs:=z.f 13;ALS (z.s.cellOf hs hc EK) (z.s.cellOf hs (show wc.drew.cell? ⟨a.block,a.off+1,cX⟩=cP (cS s1)from d1) DT)) ?_))
  (refine Ad.sv (λhS hi=>ALS (hS.cellOf hi hc EK) (hS.EA hi (o:=fr.length*5+4) LP.lt (LP.Bw _) EK)) ?_;simp only[Act.put]);refine AU.nil λV w1 hS=>?_;obtain⟨Dc,hb4⟩:=hS.Yq (d:=Pb ⟨s1,[],[],⟨0,⟨0,⟨#[]⟩,0⟩,[],0⟩⟩) (q':={q with fs:=fr++[{f with bs:=f.bs++[⟨s1,[],[],⟨0,⟨0,⟨#[]⟩,0⟩,[],0⟩⟩]}]}) rfl rfl BO hsp hc hox (by simp) (by decide) (λw1 pb hlow hx=>⟨[]++([]++(([]++[])++[])),Af.of (AP.cc (hx.c 0 _ rfl) rfl (AP.cr (l:=[]) (hx.c 1 _ rfl) AZ.nil (AP.cr (l:=[]) (hx.c 2 _ rfl) AZ.nil (AP.ca (l:=[dN 0,Ls ⟨0,⟨#[]⟩,0⟩,.row 9 1 [],dN 0]) (Pz (x:=⟨0,⟨0,⟨#[]⟩,0⟩,[],0⟩) (hx.c 3 _ rfl) (hx.c 4 _ rfl) (hx.c 5 _ rfl) (hx.c 6 _ rfl) (hx.c 7 _ rfl) (hx.c 8 _ rfl) AZ.nil).l AP.cn)))),by simp⟩) rfl rfl (by rw[<-hF,List.map_append];rfl) ⟨BO.qq.1.up (Aa) λ_ h=>QW.up (Aa) h,BO.qq.2.1.up (Aa) λ_ h=>h,BO.qq.2.2.1.up (Aa) λ_ h=>h,Da.turn (Aa) (λ_ h=>QV.up (Aa) h) ⟨Da.last.1,Da.last.2.1,Da.last.2.2.1.up (Aa) λ_ h=>h,Da.last.2.2.2.1.up (Aa) λ_ h=>h,Da.last.2.2.2.2.snoc (λ_ h=>WI.up (Aa) h) ⟨hz1,Rw.nil,Rw.nil,(λh=>absurd (show(0:Int)=1 from h) (by decide)),(λh=>absurd (show(0:Int)=2 from h) (by decide)),AY,Rw.nil⟩⟩⟩ ⟨BO.ss.r,(λh=>by omega),(λ_=>by simp),(λh=>by omega),λh=>by omega⟩ hk;have hb5:=(hBb.trans ((Below.refl wc.heap.size wc).drew.mono (AX hBw hb.size))).trans hb4;have c5:=Dc.cw;have f5:=Dc.Bw 5;have CS:=Dc.setW 5 ⟨by omega,(λh=>absurd h (by decide)),(λ_=>by simp),(λ_ _=>⟨fr,_,f.bs,_,rfl,rfl⟩),λh=>absurd h (by decide)⟩;have hb6:=hb5.trans (Dc.low (cI cJ 5) 5);go_wp2;go_ret2;exact⟨⟨_,_,rfl,(λ_ _=>⟨_,_,_,_,CS⟩),λh=>by cases h⟩,hb6⟩
 by_cases e4:l[0]=⟨#[112,104,105]⟩
 ·rw[e4]at d0;have hP:Calls prog 237 #[cY (cP a) l.length c,cI cJ 2,cE cA] w1 λe w'=>VY w1 w' 2 l.length e/\AA6 w1 w':=Oi h0 hl hz 2 (by decide) cA;go_wp2_with fail;refine hP.mono ?_;rintro e w2 ⟨⟨vb,b,bl,F,rfl,⟨pb,mb,cb,rfl⟩,hbl⟩,hb2⟩;have hR2:=hR.kp hb2;have h02:=AB h0 hb2;go_upto_region 27 with fail;go_cut[205]from 184 to 204 (λv wx=>∃r:Bool,v=cE r/\(r=cA->wh=5/\b=cC)/\AA6 w2 wx)
  ·have cw:=hR2.cw
   cases hw5:((wh:Int) !=5)with
   |true=>
    go_wp2;go_meet
    exact⟨_,rfl,(λh=>by cases h),AL⟩
   |false=>
    have hw:wh=5:=(by simpa using hw5);replace hw:=Wx hw;cases b
    ·go_wp2;go_meet;exact⟨_,rfl,(λh=>by cases h),AL⟩
    ·cases hm:((mb:Int)==0)with
     |true=>
      go_wp2;go_meet
      exact⟨_,rfl,(λh=>by cases h),AL⟩
     |false=>
      have h2l:=(hbl rfl).1;have C8:1<l.length:=(by omega);have Fw:(1:Int)<l.length:=(by omega);obtain⟨s1,hg,hz1,d1⟩:=EN hl C8 hz;replace d1:=AA h02 d1;have hb3:=AJ w2 (.cells #[cS s1] 9);have hN:=Bn (Below.refl (w2.alloc (.cells #[cS s1] 9)).heap.size _) (DN (l:=[s1]) (Ae.alloc w2 [cS s1] 9) ⟨show 1<=10000000 by decide,by simpa using hz1⟩);simp only[List.length_cons,List.length_nil,Nat.zero_add,List.all_cons,List.all_nil,Bool.and_true]at hN;generalize nm s1=v at hN;go_wp2_with fail;refine hN.mono ?_;rintro e w3 ⟨rfl,rfl⟩;go_wp2;go_meet;exact⟨_,rfl,(λ_=>⟨hw.out,by trivial⟩),hb3⟩
  obtain⟨r,rfl,hr,hb3⟩:=hcut;have hb:=AB hb2 hb3;have hBb:=hBa.trans (hb.mono hBw);cases r;rotate_left
  ·go_wp2;go_ret2;exact⟨ABJ (by decide),hBb⟩
  obtain⟨WJ,rfl⟩:=hr rfl;obtain⟨h2l,hbn,hbv,Nf,hbz⟩:=hbl rfl;clear hr hbl;replace hbv:=hbv.same (w':=wc) λb hb'=>hb3.block b (hbv.fp b hb').2;obtain⟨w4,rfl⟩:=again wc;replace hR:=hR.kp hb;obtain rfl:mb=bl.length:=by
   obtain⟨_,_,e⟩:=hbv.slice;rw[List.length_map]at e;exact(Value.slice.inj e).2.1
  have hrow:=hbv.view (E:=iQ) (ok:=oBd) aU (λx g o f h1 h2=>vB h1 h2) (by have:=hz.1;unfold Ln;omega) (λy hy=>⟨Tz.sz (hbz y hy).1,Tz.sz (hbz y hy).2⟩);obtain⟨_,_,e,-,⟨yJ,-⟩,hat⟩:=hrow;obtain⟨rfl,-,rfl⟩:=Value.slice.inj e;clear e;have hz1':=hz.1;have cl:=hR.cl;go_upto_region 29 with fail;go_cut[215]from 206 to 214 (λv wx=>∃r:Bool,v=cE r/\wx=w4)
  ·cases hg:decide ((256:Int)<(bl.length:Int))with
   |true=>
    have QZ:=BK hg;have hgN:256<bl.length:=(by omega);go_wp2;go_meet
    exact⟨_,rfl,rfl⟩
   |false=>
    have QZ:=CJ hg;have hgN:¬256<bl.length:=(by omega);go_wp2;go_meet;exact⟨_,rfl,rfl⟩
  obtain⟨r,rfl,rfl⟩:=hcut;cases r;rotate_left
  ·go_wp2;go_ret2;exact⟨ABJ (by decide),hBb⟩
  obtain⟨w4,rfl⟩:=again wc;have Fw:(1:Int)<l.length:=by omega
  have C8:1<l.length:=by omega
  obtain⟨s1,hg,hz1,d1⟩:=EN hl C8 hz;replace d1:=AA (AB h0 hb) d1;clear hg cl;have hal:=AJ w4 (.cells #[cS s1,cY cX 0 0] 211);have hX:=Ae.alloc w4 [cS s1,cY cX 0 0] 211;have wP:DC (w4.alloc (.cells #[cS s1,cY cX 0 0] 211)) w4.heap.size 211:=⟨_,heap_alloc_new w4 _⟩;have vJ:Own (w4.alloc (.cells #[cS s1,cY cX 0 0] 211)) w4.heap.size (w4.alloc (.cells #[cS s1,cY cX 0 0] 211)).heap.size (PZ ⟨s1,[]⟩) w4.heap.size 0:=
   ⟨AQ,by simp,AQ,[]++[],Af.of (AP.cc (hX.c 0 _ rfl) rfl (AP.cr (l:=[]) (hX.c 1 _ rfl) AZ.nil AP.cn)),by simp,by simp⟩
  go_upto_region 32 with fail;have qM:(w4.alloc (.cells #[cS s1,cY cX 0 0] 211)).heap.size=w4.heap.size+1:=by simp
  generalize pR:w4.alloc _=W5 at*;obtain⟨xb,hxb⟩:∃xb,w4.heap.size=xb:=⟨_,rfl⟩;rw[hxb]at hal hX wP vJ qM⊢;go_wp2;go_loopw[13] (λi wr=>∃(j:Nat) (il:List TH),j<=bl.length/\i=cI cJ (j:Int)/\il.length=j/\Own wr xb wr.heap.size (PZ ⟨s1,il⟩) xb 0/\DC wr xb 211/\(∀y∈il,qIn y)/\Below xb w4 wr) (λi _=>bl.length-(intOf i).toNat);exact⟨0,[],AY,rfl,rfl,vJ,wP,(λy h=>by cases h),hal⟩;obtain⟨j,il,hj,rfl,hil,vJ,wP,hiz,hlo⟩:=hrel;obtain⟨wo,rfl⟩:=again wr;replace hil:=Wx hil;by_cases hend:j=bl.length
  ·subst hend;have Dc:=hR.kp (show Below w4.heap.size w4 wo by rw[hxb];exact hlo);obtain⟨fr,f,br,b,hq,hbq⟩:=Dc.ss.b (by omega) (by omega);have BO:=Dc.kp (Below.refl wo.heap.size wo).drew;obtain⟨FB,cap,hF⟩:=BO.Fy hq;have Qp:=hlo;rw[<-hxb]at Qp;have h1o:=AB hb Qp
   obtain rfl:a6=⟨FB,fr.length*5,cX⟩:=h6 fr f FB cap hq (by
    have e:=hF.lc;change wo.cell? ⟨R,4,cX⟩=_ at e;rw[h1o.cell hR0.lt]at e
    exact e)
   obtain⟨BB,cap2,hL⟩:=BO.lastB hF hbq;have LP:=hF.lt;have TT:=hL.lt;obtain⟨nb,hnb⟩:∃nb,nb=br.length+1:=⟨_,rfl⟩;have gI:wo.cell? ⟨FB,fr.length*5+4,cX⟩=cP (cY (cP ⟨BB,0,cX⟩) nb cap2):=(by rw[hnb];exact hL.lc);obtain⟨F2,vc,xs,⟨hc,hox,⟨pc,cc,rfl⟩,hsp,-⟩,hF2⟩:=hL.lp;have Da:=BO.qq.2.2.2;rw[hq]at Da;have GU:=Da.last.2.2.2.2;rw[hbq]at GU;have Jh:=GU.1;rw[List.length_append,List.length_singleton]at Jh;have hlenp:b.ps.length<=k:=GU.last.2.1.1;have hkk:=BO.kk;have hix:(nb:Int)-1=(br.length:Int):=(by omega);have Ns:(br.length:Int)<nb:=(by omega);have Pm:br.length<nb:=(by omega);have hwr:=wrN (n:=br.length) (by omega);have hll:=BO.ll;have hwl:IntKind.i64.wrap (lg+1)=lg+1:=IntWalk.i64_in _ (by omega);replace hnb:=Wx hnb;obtain⟨vi,Fi,x0,x1,wG,hFi⟩:=vJ.ph;obtain⟨pi,ci,rfl⟩:=wG.slice;rw[List.length_map]at x1 wG;have nJ:N<=xb:=(by rw[<-hxb];exact hR.own.sz);have hBx:B<=xb:=AX (AX hR.own.ge (Nat.le_of_lt hR.own.lt)) nJ;have EK:(cY pc b.ps.length cc).ownBlock≠cP FB:=own_ne hox LP (by decide);have GY:(cY pc b.ps.length cc).ownBlock≠cP BB:=own_ne hox TT (by decide);have FL:(cY pc b.ps.length cc).ownBlock≠cP xb:=λe=>by
    have:=hsp.JI hc e;omega
   have hsz:B<=wo.drew.heap.size:=AX (AX Dc.own.ge (Nat.le_of_lt Dc.own.lt)) Dc.own.sz;replace hil:=hil.out;have AD3:Rw 10000000 qIn il:=⟨by omega,hiz⟩;replace hil:=Wx hil;replace hq:=Wx hq;replace hbq:=Wx hbq;go_wp2;refine ALR (S:=Ad wo.drew B 211 2 14 15 18 [cS s1,cY pi il.length ci] b.ps.length xs (cY pc b.ps.length cc) ⟨BB,br.length*9+1,cX⟩) (Ad.start (AL)) ?_;(iterate 14((refine AU.f (λz=>z.s.keep rfl rfl rfl) (λz=>have hs:=z.f 18;ALS (z.s.cellOf hs (show wo.drew.cell? ⟨FB,fr.length*5+4,cX⟩=cP (cY (cP ⟨BB,0,cX⟩) nb cap2)from gI) EK) (ALS (z.s.cellOf hs hc GY) (ALS (z.s.cellOf hs (show wo.drew.cell? ⟨xb,0,cX⟩=cP (cS s1)from x0) FL) (z.s.cellOf hs (show wo.drew.cell? ⟨xb,0+1,cX⟩=cP (cY pi il.length ci)from x1) FL)))) ?_)));(apply AU.w rfl;intro V L w1 _ _ _ z hK;go_simp;exact hK rfl (z.s.made (z.o 15) rfl _);(try simp only[pE]));(refine Ad.aq (AAC) (underlying74) (hox) ?_;(try simp only[pE]));(iterate 2((refine AU.f (λz=>z.s.keep rfl rfl rfl) (λz=>have hs:=z.f 18;ALS (z.s.cellOf hs (show wo.drew.cell? ⟨FB,fr.length*5+4,cX⟩=cP (cY (cP ⟨BB,0,cX⟩) nb cap2)from gI) EK) (ALS (z.s.cellOf hs hc GY) (ALS (z.s.cellOf hs (show wo.drew.cell? ⟨xb,0,cX⟩=cP (cS s1)from x0) FL) (z.s.cellOf hs (show wo.drew.cell? ⟨xb,0+1,cX⟩=cP (cY pi il.length ci)from x1) FL)))) ?_)));(refine Ad.sv (λhS hi=>ALS (hS.cellOf hi hc GY) (hS.EA hi (o:=br.length*9+1) TT.lt (TT.Bw _) GY)) ?_;simp only[Act.put]);refine AU.nil λV w6 hS=>?_;obtain⟨CS,hb5⟩:=hS.Yq (d:=PZ ⟨s1,il⟩) (q':={q with fs:=fr++[{f with bs:=br++[{b with ps:=b.ps++[⟨s1,il⟩]}]}]}) rfl rfl BO hsp hc hox (by simp) (by decide) (λw1 pb hlow hx=>⟨Fi++[],Af.of (AP.cc (hx.c 0 _ rfl) rfl (AP.cr (hx.c 1 _ rfl) (AZ.mono nJ (wG.same λb hb=>hlow.block b (wG.fp b hb).2)) AP.cn)),by simpa using hFi⟩) rfl rfl (by rw[<-hF2,List.map_append];rfl) ⟨BO.qq.1.up (Aa) λ_ h=>QW.up (Aa) h,BO.qq.2.1.up (Aa) λ_ h=>h,BO.qq.2.2.1.up (Aa) λ_ h=>h,Da.turn (Aa) (λ_ h=>QV.up (Aa) h) ⟨Da.last.1,Da.last.2.1,Da.last.2.2.1.up (Aa) λ_ h=>h,Da.last.2.2.2.1.up (Aa) λ_ h=>h,GU.turn (Aa) (λ_ h=>WI.up (Aa) h) ⟨GU.last.1,GU.last.2.1.snoc (λ_ h=>h) ⟨hz1,AD3⟩,GU.last.2.2.1.up (Aa) λ_ h=>gG.up (Aa) h,GU.last.2.2.2⟩⟩⟩ ⟨BO.ss.r,(λh=>by omega),(λ_=>by simp),(λ_ _=>⟨fr,_,br,_,rfl,rfl⟩),λh=>by omega⟩ hk;have hb6:=(hBb.trans (hlo.mono hBx)).trans (((Below.refl wo.heap.size wo).drew.mono hsz).trans hb5);have l5:=CS.cl;have f6:=CS.Bw 6;have ES:=CS.qH (lg+1) (by omega);have BJ:=hb6.trans (CS.low (cI cJ (lg+1)) 6);clear hS hsp hF hc hox EK GY FL BO hR hL hR0 hF2 wG x0 x1 vJ wP;go_wp2;go_ret2;exact⟨⟨_,_,rfl,(λ_ _=>⟨_,_,_,_,ES⟩),λh=>by cases h⟩,BJ⟩
  ·have hlt:j<bl.length:=(by omega);have A8:(j:Int)<bl.length:=(by omega);obtain⟨ab,rfl,⟨f0,y0⟩,f1,⟨f2,y2⟩,f3⟩:=hat j bl[j] (by simp[hlt]);obtain⟨gb,rfl⟩:=hbv.addr;simp only[At,Dk,Nat.zero_add]at f0 f1 f2 f3;have hyz:=hbz bl[j] (List.getElem_mem hlt);have hbb:=World.block_lt_of_cell? w4 _ f0;rw[hxb]at hbb;have Qp:=hlo;rw[<-hxb]at Qp;replace f0:=AA Qp f0;replace f1:=AA Qp f1;replace f2:=AA Qp f2;replace f3:=AA Qp f3;clear hat;generalize bl[j]=y at*;have hXd:=vJ.kp (w1:=wo.drew) (Below.refl wo.heap.size wo).drew;have s1p:=hXd.spot;unfold PZ at s1p;have s2p:=s1p.nth 1 rfl (n:=1) (by simp[Dt.DF,Dt.wd,dS]);rw[Nat.zero_add]at s2p;obtain⟨vi,xs,hc,hox,pi,ci,rfl⟩:=s2p.owns;rw[List.length_map]at hox hc;have Ze:DC wo.drew xb 211:=wP;have FL:(cY pi il.length ci).ownBlock≠cP xb:=own_ne hox Ze (by decide);have GY:(cY pi il.length ci).ownBlock≠cP gb:=Ed hox hbb;have AJb:il.length<=10000000:=(by rw[hil.out];omega);have hsz:xb<=wo.drew.heap.size:=Nat.le_of_lt Ze.lt;go_wp2;refine ALR (S:=Ad wo.drew xb 213 4 13 14 16 [cS y.n,cI cJ y.a.k,cS y.a.s,cI cJ y.a.n] il.length xs (cY pi il.length ci) ⟨xb,1,cX⟩) (Ad.start (AL)) ?_;(iterate 13((refine AU.f (λz=>z.s.keep rfl rfl rfl) (λz=>have hs:=z.f 16;ALS (z.s.cellOf hs hc FL) (ALS (z.s.cellOf hs (show wo.drew.cell? ⟨gb,j*4,cX⟩=cP (cS y.n)from f0) GY) (ALS (z.s.cellOf hs (show wo.drew.cell? ⟨gb,j*4+1,cX⟩=cP (cI cJ y.a.k)from f1) GY) (ALS (z.s.cellOf hs (show wo.drew.cell? ⟨gb,j*4+(1+1),cX⟩=cP (cS y.a.s)from f2) GY) (z.s.cellOf hs (show wo.drew.cell? ⟨gb,j*4+(1+2),cX⟩=cP (cI cJ y.a.n)from f3) GY))))) ?_)));(apply AU.w rfl;intro V L w1 _ _ _ z hK;go_simp;exact hK rfl (z.s.made (z.o 14) rfl _);(try simp only[pE]));(refine Ad.aq (AAE) (underlying209) (hox) ?_;(try simp only[pE]));(refine AU.f (λz=>z.s.keep rfl rfl rfl) (λz=>z.f 16) ?_);(refine Ad.sv (λhS hi=>ALS (hS.cellOf hi hc FL) (hS.EA hi (o:=1) Ze.lt (Ze.Bw 1) FL)) ?_;simp only[Act.put]);refine AU.nil λV w6 hS=>?_;obtain⟨⟨N6,ho6⟩,hb6,-,w7,u6,iF,hg6⟩:=hS.done (d:=xG ⟨y.n,y.a⟩) rfl rfl s2p (AL) hc hox (by simp) (λw1 pb _ _ _ hx=>⟨[]++[],Af.of (AP.cc (hx.c 0 _ rfl) rfl (AP.ca (l:=[dN y.a.k,dS y.a.s,dN y.a.n]) (f1:=[]) (AP.cc (hx.c 1 _ rfl) rfl (AP.cc (hx.c 2 _ rfl) rfl (AP.cc (hx.c 3 _ rfl) rfl AP.cn))) AP.cn)),by simp⟩) rfl rfl;have ho7:Own w6 xb w6.heap.size (PZ ⟨s1,il++[⟨y.n,y.a⟩]⟩) xb 0:=by
    have e:=ho6.up ho6.sz (AQ);simpa[PZ]using e
   have AEV:DC w6 xb 211:=by
    obtain⟨cur,ht⟩:=Ze;rw[iF];exact Ew (hg6.trans ht) _ _
   have ADu:Below xb w4 w6:=hlo.trans (((Below.refl wo.heap.size wo).drew.mono hsz).trans hb6);have hwx:IntKind.i64.wrap ((j:Int)+1)=((j+1:Nat):Int):=IntWalk.i64_in _ (by omega);have qg:(il++[(⟨y.n,y.a⟩:TH)]).length=j+1:=(by simp[hil.out]);have AD2:∀z∈il++[(⟨y.n,y.a⟩:TH)],qIn z:=λz h=>by
    rcases List.mem_append.1 h with h|h
    ·exact hiz z h
    ·rw[List.mem_singleton.1 h];exact hyz
   generalize il++[(⟨y.n,y.a⟩:TH)]=il6 at*;replace qg:=Wx qg;clear hS iF hg6 ho6 hb6 hlo s2p s1p hc hox FL GY;go_wp2;go_roundw;exact⟨j+1,il6,hlt,by go_num,qg.out,ho7,AEV,AD2,ADu⟩;simp[intOf];omega
 replace e1:=Fa e1 rfl;replace e2:=Fa e2 rfl;replace e3:=Fa e3 rfl;replace e4:=Fa e4 rfl;generalize l[0]=s at*;go_wp2;go_ret2;exact⟨⟨_,_,rfl,(λh=>by cases h),λ_=>hb1⟩,hBa⟩
end
section
open Word Num Dp
theorem lJ(h0:AA6 w0 w)(hl:Row DL 1 w0 u l)(hp:0<l.length)(h1:l[0]≠⟨#[99,108,97,115,115]⟩) (h2:l[0]≠⟨#[102,105,101,108,100]⟩) (h3:l[0]≠⟨#[103,108,111,98,97,108]⟩) (h4:l[0]≠⟨#[101,120,116,101,114,110]⟩) (h5:l[0]≠⟨#[102,117,110,99]⟩):Calls prog 213 #[.pointer (cP ⟨R,0,cX⟩),u] w λe w'=>Gb w B R k e w'/\Below B w w':=by
 obtain⟨p,c,rfl⟩:=hl.slice;obtain⟨a,rfl,-⟩:=CV hl hp;have d0:=AA h0 (Bg hl hp);have PV:(0:Int)<l.length:=by omega
 have e1:=Fa h1 rfl;have e2:=Fa h2 rfl;have e3:=Fa h3 rfl;have e4:=Fa h4 rfl;have e5:=Fa h5 rfl;generalize l[0]=s at*;go_enter func213,ntmps213;go_wp2;go_ret2;exact⟨⟨_,_,rfl,(λh=>by cases h),λ_=>AL⟩,AL⟩
def eX(h0:AA6 w0 w)(hR:Ct w B N R q wh lg k)(hB:w0.heap.size<=B)(hk:k+1<=5000000)(hl:Row DL 1 w0 u l)(hz:Wz l)(hp:0<l.length):Calls prog 213 #[.pointer (cP ⟨R,0,cX⟩),u] w λe w'=>Gb w B R k e w'/\Below B w w':=by
 by_cases h1:l[0]=⟨#[99,108,97,115,115]⟩
 ·exact U3 h0 hR hB hk hl hz hp h1
 by_cases h2:l[0]=⟨#[102,105,101,108,100]⟩
 ·exact U2 h0 hR hB hk hl hz hp h2
 by_cases h3:l[0]=⟨#[103,108,111,98,97,108]⟩
 ·exact Si h0 hR hB hk hl hz hp h3
 by_cases h4:l[0]=⟨#[101,120,116,101,114,110]⟩
 ·exact Sj h0 hR hB hk hl hz hp h4
 by_cases h5:l[0]=⟨#[102,117,110,99]⟩
 ·exact YQ h0 hR hB hk hl hz hp h5
 exact lJ h0 hl hp h1 h2 h3 h4 h5
end
section
open Word Num Dp
theorem Mj{t:TypeId}:∀(cs:List Value) (i:Nat) (w:World),DC w g t->o<=i->i+cs.length<=o+n->BS w (BZ w g i cs) g o n
 | [],i,w,h,_,_=>by
  obtain⟨cur,h⟩:=h
  exact⟨cur,cur,t,(0,0),h,h,rfl,λ_ _=>rfl⟩
 |v::l,i,w,h,h1,h2=>by
  have h2':i+1+l.length<=o+n:=by simp at h2;omega
  have AJv:i<o+n:=by simp at h2;omega
  obtain⟨cur,e⟩:=h;refine BS.trans (w':=w.setCell ⟨g,i,cX⟩ v) ⟨cur,cur.setIfInBounds i v,t,(0,0),e,?_,by simp,λj hj=>by rw[Array.getElem?_setIfInBounds_ne (by omega)]⟩ (Mj l (i+1) _ (Ew e _ _) (by omega) h2');unfold World.setCell;simp only[Array.getElem?_modify,if_true,e,Option.map_some];rfl
theorem aD:∀(cs:List Value) (i:Nat) (w:World) (k:Nat),k<i->(BZ w g i cs).cell? ⟨g,k,cX⟩=w.cell? ⟨g,k,cX⟩
 | [],_,_,_,_=>rfl
 |v::l,i,w,k,h=>(aD l (i+1) _ k (by omega)).trans (World.cell?_setCell_other _ _ _ _ (λe=>by have:=congrArg Addr.off e;simp at this;omega))
theorem Mk:∀(cs:List Value) (i:Nat) (w:World),(∀j,j<cs.length->∃v,w.cell? ⟨g,i+j,cX⟩=cP v)->∀j v,cs[j]? =cP v->(BZ w g i cs).cell? ⟨g,i+j,cX⟩=cP v
 | [],_,_,_,_,_,h=>by simp at h
 |u::l,i,w,h,j,v,hj=>by
  cases j with
  |zero=>
   obtain rfl:u=v:=(by simpa using hj);obtain⟨v0,h0⟩:=h 0 (by simp);show(BZ (w.setCell ⟨g,i,cX⟩ u) g (i+1) l).cell? ⟨g,i+0,cX⟩=_
   exact(aD l (i+1) _ i (by omega)).trans (World.cell?_setCell_same _ _ _ h0)
  |succ j=>
   have:=Mk l (i+1) (w.setCell ⟨g,i,cX⟩ u) (λj hj=>by
    obtain⟨v,e⟩:=h (j+1) (by simp;omega);refine⟨v,(World.cell?_setCell_other _ _ _ _ (λe=>by have:=congrArg Addr.off e;simp at this;omega)).trans ?_⟩;rw[Nat.add_right_comm]
    exact e) j v (by simpa using hj)
   rw[show i+(j+1)=i+1+j by omega];exact this
def LastB.typ(h:LastB w B N R q wh lg fr f FB cap br b BB cap2)(hR:Ct w B N R q wh lg k):BB≠R:=λe=>by
 obtain⟨c1,h1⟩:=h.lt;obtain⟨c2,h2⟩:=hR.typ;rw[e,h2]at h1;injection h1 with h1;injection h1 with _ h1 _;exact absurd h1 (by decide)
def LastB.cells(h:LastB w B N R q wh lg fr f FB cap br b BB cap2):∃v0 v1 v2 v3 v4 v5,w.cell? ⟨BB,br.length*9+3,cX⟩=cP v0/\w.cell? ⟨BB,br.length*9+3+1,cX⟩=cP v1/\w.cell? ⟨BB,br.length*9+3+2,cX⟩=cP v2/\w.cell? ⟨BB,br.length*9+3+3,cX⟩=cP v3/\w.cell? ⟨BB,br.length*9+3+4,cX⟩=cP v4/\w.cell? ⟨BB,br.length*9+3+5,cX⟩=cP v5:=by
 obtain⟨F,hs,-⟩:=h.le;obtain⟨-,-,fp,hl⟩:=hs.at;have hw:(TW b.e).wd=6:=rfl;have hc:=hl.cells;rw[hw]at hc;obtain⟨v0,h0,-⟩:=hc 0 (by decide);obtain⟨v1,h1,-⟩:=hc 1 (by decide);obtain⟨v2,h2,-⟩:=hc 2 (by decide);obtain⟨v3,h3,-⟩:=hc 3 (by decide);obtain⟨v4,h4,-⟩:=hc 4 (by decide);obtain⟨v5,h5,-⟩:=hc 5 (by decide);exact⟨v0,v1,v2,v3,v4,v5,h0,h1,h2,h3,h4,h5⟩
theorem LastB.KH(h:LastB w B N R q wh lg fr f FB cap br b BB cap2)(hR:Ct w B N R q wh lg k)(hq:q.fs=fr++[f])(hb:f.bs=br++[b])(x:Tm) (hx:qTm x) {v:Value} {V:List Nat} (hv:AZ w N 9 1 (x.to.map dS) v V) (hV:V.Nodup) (hv1:v.oneCell'=cC) (hs:¬(7<=wh/\wh<=8)) (hk:k+1<=5000000):Ct (BZ w BB (br.length*9+3) [cI cJ x.k,cI cJ x.a.k,cS x.a.s,cI cJ x.a.n,v,cI cJ x.n]) B w.heap.size R {q with fs:=fr++[{f with bs:=br++[{b with e:=x}]}]} wh lg (k+1)/\Below B w (BZ w BB (br.length*9+3) [cI cJ x.k,cI cJ x.a.k,cS x.a.s,cI cJ x.a.n,v,cI cJ x.n]):=by
 obtain⟨F,hsp,hF⟩:=h.le;obtain⟨v0,v1,v2,v3,v4,v5,h0,h1,h2,h3,h4,h5⟩:=h.cells
 have hc:=Mk (g:=BB) [cI cJ x.k,cI cJ x.a.k,cS x.a.s,cI cJ x.a.n,v,cI cJ x.n] (br.length*9+3) w (λj hj=>by
  have hj':j<6:=hj;obtain rfl|rfl|rfl|rfl|rfl|rfl:j=0\/j=1\/j=2\/j=3\/j=4\/j=5:=by omega
  ·exact⟨v0,h0⟩
  ·exact⟨v1,h1⟩
  ·exact⟨v2,h2⟩
  ·exact⟨v3,h3⟩
  ·exact⟨v4,h4⟩
  ·exact⟨v5,h5⟩)
 have hsz:=DK (p:=BB) [cI cJ x.k,cI cJ x.a.k,cS x.a.s,cI cJ x.a.n,v,cI cJ x.n] (br.length*9+3) w;have hne:=λr (hr:r≠BB)=>Bu hr [cI cJ x.k,cI cJ x.a.k,cS x.a.s,cI cJ x.a.n,v,cI cJ x.n] (br.length*9+3) w;have hsb:=Mj (o:=br.length*9+3) (n:=6) [cI cJ x.k,cI cJ x.a.k,cS x.a.s,cI cJ x.a.n,v,cI cJ x.n] (br.length*9+3) w h.lt (AQ) (AQ);have hbl:=Ay (B:=B) hsp.at.1 [cI cJ x.k,cI cJ x.a.k,cS x.a.s,cI cJ x.a.n,v,cI cJ x.n] (br.length*9+3) w;generalize BZ w BB (br.length*9+3) [cI cJ x.k,cI cJ x.a.k,cS x.a.s,cI cJ x.a.n,v,cI cJ x.n]=w1 at*;have S9:∀b∈V,N<=b/\b<w.heap.size:=hv.fp;have hBN:=hsp.at.2.1;have hNs:=hsp.sz;have q9:Own w1 B w.heap.size (F (TW x)) R 0:=by
  refine hsp.fill (N':=w.heap.size) hNs rfl hsb (by rw[hsz];exact AQ) λFj _ _ _=>⟨λb _ hb _=>hne b hb,V++[],?_,λb hb=> .inr (S9 b (by simpa using hb)),?_⟩
  ·refine Pz (hc 0 _ rfl) (hc 1 _ rfl) (hc 2 _ rfl) (hc 3 _ rfl) (hc 4 _ rfl) (hc 5 _ rfl) (AZ.mono (AX hsp.ge (Nat.le_of_lt hsp.lt)) (hv.same λb hb=>hne b ?_));have:=(S9 b hb).1;omega
  ·rw[List.append_nil];refine BN.2 ⟨λe=>?_,hV⟩;have:=(S9 _ e).1;omega
 have Da:=hR.qq.2.2.2;rw[hq]at Da;have GU:=Da.last.2.2.2.2;rw[hb]at GU;have hbR:=h.typ hR;obtain⟨cur,ht⟩:=hR.typ;refine⟨⟨hF x▸q9,⟨cur,(hne R (λe=>hbR e.symm)).trans ht⟩,⟨hR.qq.1.up (Aa) λ_ h=>QW.up (Aa) h,hR.qq.2.1.up (Aa) λ_ h=>h,hR.qq.2.2.1.up (Aa) λ_ h=>h,Da.turn (Aa) (λ_ h=>QV.up (Aa) h) ⟨Da.last.1,Da.last.2.1,Da.last.2.2.1.up (Aa) λ_ h=>h,Da.last.2.2.2.1.up (Aa) λ_ h=>h,GU.turn (Aa) (λ_ h=>WI.up (Aa) h) ⟨GU.last.1,GU.last.2.1.up (Aa) λ_ h=>h,GU.last.2.2.1.up (Aa) λ_ h=>gG.up (Aa) h,hx⟩⟩⟩,⟨hR.ss.r,hR.ss.c,(λ_=>by simp),(λ_ _=>⟨fr,_,br,_,rfl,rfl⟩),λh1 h2=>absurd ⟨h1,h2⟩ hs⟩,hk,?_⟩,hbl⟩;have:=hR.ll;omega
end
end Go.Proofs.YtlffomedflegdaaGreatDoor
