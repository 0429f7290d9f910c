/- Part 30 of 49 of the proof: Oo, Op, Oq. -/
import Derived.Test.YtlffomedflegdaaGreatDoorPz00
import Derived.Test.YtlffomedflegdaaGreatDoorPz29
set_option linter.all false
set_option maxHeartbeats 16000000
set_option maxRecDepth 100000
namespace Go.Proofs.YtlffomedflegdaaGreatDoor
open Go.Proofs.Tryz
open Go.RowKit
variable {B N R k:Nat}{l:List ByteArray}{lg wh:Int}{q:Pg}{u:Value}{w w0:World}
section
open Word Num Dp
theorem KF{a:Addr}{n c:Nat}(h:Row DL 1 w (.slice (some a) n c) l)(h3:l.length=3)(hz:Wz l):∃s1 s2,l.getD 1 Bv=s1/\Tz s1/\Tz s2/\w.cell? ⟨a.block,a.off+1,none⟩=some (.string s1)/\w.cell? ⟨a.block,a.off+2,none⟩=some (.string s2):=by
 have h1:0+1<l.length:=by omega
 have h2:1+1<l.length:=by omega
 grind [BQ,Dl]
theorem EN{a:Addr}{n c:Nat}(h:Row DL 1 w (.slice (some a) n c) l)(h1:0+1<l.length)(hz:Wz l):∃s1,l.getD 1 Bv=s1/\Tz s1/\w.cell? ⟨a.block,a.off+1,none⟩=some (.string s1):=by grind [BQ,Dl]
theorem Q9:(prog.info? 71).map (fun i=>(i.zero,i.size,i.bytes))=some (some (.agg #[.string .empty,.string .empty]),2,32):=by kernel_rfl
theorem AAG:(prog.info? 155).map (fun i=>(i.zero,i.size,i.bytes))=some (some (.agg #[.string .empty,.int .i64 0]),2,24):=by kernel_rfl
theorem nu:(prog.info? 66).map (fun i=>(i.zero,i.size,i.bytes))=some (some (.agg #[.string .empty,.string .empty,.slice none 0 0,.slice none 0 0,.slice none 0 0]),5,104):=by kernel_rfl
theorem Si(h0:AA6 w0 w)(hR:Ct w B N R q wh lg k)(hB:w0.heap.size<=B)(hk:k+1<=5000000)(hl:Row DL 1 w0 u l)(hz:Wz l)(hp:0<l.length)(hw:l[0]=⟨#[103,108,111,98,97,108]⟩):Calls prog 213 #[.pointer (some ⟨R,0,none⟩),u] w fun e w'=>Gb w B R k e w'/\Below B w w':=by
 obtain⟨p,c,rfl⟩:=hl.slice;obtain⟨a,rfl,-⟩:=CV hl hp;have d0:=AA h0 (Bg hl hp);rw[hw]at d0;have PV:(0:Int)<l.length:=by omega
 have hBw:B<=w.heap.size:=by have:=hR.own.ge;have:=hR.lt;omega
 go_enter func213,ntmps213;go_upto_region 19 with fail;go_cut[131]from 124 to 130 (fun v wx=>∃r:Bool,v=.bool r/\(r=false->(wh<=2\/wh=9)/\l.length=3/\nm (l.getD 1 Bv)=true)/\AA6 w wx)
 ·have hT:=Gr h0 hl hz;have hO:=Ey hR;go_wp2_with fail;refine hO.mono ?_;rintro e w2 ⟨⟨b,rfl,hb0⟩,rfl⟩;cases b
  ·go_wp2;go_meet;exact⟨_,rfl,(fun h=>by cases h),AL⟩
  replace hb0:=hb0 rfl;replace hb0:=hidden hb0;go_wp2_with fail;refine hT.mono ?_;rintro e w3 ⟨⟨b,rfl,ht⟩,hb⟩;cases b
  ·go_wp2;go_meet;exact⟨_,rfl,(fun h=>by cases h),hb⟩
  ·replace ht:=hidden (ht rfl);go_wp2;go_meet;exact⟨_,rfl,(fun _=>⟨hb0.out,ht.out⟩),hb⟩
 obtain⟨r,rfl,hr,hb⟩:=hcut;replace hR:=hR.kp hb;have hBb:=hb.mono hBw;cases r;rotate_left
 ·go_wp2;go_ret2;exact⟨⟨_,_,rfl,(fun _ h=>absurd h (by decide)),fun h=>by cases h⟩,hBb⟩
 obtain⟨WJ,hl3,hnm⟩:=hr rfl;have Fw:(1:Int)<l.length:=by omega
 have Qj:(2:Int)<l.length:=by omega
 have C8:1<l.length:=by omega
 have LQ:2<l.length:=by omega
 obtain⟨s1,s2,hg,hz1,hz2,d1,d2⟩:=KF hl hl3 hz;have hag:a.block<B:=A9 (World.block_lt_of_cell? w0 ⟨a.block,a.off+1,none⟩ d1) hB;rw[hg]at hnm;replace d1:=AA (AB h0 hb) d1;replace d2:=AA (AB h0 hb) d2;replace hnm:=hidden hnm;have BO:=hR.kp (Below.refl wc.heap.size wc).drew;obtain⟨vc,xs,hc,hox,⟨pc,cc,rfl⟩,F,hsp,hF⟩:=BO.ADU;have hc':wc.cell? ⟨R,2,none⟩=some (.slice pc q.gs.length cc):=hc;have hlen:q.gs.length<=k:=BO.qq.2.1.1;have EY:(Value.slice pc q.gs.length cc).ownBlock≠some R:=own_ne hox BO.typ (by decide);have DT:(Value.slice pc q.gs.length cc).ownBlock≠some a.block:=Ed hox hag;have hsz:B<=wc.drew.heap.size:=AX hBw hb.size;have Qi:=fun w=>D8 (q.gs.length:Int) 8 w;go_wp2_with fail;refine(Qi _).mono ?_;rintro e w3 ⟨⟨r,rfl,hr2⟩,rfl⟩;go_wp2;refine AV (S:=Ad wc.drew B 71 2 13 14 18 [.string s1,.string s2] q.gs.length xs (.slice pc q.gs.length cc) ⟨R,2,none⟩) rfl (by kernel_rfl) (Ad.start (AL)) ?_;iterate 13((apply AU.z rfl;intro V L w1 _ _ _ z hK;(try(have hs:=z.f 18 (by kernel_rfl);(have c1:=z.s.cellOf hs hc EY;have c2:=z.s.cellOf hs (show wc.drew.cell? ⟨a.block,a.off+1,none⟩=some (.string s1)from d1) DT;have c3:=z.s.cellOf hs (show wc.drew.cell? ⟨a.block,a.off+2,none⟩=some (.string s2)from d2) DT)));go_simp;exact hK (z.s.keep rfl rfl rfl);intros;rfl))
 (apply AU.w rfl;intro V L w1 _ _ _ z hK;go_simp;exact hK rfl (z.s.made (z.o 14 (by kernel_rfl)) rfl _);(try simp only[pE]));(refine AU.free (fun _=>rfl) (fun V L w1 _ _ hS hi hR hd hK=>hS.go hi (hR.out (18) _ (by kernel_rfl) hi) (hd.out (13) (by kernel_rfl)) (Q9) (underlying23) (hox) rfl rfl rfl rfl rfl rfl (by decide) (by simp[Value.oneCell']) (by unfold maxLen;omega) fun v' w' h=>hK.out _ _ rfl h) ?_;(try simp only[pE]));iterate 3((apply AU.z rfl;intro V L w1 _ _ _ z hK;(try(have hs:=z.f 18 (by kernel_rfl);(have c1:=z.s.cellOf hs hc EY;have c2:=z.s.cellOf hs (show wc.drew.cell? ⟨a.block,a.off+1,none⟩=some (.string s1)from d1) DT;have c3:=z.s.cellOf hs (show wc.drew.cell? ⟨a.block,a.off+2,none⟩=some (.string s2)from d2) DT)));go_simp;exact hK (z.s.keep rfl rfl rfl);intros;rfl))
 (apply AU.val undef (fun _=>rfl);intro V L w1 _ _ hS hi hR hd hK;have ha:=hd.out (14) (by kernel_rfl);(have cs:=hS.cellOf hi hc EY;have fs:=hS.EA hi (o:=2) BO.lt (BO.Bw 2) EY);have hS2:=hS.stored ha hi rfl;obtain⟨pu,ku,CX⟩:=hS.val ha;rw[CX]at hS2;simp only[CX];go_simp;exact hK.out _ _ (by simp only[CX];rfl) hS2;simp only[Act.put]);refine AU.nil fun V w1 hS=>?_;obtain⟨Dc,hb4⟩:=hS.Yq (d:=IQ ⟨s1,s2⟩) (q':={q with gs:=q.gs++[⟨s1,s2⟩]}) rfl rfl BO hsp hc hox (by simp) (by decide) (fun w1 pb hlow hx=>⟨[],Af.of (AP.cc (hx.c 0 _ rfl) rfl (AP.cc (hx.c 1 _ rfl) rfl AP.cn)),by simp⟩) rfl rfl (by rw[<-hF,List.map_append];rfl) ⟨BO.qq.1.up (Aa) fun _ h=>QW.up (Aa) h,BO.qq.2.1.snoc (fun _ h=>h) ⟨hz1,hz2⟩,BO.qq.2.2.1.up (Aa) fun _ h=>h,BO.qq.2.2.2.up (Aa) fun _ h=>QV.up (Aa) h⟩ ⟨BO.ss.r,BO.ss.c,BO.ss.f,BO.ss.b,BO.ss.i⟩ hk;have hb5:=(hBb.trans ((Below.refl wc.heap.size wc).drew.mono (AX hBw hb.size))).trans hb4;have c5:=Dc.cw;have f5:=Dc.Bw 5;have CS:=Dc.setW 2 ⟨by omega,(fun h=>absurd h (by decide)),(fun h=>absurd h (by decide)),(fun h=>absurd h (by decide)),fun h=>absurd h (by decide)⟩;have hb6:=hb5.trans (Dc.low (.int .i64 2) 5);go_wp2;go_ret2;exact⟨⟨_,_,rfl,(fun _ _=>⟨_,_,_,_,CS⟩),fun h=>by cases h⟩,hb6⟩
theorem YQ(h0:AA6 w0 w)(hR:Ct w B N R q wh lg k)(hB:w0.heap.size<=B)(hk:k+1<=5000000)(hl:Row DL 1 w0 u l)(hz:Wz l)(hp:0<l.length)(hw:l[0]=⟨#[102,117,110,99]⟩):Calls prog 213 #[.pointer (some ⟨R,0,none⟩),u] w fun e w'=>Gb w B R k e w'/\Below B w w':=by
 obtain⟨p,c,rfl⟩:=hl.slice;obtain⟨a,rfl,-⟩:=CV hl hp;have d0:=AA h0 (Bg hl hp);rw[hw]at d0;have PV:(0:Int)<l.length:=by omega
 have hBw:B<=w.heap.size:=by have:=hR.own.ge;have:=hR.lt;omega
 go_enter func213,ntmps213;go_upto_region 36 with fail;go_cut[232]from 225 to 231 (fun v wx=>∃r:Bool,v=.bool r/\(r=false->(wh<=2\/wh=9)/\l.length=3/\nm (l.getD 1 Bv)=true)/\AA6 w wx)
 ·have hT:=Gr h0 hl hz;have hO:=Ey hR;go_wp2_with fail;refine hO.mono ?_;rintro e w2 ⟨⟨b,rfl,hb0⟩,rfl⟩;cases b
  ·go_wp2;go_meet;exact⟨_,rfl,(fun h=>by cases h),AL⟩
  replace hb0:=hb0 rfl;replace hb0:=hidden hb0;go_wp2_with fail;refine hT.mono ?_;rintro e w3 ⟨⟨b,rfl,ht⟩,hb⟩;cases b
  ·go_wp2;go_meet;exact⟨_,rfl,(fun h=>by cases h),hb⟩
  ·replace ht:=hidden (ht rfl);go_wp2;go_meet;exact⟨_,rfl,(fun _=>⟨hb0.out,ht.out⟩),hb⟩
 obtain⟨r,rfl,hr,hb⟩:=hcut;replace hR:=hR.kp hb;have hBb:=hb.mono hBw;cases r;rotate_left
 ·go_wp2;go_ret2;exact⟨⟨_,_,rfl,(fun _ h=>absurd h (by decide)),fun h=>by cases h⟩,hBb⟩
 obtain⟨WJ,hl3,hnm⟩:=hr rfl;have Fw:(1:Int)<l.length:=by omega
 have Qj:(2:Int)<l.length:=by omega
 have C8:1<l.length:=by omega
 have LQ:2<l.length:=by omega
 obtain⟨s1,s2,hg,hz1,hz2,d1,d2⟩:=KF hl hl3 hz;have hag:a.block<B:=A9 (World.block_lt_of_cell? w0 ⟨a.block,a.off+1,none⟩ d1) hB;rw[hg]at hnm;replace d1:=AA (AB h0 hb) d1;replace d2:=AA (AB h0 hb) d2;replace hnm:=hidden hnm;have BO:=hR.kp (Below.refl wc.heap.size wc).drew;obtain⟨vc,xs,hc,hox,⟨pc,cc,rfl⟩,F,hsp,hF⟩:=BO.Tc;have hc':wc.cell? ⟨R,4,none⟩=some (.slice pc q.fs.length cc):=hc;have hlen:q.fs.length<=k:=BO.qq.2.2.2.1;have EY:(Value.slice pc q.fs.length cc).ownBlock≠some R:=own_ne hox BO.typ (by decide);have DT:(Value.slice pc q.fs.length cc).ownBlock≠some a.block:=Ed hox hag;have hsz:B<=wc.drew.heap.size:=AX hBw hb.size;have Qi:=fun w=>D8 (q.fs.length:Int) 8 w;go_wp2_with fail;refine(Qi _).mono ?_;rintro e w3 ⟨⟨r,rfl,hr2⟩,rfl⟩;go_wp2;refine AV (S:=Ad wc.drew B 66 5 13 14 18 [.string s1,.string s2,.slice none 0 0,.slice none 0 0,.slice none 0 0] q.fs.length xs (.slice pc q.fs.length cc) ⟨R,4,none⟩) rfl (by kernel_rfl) (Ad.start (AL)) ?_;iterate 13((apply AU.z rfl;intro V L w1 _ _ _ z hK;(try(have hs:=z.f 18 (by kernel_rfl);(have c1:=z.s.cellOf hs hc EY;have c2:=z.s.cellOf hs (show wc.drew.cell? ⟨a.block,a.off+1,none⟩=some (.string s1)from d1) DT;have c3:=z.s.cellOf hs (show wc.drew.cell? ⟨a.block,a.off+2,none⟩=some (.string s2)from d2) DT)));go_simp;exact hK (z.s.keep rfl rfl rfl);intros;rfl))
 (apply AU.w rfl;intro V L w1 _ _ _ z hK;go_simp;exact hK rfl (z.s.made (z.o 14 (by kernel_rfl)) rfl _);(try simp only[pE]));(refine AU.free (fun _=>rfl) (fun V L w1 _ _ hS hi hR hd hK=>hS.go hi (hR.out (18) _ (by kernel_rfl) hi) (hd.out (13) (by kernel_rfl)) (nu) (underlying25) (hox) rfl rfl rfl rfl rfl rfl (by decide) (by simp[Value.oneCell']) (by unfold maxLen;omega) fun v' w' h=>hK.out _ _ rfl h) ?_;(try simp only[pE]));iterate 3((apply AU.z rfl;intro V L w1 _ _ _ z hK;(try(have hs:=z.f 18 (by kernel_rfl);(have c1:=z.s.cellOf hs hc EY;have c2:=z.s.cellOf hs (show wc.drew.cell? ⟨a.block,a.off+1,none⟩=some (.string s1)from d1) DT;have c3:=z.s.cellOf hs (show wc.drew.cell? ⟨a.block,a.off+2,none⟩=some (.string s2)from d2) DT)));go_simp;exact hK (z.s.keep rfl rfl rfl);intros;rfl))
 (apply AU.val undef (fun _=>rfl);intro V L w1 _ _ hS hi hR hd hK;have ha:=hd.out (14) (by kernel_rfl);(have cs:=hS.cellOf hi hc EY;have fs:=hS.EA hi (o:=4) BO.lt (BO.Bw 4) EY);have hS2:=hS.stored ha hi rfl;obtain⟨pu,ku,CX⟩:=hS.val ha;rw[CX]at hS2;simp only[CX];go_simp;exact hK.out _ _ (by simp only[CX];rfl) hS2;simp only[Act.put]);refine AU.nil fun V w1 hS=>?_;obtain⟨Dc,hb4⟩:=hS.Yq (d:=dFn ⟨s1,s2,[],[],[]⟩) (q':={q with fs:=q.fs++[⟨s1,s2,[],[],[]⟩]}) rfl rfl BO hsp hc hox (by simp) (by decide) (fun w1 pb hlow hx=>⟨[]++([]++([]++[])),Af.of (AP.cc (hx.c 0 _ rfl) rfl (AP.cc (hx.c 1 _ rfl) rfl (AP.cr (l:=[]) (hx.c 2 _ rfl) AZ.nil (AP.cr (l:=[]) (hx.c 3 _ rfl) AZ.nil (AP.cr (l:=[]) (hx.c 4 _ rfl) AZ.nil AP.cn))))),by simp⟩) rfl rfl (by rw[<-hF,List.map_append];rfl) ⟨BO.qq.1.up (Aa) fun _ h=>QW.up (Aa) h,BO.qq.2.1.up (Aa) fun _ h=>h,BO.qq.2.2.1.up (Aa) fun _ h=>h,BO.qq.2.2.2.snoc (fun _ h=>QV.up (Aa) h) ⟨hz1,hz2,Rw.nil,Rw.nil,Rw.nil⟩⟩ ⟨BO.ss.r,BO.ss.c,(fun _=>by simp),(fun h1 h2=>by omega),fun h1 h2=>by omega⟩ hk;have hb5:=(hBb.trans ((Below.refl wc.heap.size wc).drew.mono (AX hBw hb.size))).trans hb4;have c5:=Dc.cw;have f5:=Dc.Bw 5;have CS:=Dc.setW 3 ⟨by omega,(fun h=>absurd h (by decide)),(fun _=>by simp),(fun h=>absurd h (by decide)),fun h=>absurd h (by decide)⟩;have hb6:=hb5.trans (Dc.low (.int .i64 3) 5);have c6:=CS.cl;have f6:=CS.Bw 6;have ES:=CS.qH 0 (by omega);have BJ:=hb6.trans (CS.low (.int .i64 0) 6);go_wp2;go_ret2;exact⟨⟨_,_,rfl,(fun _ _=>⟨_,_,_,_,ES⟩),fun h=>by cases h⟩,BJ⟩
end
section
open Word Num Dp
theorem Sj(h0:AA6 w0 w)(hR:Ct w B N R q wh lg k)(hB:w0.heap.size<=B)(hk:k+1<=5000000)(hl:Row DL 1 w0 u l)(hz:Wz l)(hp:0<l.length)(hw:l[0]=⟨#[101,120,116,101,114,110]⟩):Calls prog 213 #[.pointer (some ⟨R,0,none⟩),u] w fun e w'=>Gb w B R k e w'/\Below B w w':=by
 obtain⟨p,c,rfl⟩:=hl.slice;obtain⟨a,rfl,-⟩:=CV hl hp;have d0:=AA h0 (Bg hl hp);rw[hw]at d0;have PV:(0:Int)<l.length:=by omega
 have hBw:B<=w.heap.size:=by have:=hR.own.ge;have:=hR.lt;omega
 go_enter func213,ntmps213;go_upto_region 26 with fail;go_cut[178]from 163 to 177 (fun v wx=>∃r:Bool,v=.bool r/\(r=false->(wh<=2\/wh=9)/\l.length=3/\nm (l.getD 1 Bv)=true)/\AA6 w wx)
 ·have hO:=Ey hR;go_wp2_with fail;refine hO.mono ?_;rintro e w2 ⟨⟨b,rfl,hb0⟩,rfl⟩;cases b
  ·go_wp2;go_meet;exact⟨_,rfl,(fun h=>by cases h),AL⟩
  replace hb0:=hb0 rfl;replace hb0:=hidden hb0
  cases h2:((l.length:Int) !=3)with
  |true=>
   go_wp2;go_meet
   exact⟨_,rfl,(fun h=>by cases h),AL⟩
  |false=>
   have hl2:l.length=3:=by
    have:(l.length:Int)=3:=(by simpa using h2);omega
   have C8:1<l.length:=(by omega);have Fw:(1:Int)<l.length:=(by omega);obtain⟨_,rfl,hz1,d1⟩:=EN hl C8 hz;replace d1:=AA h0 d1;generalize l.getD 1 Bv=s1 at*;have hb:=AJ w (.cells #[.string s1] 9);have hN:=Bn (Below.refl (w.alloc (.cells #[.string s1] 9)).heap.size _) (DN (l:=[s1]) (Ae.alloc w [.string s1] 9) ⟨show 1<=10000000 by decide,by simpa using hz1⟩);simp only[List.length_cons,List.length_nil,Nat.zero_add,List.all_cons,List.all_nil,Bool.and_true]at hN;replace hl2:=hidden hl2;generalize hv:nm s1=v at*;replace hv:=hidden hv;go_wp2_with fail;refine hN.mono ?_;rintro e w3 ⟨rfl,rfl⟩;cases v
   ·go_wp2;go_meet;exact⟨_,rfl,(fun h=>by cases h),hb⟩
   ·go_wp2;go_meet;exact⟨_,rfl,(fun _=>⟨hb0.out,hl2.out,by trivial⟩),hb⟩
 obtain⟨r,rfl,hr,hb⟩:=hcut;replace hR:=hR.kp hb;have hBb:=hb.mono hBw;cases r;rotate_left
 ·go_wp2;go_ret2;exact⟨⟨_,_,rfl,(fun _ h=>absurd h (by decide)),fun h=>by cases h⟩,hBb⟩
 obtain⟨WJ,hl3,hnm⟩:=hr rfl;have Fw:(1:Int)<l.length:=by omega
 have Qj:(2:Int)<l.length:=by omega
 have C8:1<l.length:=by omega
 have LQ:2<l.length:=by omega
 obtain⟨s1,s2,hg,hz1,hz2,d1,d2⟩:=KF hl hl3 hz;have hag:a.block<B:=A9 (World.block_lt_of_cell? w0 ⟨a.block,a.off+1,none⟩ d1) hB;rw[hg]at hnm;replace d1:=AA (AB h0 hb) d1;replace d2:=AA (AB h0 hb) d2;replace hnm:=hidden hnm;have hG:=fun w=>JU s2 hz2 w;go_wp2_with fail;refine(hG _).mono ?_;rintro e w4 ⟨⟨n,b,rfl,-⟩,hb4⟩;replace hR:=hR.kp hb4;replace hBb:=hBb.trans (hb4.mono (AX hBw hb.size));have hb:=AB hb hb4;replace d1:=AA hb4 d1;replace d2:=AA hb4 d2;go_upto_region 29 with fail;go_cut[195]from 186 to 194 (fun v wx=>∃r:Bool,v=.bool r/\(r=false->0<=n/\n<=8)/\wx=w4)
 ·cases b
  ·go_wp2;go_meet;exact⟨_,rfl,(fun h=>by cases h),rfl⟩
  cases hn1:decide (n<0)with
  |true=>
   go_wp2;go_meet
   exact⟨_,rfl,(fun h=>by cases h),rfl⟩
  |false=>
   have hn2:=CJ hn1;replace hn2:=hidden hn2;go_wp2;go_meet;exact⟨_,rfl,(fun h=>⟨by have:=hn2.out;omega,by have:=CJ h;omega⟩),rfl⟩
 obtain⟨r,rfl,hr,rfl⟩:=hcut;cases r;rotate_left
 ·go_wp2;go_ret2;exact⟨⟨_,_,rfl,(fun _ h=>absurd h (by decide)),fun h=>by cases h⟩,hBb⟩
 have BO:=hR.kp (Below.refl wc.heap.size wc).drew;obtain⟨vc,xs,hc,hox,⟨pc,cc,rfl⟩,F,hsp,hF⟩:=BO.ADT;have hc':wc.cell? ⟨R,3,none⟩=some (.slice pc q.xs.length cc):=hc;have hlen:q.xs.length<=k:=BO.qq.2.2.1.1;have EY:(Value.slice pc q.xs.length cc).ownBlock≠some R:=own_ne hox BO.typ (by decide);have DT:(Value.slice pc q.xs.length cc).ownBlock≠some a.block:=Ed hox hag;have hsz:B<=wc.drew.heap.size:=AX hBw hb.size;have Qi:=fun w=>D8 (q.xs.length:Int) 8 w;go_wp2_with fail;refine(Qi _).mono ?_;rintro e w3 ⟨⟨r,rfl,hr2⟩,rfl⟩;go_wp2;refine AV (S:=Ad wc.drew B 155 2 11 12 16 [.string s1,.int .i64 n] q.xs.length xs (.slice pc q.xs.length cc) ⟨R,3,none⟩) rfl (by kernel_rfl) (Ad.start (AL)) ?_;iterate 11((apply AU.z rfl;intro V L w1 _ _ _ z hK;(try(have hs:=z.f 16 (by kernel_rfl);(have c1:=z.s.cellOf hs hc EY;have c2:=z.s.cellOf hs (show wc.drew.cell? ⟨a.block,a.off+1,none⟩=some (.string s1)from d1) DT)));go_simp;exact hK (z.s.keep rfl rfl rfl);intros;rfl))
 (apply AU.w rfl;intro V L w1 _ _ _ z hK;go_simp;exact hK rfl (z.s.made (z.o 12 (by kernel_rfl)) rfl _);(try simp only[pE]));(refine AU.free (fun _=>rfl) (fun V L w1 _ _ hS hi hR hd hK=>hS.go hi (hR.out (16) _ (by kernel_rfl) hi) (hd.out (11) (by kernel_rfl)) (AAG) (underlying24) (hox) rfl rfl rfl rfl rfl rfl (by decide) (by simp[Value.oneCell']) (by unfold maxLen;omega) fun v' w' h=>hK.out _ _ rfl h) ?_;(try simp only[pE]));iterate 3((apply AU.z rfl;intro V L w1 _ _ _ z hK;(try(have hs:=z.f 16 (by kernel_rfl);(have c1:=z.s.cellOf hs hc EY;have c2:=z.s.cellOf hs (show wc.drew.cell? ⟨a.block,a.off+1,none⟩=some (.string s1)from d1) DT)));go_simp;exact hK (z.s.keep rfl rfl rfl);intros;rfl))
 (apply AU.val undef (fun _=>rfl);intro V L w1 _ _ hS hi hR hd hK;have ha:=hd.out (12) (by kernel_rfl);(have cs:=hS.cellOf hi hc EY;have fs:=hS.EA hi (o:=3) BO.lt (BO.Bw 3) EY);have hS2:=hS.stored ha hi rfl;obtain⟨pu,ku,CX⟩:=hS.val ha;rw[CX]at hS2;simp only[CX];go_simp;exact hK.out _ _ (by simp only[CX];rfl) hS2;simp only[Act.put]);refine AU.nil fun V w1 hS=>?_;obtain⟨Dc,hb4⟩:=hS.Yq (d:=nS ⟨s1,n⟩) (q':={q with xs:=q.xs++[⟨s1,n⟩]}) rfl rfl BO hsp hc hox (by simp) (by decide) (fun w1 pb hlow hx=>⟨[],Af.of (AP.cc (hx.c 0 _ rfl) rfl (AP.cc (hx.c 1 _ rfl) rfl AP.cn)),by simp⟩) rfl rfl (by rw[<-hF,List.map_append];rfl) ⟨BO.qq.1.up (Aa) fun _ h=>QW.up (Aa) h,BO.qq.2.1.up (Aa) fun _ h=>h,BO.qq.2.2.1.snoc (fun _ h=>h) ⟨hnm.out,hz1⟩,BO.qq.2.2.2.up (Aa) fun _ h=>QV.up (Aa) h⟩ ⟨BO.ss.r,BO.ss.c,BO.ss.f,BO.ss.b,BO.ss.i⟩ hk;have hb5:=(hBb.trans ((Below.refl wc.heap.size wc).drew.mono (AX hBw hb.size))).trans hb4;have c5:=Dc.cw;have f5:=Dc.Bw 5;have CS:=Dc.setW 2 ⟨by omega,(fun h=>absurd h (by decide)),(fun h=>absurd h (by decide)),(fun h=>absurd h (by decide)),fun h=>absurd h (by decide)⟩;have hb6:=hb5.trans (Dc.low (.int .i64 2) 5);go_wp2;go_ret2;exact⟨⟨_,_,rfl,(fun _ _=>⟨_,_,_,_,CS⟩),fun h=>by cases h⟩,hb6⟩
theorem U2(h0:AA6 w0 w)(hR:Ct w B N R q wh lg k)(hB:w0.heap.size<=B)(hk:k+1<=5000000)(hl:Row DL 1 w0 u l)(hz:Wz l)(hp:0<l.length)(hw:l[0]=⟨#[102,105,101,108,100]⟩):Calls prog 213 #[.pointer (some ⟨R,0,none⟩),u] w fun e w'=>Gb w B R k e w'/\Below B w w':=by
 obtain⟨p,c,rfl⟩:=hl.slice;obtain⟨a,rfl,-⟩:=CV hl hp;have d0:=AA h0 (Bg hl hp);rw[hw]at d0;have PV:(0:Int)<l.length:=by omega
 have hBw:B<=w.heap.size:=by have:=hR.own.ge;have:=hR.lt;omega
 go_enter func213,ntmps213;go_upto_region 11 with fail;go_cut[74]from 65 to 73 (fun v wx=>∃r:Bool,v=.bool r/\(r=false->(wh=1)/\l.length=3/\nm (l.getD 1 Bv)=true)/\AA6 w wx)
 ·have hT:=Gr h0 hl hz;have cw:=hR.cw
  cases hw1:((wh:Int) !=1)with
  |false=>
   have hb0:wh=1:=(by have:(wh:Int)=1:=(by simpa using hw1);omega);replace hb0:=hidden hb0;go_wp2_with fail;refine hT.mono ?_;rintro e w3 ⟨⟨b,rfl,ht⟩,hb⟩;cases b
   ·go_wp2;go_meet;exact⟨_,rfl,(fun h=>by cases h),hb⟩
   ·replace ht:=hidden (ht rfl);go_wp2;go_meet
    exact⟨_,rfl,(fun _=>⟨hb0.out,ht.out⟩),hb⟩
  |true=>
   go_wp2;go_meet;exact⟨_,rfl,(fun h=>by cases h),AL⟩
 obtain⟨r,rfl,hr,hb⟩:=hcut;replace hR:=hR.kp hb;have hBb:=hb.mono hBw;cases r;rotate_left
 ·go_wp2;go_ret2;exact⟨⟨_,_,rfl,(fun _ h=>absurd h (by decide)),fun h=>by cases h⟩,hBb⟩
 obtain⟨WJ,hl3,hnm⟩:=hr rfl;have Fw:(1:Int)<l.length:=by omega
 have Qj:(2:Int)<l.length:=by omega
 have C8:1<l.length:=by omega
 have LQ:2<l.length:=by omega
 obtain⟨s1,s2,hg,hz1,hz2,d1,d2⟩:=KF hl hl3 hz;have hag:a.block<B:=A9 (World.block_lt_of_cell? w0 ⟨a.block,a.off+1,none⟩ d1) hB;rw[hg]at hnm;replace d1:=AA (AB h0 hb) d1;replace d2:=AA (AB h0 hb) d2;replace hnm:=hidden hnm;obtain⟨cr,c0,hq⟩:∃cr c0,q.cs=cr++[c0]:=by
  rcases List.eq_nil_or_concat q.cs with h|⟨cr,c0,h⟩
  ·exact absurd h (hR.ss.c WJ)
  ·exact⟨cr,c0,by rw[h,List.concat_eq_append]⟩
 have BO:=hR.kp (Below.refl wc.heap.size wc).drew;obtain⟨CB,cap,F,vc,xs,hc1,hCT,⟨hc,hox,⟨pc,cc,rfl⟩,hsp,-⟩,hF⟩:=BO.AAS hq;have hc1':wc.cell? ⟨R,1,none⟩=some (.slice (some ⟨CB,0,none⟩) (cr.length+1) cap):=hc1;have hc':wc.cell? ⟨CB,cr.length*2+1,none⟩=some (.slice pc c0.fs.length cc):=hc;have hqc:=BO.qq.1;rw[hq]at hqc;have hlen:c0.fs.length<=k:=hqc.last.2.2.1;have hlr:cr.length+1<=k:=by simpa using hqc.1
 have hkk:=BO.kk;have hix:((cr.length+1:Nat):Int)-1=(cr.length:Int):=by omega
 have Ns:(cr.length:Int)<(cr.length:Int)+1:=by omega
 have EY:(Value.slice pc c0.fs.length cc).ownBlock≠some R:=own_ne hox BO.typ (by decide);have DT:(Value.slice pc c0.fs.length cc).ownBlock≠some a.block:=Ed hox hag;have hsz:B<=wc.drew.heap.size:=AX hBw hb.size;have jA:(Value.slice pc c0.fs.length cc).ownBlock≠some CB:=own_ne hox hCT (by decide);have Qi:=fun w=>D8 (c0.fs.length:Int) 8 w;go_wp2_with fail;refine(Qi _).mono ?_;rintro e w3 ⟨⟨r,rfl,hr2⟩,rfl⟩;by_cases hr0:r=0;rotate_left
 ·have ADk:(r==0)=false:=by simpa using hr0
  go_wp2;go_ret2;exact⟨⟨_,_,rfl,(fun _ h=>absurd h hr0),fun h=>by cases h⟩,hBb⟩
 subst hr0;go_wp2;refine AV (S:=Ad wc.drew B 71 2 22 23 26 [.string s1,.string s2] c0.fs.length xs (.slice pc c0.fs.length cc) ⟨CB,cr.length*2+1,none⟩) rfl (by kernel_rfl) (Ad.start (AL)) ?_;iterate 22((apply AU.z rfl;intro V L w1 _ _ _ z hK;(try(have hs:=z.f 26 (by kernel_rfl);(have c1:=z.s.cellOf hs hc1 EY;have c4:=z.s.cellOf hs hc jA;have c2:=z.s.cellOf hs (show wc.drew.cell? ⟨a.block,a.off+1,none⟩=some (.string s1)from d1) DT;have c3:=z.s.cellOf hs (show wc.drew.cell? ⟨a.block,a.off+2,none⟩=some (.string s2)from d2) DT)));go_simp;exact hK (z.s.keep rfl rfl rfl);intros;rfl))
 (apply AU.w rfl;intro V L w1 _ _ _ z hK;go_simp;exact hK rfl (z.s.made (z.o 23 (by kernel_rfl)) rfl _);(try simp only[pE]));(refine AU.free (fun _=>rfl) (fun V L w1 _ _ hS hi hR hd hK=>hS.go hi (hR.out (26) _ (by kernel_rfl) hi) (hd.out (22) (by kernel_rfl)) (Q9) (underlying23) (hox) rfl rfl rfl rfl rfl rfl (by decide) (by simp[Value.oneCell']) (by unfold maxLen;omega) fun v' w' h=>hK.out _ _ rfl h) ?_;(try simp only[pE]));iterate 2((apply AU.z rfl;intro V L w1 _ _ _ z hK;(try(have hs:=z.f 26 (by kernel_rfl);(have c1:=z.s.cellOf hs hc1 EY;have c4:=z.s.cellOf hs hc jA;have c2:=z.s.cellOf hs (show wc.drew.cell? ⟨a.block,a.off+1,none⟩=some (.string s1)from d1) DT;have c3:=z.s.cellOf hs (show wc.drew.cell? ⟨a.block,a.off+2,none⟩=some (.string s2)from d2) DT)));go_simp;exact hK (z.s.keep rfl rfl rfl);intros;rfl))
 (apply AU.val undef (fun _=>rfl);intro V L w1 _ _ hS hi hR hd hK;have ha:=hd.out (23) (by kernel_rfl);(have cs:=hS.cellOf hi hc jA;have fs:=hS.EA hi (o:=cr.length*2+1) hCT.lt (hCT.Bw _) jA);have hS2:=hS.stored ha hi rfl;obtain⟨pu,ku,CX⟩:=hS.val ha;rw[CX]at hS2;simp only[CX];go_simp;exact hK.out _ _ (by simp only[CX];rfl) hS2;simp only[Act.put]);refine AU.nil fun V w1 hS=>?_;obtain⟨Dc,hb4⟩:=hS.Yq (d:=IQ ⟨s1,s2⟩) (q':={q with cs:=cr++[{c0 with fs:=c0.fs++[⟨s1,s2⟩]}]}) rfl rfl BO hsp hc hox (by simp) (by decide) (fun w1 pb hlow hx=>⟨[],Af.of (AP.cc (hx.c 0 _ rfl) rfl (AP.cc (hx.c 1 _ rfl) rfl AP.cn)),by simp⟩) rfl rfl (by rw[<-hF,List.map_append];rfl) ⟨hqc.turn (Aa) (fun _ h=>QW.up (Aa) h) ⟨hqc.last.1,hqc.last.2.1,hqc.last.2.2.snoc (fun _ h=>h) ⟨hz1,hz2⟩⟩,BO.qq.2.1.up (Aa) fun _ h=>h,BO.qq.2.2.1.up (Aa) fun _ h=>h,BO.qq.2.2.2.up (Aa) fun _ h=>QV.up (Aa) h⟩ ⟨BO.ss.r,(fun _=>by simp),(fun h=>by omega),(fun h=>by omega),fun h=>by omega⟩ hk;have hb5:=(hBb.trans ((Below.refl wc.heap.size wc).drew.mono (AX hBw hb.size))).trans hb4;go_wp2;go_ret2;exact⟨⟨_,_,rfl,(fun _ _=>⟨_,_,_,_,Dc⟩),fun h=>by cases h⟩,hb5⟩
end
section
open Word Num Dp
theorem ny:(prog.info? 82).map (fun i=>(i.zero,i.size,i.bytes))=some (some (.agg #[.string .empty,.slice none 0 0,.slice none 0 0,.int .i64 0,.int .i64 0,.string .empty,.int .i64 0,.slice none 0 0,.int .i64 0]),9,136):=by kernel_rfl
theorem Pz{g o:Nat}{x:Tm}{v:Value}{F:List Nat}(c0:w.cell? ⟨g,o,none⟩=some (.int .i64 x.k))(c1:w.cell? ⟨g,o+1,none⟩=some (.int .i64 x.a.k))(c2:w.cell? ⟨g,o+2,none⟩=some (.string x.a.s))(c3:w.cell? ⟨g,o+3,none⟩=some (.int .i64 x.a.n))(c4:w.cell? ⟨g,o+4,none⟩=some v)(c5:w.cell? ⟨g,o+5,none⟩=some (.int .i64 x.n))(hv:AZ w B 9 1 (x.to.map dS) v F):Af w B (TW x) g o (F++[]):=
 Af.of (AP.cc c0 rfl (AP.ca (l:=[dN x.a.k,dS x.a.s,dN x.a.n]) (f1:=[]) (AP.cc c1 rfl (AP.cc c2 rfl (AP.cc c3 rfl AP.cn))) (AP.cr (by simpa[Dt.DF,Dt.wd,dN,dS]using c4) hv (AP.cc (by simpa[Dt.DF,Dt.wd,dN,dS]using c5) rfl AP.cn))))
theorem Fa{s c:ByteArray}(h:s≠c){l:List UInt8}(hc:c.data.toList=l):(s.toList==l)=false:=by
 rw[beq_eq_false_iff_ne];intro e;rw[ByteArray.toList_eq,<-hc]at e;exact h (ByteArray.ext (Array.toList_inj.1 e))
end
end Go.Proofs.YtlffomedflegdaaGreatDoor
