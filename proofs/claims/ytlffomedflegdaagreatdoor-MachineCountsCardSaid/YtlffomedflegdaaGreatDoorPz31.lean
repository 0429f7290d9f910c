/- Part 31 of 49 of the proof: Or. -/
import Derived.Test.YtlffomedflegdaaGreatDoorPz00
import Derived.Test.YtlffomedflegdaaGreatDoorPz30
set_option linter.all false
set_option maxHeartbeats 16000000
set_option maxRecDepth 100000
namespace Go.Proofs.YtlffomedflegdaaGreatDoor
open Go.Proofs.Tryz
open Go.RowKit
open Word Num Dp
theorem AAE:(prog.info? 213).map (fun i=>(i.zero,i.size,i.bytes))=some (some (.agg #[.string .empty,.int .i64 0,.string .empty,.int .i64 0]),4,48):=by kernel_rfl
theorem AZ.addr{w:World}{B s n c:Nat}{e:TypeId}{l:List Dt}{a:Addr}{fp:List Nat}(h:AZ w B e s l (.slice (some a) n c) fp):∃g,a=⟨g,0,none⟩:=by
 rcases h with⟨h1,_⟩|⟨g,_,_,_,h1,_⟩
 ·cases h1
 grind
theorem Own.ph{w:World}{B N g o:Nat}{p:Ph}(h:Own w B N (PZ p) g o):∃v fp,w.cell? ⟨g,o,none⟩=some (.string p.d)/\w.cell? ⟨g,o+1,none⟩=some v/\AZ w B 213 4 (p.is.map xG) v fp/\fp.Nodup:=by
 obtain⟨fp,hL,hn,-⟩:=h.t;unfold PZ dS Af AP at hL;obtain⟨f1,f2,rfl,h1,h2⟩:=hL;unfold Af at h1;unfold AP at h2;obtain⟨h3,rfl,-⟩:=h1;obtain⟨f3,f4,rfl,h4,h5⟩:=h2;unfold AP at h5;subst h5;obtain⟨v,hc,hv⟩:=h4.row;exact⟨v,_,h3,by simpa[Dt.wd]using hc,hv,by simpa using(BN.1 hn).2⟩
theorem AAC:(prog.info? 211).map (fun i=>(i.zero,i.size,i.bytes))=some (some (.agg #[.string .empty,.slice none 0 0]),2,40):=by kernel_rfl
theorem dH{w0 w:World}(h0:AA6 w0 w){B N R:Nat}{q:Pg}{wh lg:Int}{k:Nat}(hR:Ct w B N R q wh lg k)(hB:w0.heap.size<=B)(hk:k+1<=5000000){u:Value}{l:List ByteArray}(hl:Row DL 1 w0 u l)(hz:Wz l)(hp:0<l.length):Calls prog 214 #[.pointer (some ⟨R,0,none⟩),u] w fun e w'=>Gb w B R k e w'/\Below B w w':=by
 obtain⟨p,c,rfl⟩:=hl.slice;obtain⟨a,rfl,-⟩:=CV hl hp;have d0:=AA h0 (Bg hl hp);have PV:(0:Int)<l.length:=by omega
 have hBw:B<=w.heap.size:=by have:=hR.own.ge;have:=hR.lt;omega
 obtain⟨vF,xsF,J7,-,⟨pF,cF,rfl⟩,-⟩:=hR.Tc;have hal:=AJ w (.cells #[.string ⟨#[]⟩,.string ⟨#[]⟩,.slice none 0 0,.slice none 0 0,.slice none 0 0] 66);have II:=AA hal J7;go_enter func214,ntmps214;go_upto_if 23 with fail;generalize hW:w.alloc _=W at*;go_cut[6]from 23 to 36 (fun v wx=>(∃a6,v=.pointer (some a6)/\∀(fr:List Fn) (f:Fn) (FB cap:Nat),q.fs=fr++[f]->wx.cell? ⟨R,4,none⟩=some (.slice (some ⟨FB,0,none⟩) (fr.length+1) cap)->a6=⟨FB,fr.length*5,none⟩)/\AA6 w wx)
 ·rcases List.eq_nil_or_concat q.fs with hq|⟨fr,f,hq⟩
  ·have WU:q.fs.length=0:=(by rw[hq];rfl);have Fw:¬(0:Int)<q.fs.length:=(by omega);have C8:¬0<q.fs.length:=(by omega);replace hq:=hidden hq;replace WU:=hidden WU;go_wp2;go_meet;exact⟨⟨_,rfl,fun fr f FB cap h _=>by rw[hq.out]at h;simp at h⟩,hal⟩
  ·rw[List.concat_eq_append]at hq;obtain⟨FB,cap,hL⟩:=(hR.kp hal).Fy hq;have TJ:=hL.lc;obtain⟨rfl,hn,rfl⟩:pF=some ⟨FB,0,none⟩/\q.fs.length=fr.length+1/\cF=cap:=by
    rw[II]at TJ;simpa using TJ
   have Fw:(0:Int)<q.fs.length:=(by omega);have C8:0<q.fs.length:=(by omega);have hlen:q.fs.length<=k:=hR.qq.2.2.2.1;have hkk:=hR.kk;have hix:(q.fs.length:Int)-1=(fr.length:Int):=(by omega);have Ns:(fr.length:Int)<q.fs.length:=(by omega);have Pm:fr.length<q.fs.length:=(by omega);have hwr:IntKind.i64.wrap (fr.length:Int)=fr.length:=IntWalk.i64_in _ (by omega);replace hq:=hidden hq;replace hn:=hidden hn;go_wp2;simp only[decide_eq_true C8];refine AO (S:=fun _ v=>AA6 W v) rfl (by kernel_rfl) Ac ?_;(iterate 14((apply Ab.z rfl;intro L w1 _ _ _ z hK;(have c1:=AA z.s II);go_simp;exact hK (z.s);rfl)));refine Ab.nil fun w4 Bb=>?_;go_wp2;go_meet
   ·exact⟨⟨_,rfl,fun fr' f' TY cap' h h2=>by
    rw[hq.out]at h;obtain⟨rfl,-⟩:=List.append_inj' h rfl;rw[AA Bb II]at h2;obtain⟨rfl,-⟩:FB=TY/\_:=by simpa using h2
    rfl⟩,AB hal Bb⟩
 obtain⟨⟨a6,rfl,h6⟩,hb1⟩:=hcut;obtain⟨w1,rfl⟩:∃w1:World,w1=wc:=⟨_,rfl⟩;replace hR:=hR.kp hb1;replace d0:=AA hb1 d0;replace h0:=AB h0 hb1;have hBa:=hb1.mono hBw;replace hBw:B<=w1.heap.size:=AX hBw hb1.size;have hR0:=hR;by_cases e1:l[0]=⟨#[112,97,114,97,109]⟩
 ·rw[e1]at d0;go_upto_region 6 with fail;go_cut[51]from 42 to 50 (fun v wx=>∃r:Bool,v=.bool r/\(r=false->(wh=3)/\l.length=3/\nm (l.getD 1 Bv)=true)/\AA6 w1 wx)
  ·have hT:=Gr h0 hl hz;have cw:=hR.cw
   cases hw3:((wh:Int) !=3)with
   |false=>
    have hb0:wh=3:=(by have:(wh:Int)=3:=(by simpa using hw3);omega);replace hb0:=hidden hb0;go_wp2_with fail;refine hT.mono ?_;rintro e w3 ⟨⟨b,rfl,ht⟩,hb⟩;cases b
    ·go_wp2;go_meet;exact⟨_,rfl,(fun h=>by cases h),hb⟩
    ·replace ht:=hidden (ht rfl);go_wp2;go_meet
     exact⟨_,rfl,(fun _=>⟨hb0.out,ht.out⟩),hb⟩
   |true=>
    go_wp2;go_meet;exact⟨_,rfl,(fun h=>by cases h),AL⟩
  obtain⟨r,rfl,hr,hb⟩:=hcut;replace hR:=hR.kp hb;have hBb:=hBa.trans (hb.mono hBw);cases r;rotate_left
  ·go_wp2;go_ret2;exact⟨⟨_,_,rfl,(fun _ h=>absurd h (by decide)),fun h=>by cases h⟩,hBb⟩
  obtain⟨WJ,hl3,hnm⟩:=hr rfl;have Fw:(1:Int)<l.length:=by omega
  have Qj:(2:Int)<l.length:=by omega
  have C8:1<l.length:=by omega
  have LQ:2<l.length:=by omega
  obtain⟨s1,s2,hg,hz1,hz2,d1,d2⟩:=KF hl hl3 hz;have hag:a.block<B:=A9 (World.block_lt_of_cell? w0 ⟨a.block,a.off+1,none⟩ d1) hB;rw[hg]at hnm;replace d1:=AA (AB h0 hb) d1;replace d2:=AA (AB h0 hb) d2;replace hnm:=hidden hnm;obtain⟨fr,f,hq⟩:∃fr f,q.fs=fr++[f]:=by
   rcases List.eq_nil_or_concat q.fs with h|⟨fr,f,h⟩
   ·exact absurd h (hR.ss.f (by omega))
   ·exact⟨fr,f,by rw[h,List.concat_eq_append]⟩
  have BO:=hR.kp (Below.refl wc.heap.size wc).drew;obtain⟨FB,cap,hL⟩:=BO.Fy hq;obtain⟨F,vc,xs,⟨hc,hox,⟨pc,cc,rfl⟩,hsp,-⟩,hF⟩:=hL.lp;have LP:=hL.lt
  obtain rfl:a6=⟨FB,fr.length*5,none⟩:=h6 fr f FB cap hq (by
   have e:=hL.lc;change wc.cell? ⟨R,4,none⟩=_ at e;rw[hb.cell hR0.lt]at e
   exact e)
  have hc':wc.cell? ⟨FB,fr.length*5+2,none⟩=some (.slice pc f.ps.length cc):=hc;have Da:=BO.qq.2.2.2;rw[hq]at Da;have hlen:f.ps.length<=k:=Da.last.2.2.1.1;have hkk:=BO.kk;have EY:(Value.slice pc f.ps.length cc).ownBlock≠some R:=own_ne hox BO.typ (by decide);have DT:(Value.slice pc f.ps.length cc).ownBlock≠some a.block:=Ed hox hag;have hsz:B<=wc.drew.heap.size:=AX hBw hb.size;have EK:(Value.slice pc f.ps.length cc).ownBlock≠some FB:=own_ne hox LP (by decide);have Qi:=fun w=>D8 (f.ps.length:Int) 6 w;go_wp2_with fail;refine(Qi _).mono ?_;rintro e w3 ⟨⟨r,rfl,hr2⟩,rfl⟩;go_wp2;refine AV (S:=Ad wc.drew B 71 2 12 13 16 [.string s1,.string s2] f.ps.length xs (.slice pc f.ps.length cc) ⟨FB,fr.length*5+2,none⟩) rfl (by kernel_rfl) (Ad.start (AL)) ?_;iterate 12((apply AU.z rfl;intro V L w1 _ _ _ z hK;(try(have hs:=z.f 16 (by kernel_rfl);(have c1:=z.s.cellOf hs hc EK;have c2:=z.s.cellOf hs (show wc.drew.cell? ⟨a.block,a.off+1,none⟩=some (.string s1)from d1) DT;have c3:=z.s.cellOf hs (show wc.drew.cell? ⟨a.block,a.off+2,none⟩=some (.string s2)from d2) DT)));go_simp;exact hK (z.s.keep rfl rfl rfl);intros;rfl))
  (apply AU.w rfl;intro V L w1 _ _ _ z hK;go_simp;exact hK rfl (z.s.made (z.o 13 (by kernel_rfl)) rfl _);(try simp only[pE]));(refine AU.free (fun _=>rfl) (fun V L w1 _ _ hS hi hR hd hK=>hS.go hi (hR.out (16) _ (by kernel_rfl) hi) (hd.out (12) (by kernel_rfl)) (Q9) (underlying23) (hox) rfl rfl rfl rfl rfl rfl (by decide) (by simp[Value.oneCell']) (by unfold maxLen;omega) fun v' w' h=>hK.out _ _ rfl h) ?_;(try simp only[pE]));iterate 2((apply AU.z rfl;intro V L w1 _ _ _ z hK;(try(have hs:=z.f 16 (by kernel_rfl);(have c1:=z.s.cellOf hs hc EK;have c2:=z.s.cellOf hs (show wc.drew.cell? ⟨a.block,a.off+1,none⟩=some (.string s1)from d1) DT;have c3:=z.s.cellOf hs (show wc.drew.cell? ⟨a.block,a.off+2,none⟩=some (.string s2)from d2) DT)));go_simp;exact hK (z.s.keep rfl rfl rfl);intros;rfl))
  (apply AU.val undef (fun _=>rfl);intro V L w1 _ _ hS hi hR hd hK;have ha:=hd.out (13) (by kernel_rfl);(have cs:=hS.cellOf hi hc EK;have fs:=hS.EA hi (o:=fr.length*5+2) LP.lt (LP.Bw _) EK);have hS2:=hS.stored ha hi rfl;obtain⟨pu,ku,CX⟩:=hS.val ha;rw[CX]at hS2;simp only[CX];go_simp;exact hK.out _ _ (by simp only[CX];rfl) hS2;simp only[Act.put]);refine AU.nil fun V w1 hS=>?_;obtain⟨Dc,hb4⟩:=hS.Yq (d:=IQ ⟨s1,s2⟩) (q':={q with fs:=fr++[{f with ps:=f.ps++[⟨s1,s2⟩]}]}) rfl rfl BO hsp hc hox (by simp) (by decide) (fun w1 pb hlow hx=>⟨[],Af.of (AP.cc (hx.c 0 _ rfl) rfl (AP.cc (hx.c 1 _ rfl) rfl AP.cn)),by simp⟩) rfl rfl (by rw[<-hF,List.map_append];rfl) ⟨BO.qq.1.up (Aa) fun _ h=>QW.up (Aa) h,BO.qq.2.1.up (Aa) fun _ h=>h,BO.qq.2.2.1.up (Aa) fun _ h=>h,Da.turn (Aa) (fun _ h=>QV.up (Aa) h) ⟨Da.last.1,Da.last.2.1,Da.last.2.2.1.snoc (fun _ h=>h) ⟨hz1,hz2⟩,Da.last.2.2.2.1.up (Aa) fun _ h=>h,Da.last.2.2.2.2.up (Aa) fun _ h=>WI.up (Aa) h⟩⟩ ⟨BO.ss.r,(fun h=>by omega),(fun _=>by simp),(fun h=>by omega),fun h=>by omega⟩ hk;have hb5:=(hBb.trans ((Below.refl wc.heap.size wc).drew.mono (AX hBw hb.size))).trans hb4;go_wp2;go_ret2;exact⟨⟨_,_,rfl,(fun _ _=>⟨_,_,_,_,Dc⟩),fun h=>by cases h⟩,hb5⟩
 by_cases e2:l[0]=⟨#[118,97,114]⟩
 ·rw[e2]at d0;go_upto_region 12 with fail;go_cut[93]from 77 to 92 (fun v wx=>∃r:Bool,v=.bool r/\(r=false->(wh=3\/wh=4)/\l.length=3/\nm (l.getD 1 Bv)=true)/\AA6 w1 wx)
  ·have hT:=Gr h0 hl hz;have cw:=hR.cw
   cases hw3:((wh:Int) !=3)with
   |false=>
    have hb0:wh=3\/wh=4:=(by have:(wh:Int)=3:=(by simpa using hw3);omega);replace hb0:=hidden hb0;go_wp2_with fail;refine hT.mono ?_;rintro e w3 ⟨⟨b,rfl,ht⟩,hb⟩;cases b
    ·go_wp2;go_meet;exact⟨_,rfl,(fun h=>by cases h),hb⟩
    ·replace ht:=hidden (ht rfl);go_wp2;go_meet
     exact⟨_,rfl,(fun _=>⟨hb0.out,ht.out⟩),hb⟩
   |true=>
    cases hw4:((wh:Int) !=4)with
    |false=>
     have hb0:wh=3\/wh=4:=(by have:(wh:Int)=4:=(by simpa using hw4);omega);replace hb0:=hidden hb0;go_wp2_with fail;refine hT.mono ?_;rintro e w3 ⟨⟨b,rfl,ht⟩,hb⟩;cases b
     ·go_wp2;go_meet;exact⟨_,rfl,(fun h=>by cases h),hb⟩
     ·replace ht:=hidden (ht rfl);go_wp2;go_meet
      exact⟨_,rfl,(fun _=>⟨hb0.out,ht.out⟩),hb⟩
    |true=>
     go_wp2;go_meet;exact⟨_,rfl,(fun h=>by cases h),AL⟩
  obtain⟨r,rfl,hr,hb⟩:=hcut;replace hR:=hR.kp hb;have hBb:=hBa.trans (hb.mono hBw);cases r;rotate_left
  ·go_wp2;go_ret2;exact⟨⟨_,_,rfl,(fun _ h=>absurd h (by decide)),fun h=>by cases h⟩,hBb⟩
  obtain⟨WJ,hl3,hnm⟩:=hr rfl;have Fw:(1:Int)<l.length:=by omega
  have Qj:(2:Int)<l.length:=by omega
  have C8:1<l.length:=by omega
  have LQ:2<l.length:=by omega
  obtain⟨s1,s2,hg,hz1,hz2,d1,d2⟩:=KF hl hl3 hz;have hag:a.block<B:=A9 (World.block_lt_of_cell? w0 ⟨a.block,a.off+1,none⟩ d1) hB;rw[hg]at hnm;replace d1:=AA (AB h0 hb) d1;replace d2:=AA (AB h0 hb) d2;replace hnm:=hidden hnm;obtain⟨fr,f,hq⟩:∃fr f,q.fs=fr++[f]:=by
   rcases List.eq_nil_or_concat q.fs with h|⟨fr,f,h⟩
   ·exact absurd h (hR.ss.f (by omega))
   ·exact⟨fr,f,by rw[h,List.concat_eq_append]⟩
  have BO:=hR.kp (Below.refl wc.heap.size wc).drew;obtain⟨FB,cap,hL⟩:=BO.Fy hq;obtain⟨F,vc,xs,⟨hc,hox,⟨pc,cc,rfl⟩,hsp,-⟩,hF⟩:=hL.lv;have LP:=hL.lt
  obtain rfl:a6=⟨FB,fr.length*5,none⟩:=h6 fr f FB cap hq (by
   have e:=hL.lc;change wc.cell? ⟨R,4,none⟩=_ at e;rw[hb.cell hR0.lt]at e
   exact e)
  have hc':wc.cell? ⟨FB,fr.length*5+3,none⟩=some (.slice pc f.vs.length cc):=hc;have Da:=BO.qq.2.2.2;rw[hq]at Da;have hlen:f.vs.length<=k:=Da.last.2.2.2.1.1;have hkk:=BO.kk;have EY:(Value.slice pc f.vs.length cc).ownBlock≠some R:=own_ne hox BO.typ (by decide);have DT:(Value.slice pc f.vs.length cc).ownBlock≠some a.block:=Ed hox hag;have hsz:B<=wc.drew.heap.size:=AX hBw hb.size;have EK:(Value.slice pc f.vs.length cc).ownBlock≠some FB:=own_ne hox LP (by decide);have Qi:=fun w=>D8 (f.vs.length:Int) 1024 w;go_wp2_with fail;refine(Qi _).mono ?_;rintro e w3 ⟨⟨r,rfl,hr2⟩,rfl⟩;go_wp2;refine AV (S:=Ad wc.drew B 71 2 12 13 16 [.string s1,.string s2] f.vs.length xs (.slice pc f.vs.length cc) ⟨FB,fr.length*5+3,none⟩) rfl (by kernel_rfl) (Ad.start (AL)) ?_;iterate 12((apply AU.z rfl;intro V L w1 _ _ _ z hK;(try(have hs:=z.f 16 (by kernel_rfl);(have c1:=z.s.cellOf hs hc EK;have c2:=z.s.cellOf hs (show wc.drew.cell? ⟨a.block,a.off+1,none⟩=some (.string s1)from d1) DT;have c3:=z.s.cellOf hs (show wc.drew.cell? ⟨a.block,a.off+2,none⟩=some (.string s2)from d2) DT)));go_simp;exact hK (z.s.keep rfl rfl rfl);intros;rfl))
  (apply AU.w rfl;intro V L w1 _ _ _ z hK;go_simp;exact hK rfl (z.s.made (z.o 13 (by kernel_rfl)) rfl _);(try simp only[pE]));(refine AU.free (fun _=>rfl) (fun V L w1 _ _ hS hi hR hd hK=>hS.go hi (hR.out (16) _ (by kernel_rfl) hi) (hd.out (12) (by kernel_rfl)) (Q9) (underlying23) (hox) rfl rfl rfl rfl rfl rfl (by decide) (by simp[Value.oneCell']) (by unfold maxLen;omega) fun v' w' h=>hK.out _ _ rfl h) ?_;(try simp only[pE]));iterate 2((apply AU.z rfl;intro V L w1 _ _ _ z hK;(try(have hs:=z.f 16 (by kernel_rfl);(have c1:=z.s.cellOf hs hc EK;have c2:=z.s.cellOf hs (show wc.drew.cell? ⟨a.block,a.off+1,none⟩=some (.string s1)from d1) DT;have c3:=z.s.cellOf hs (show wc.drew.cell? ⟨a.block,a.off+2,none⟩=some (.string s2)from d2) DT)));go_simp;exact hK (z.s.keep rfl rfl rfl);intros;rfl))
  (apply AU.val undef (fun _=>rfl);intro V L w1 _ _ hS hi hR hd hK;have ha:=hd.out (13) (by kernel_rfl);(have cs:=hS.cellOf hi hc EK;have fs:=hS.EA hi (o:=fr.length*5+3) LP.lt (LP.Bw _) EK);have hS2:=hS.stored ha hi rfl;obtain⟨pu,ku,CX⟩:=hS.val ha;rw[CX]at hS2;simp only[CX];go_simp;exact hK.out _ _ (by simp only[CX];rfl) hS2;simp only[Act.put]);refine AU.nil fun V w1 hS=>?_;obtain⟨Dc,hb4⟩:=hS.Yq (d:=IQ ⟨s1,s2⟩) (q':={q with fs:=fr++[{f with vs:=f.vs++[⟨s1,s2⟩]}]}) rfl rfl BO hsp hc hox (by simp) (by decide) (fun w1 pb hlow hx=>⟨[],Af.of (AP.cc (hx.c 0 _ rfl) rfl (AP.cc (hx.c 1 _ rfl) rfl AP.cn)),by simp⟩) rfl rfl (by rw[<-hF,List.map_append];rfl) ⟨BO.qq.1.up (Aa) fun _ h=>QW.up (Aa) h,BO.qq.2.1.up (Aa) fun _ h=>h,BO.qq.2.2.1.up (Aa) fun _ h=>h,Da.turn (Aa) (fun _ h=>QV.up (Aa) h) ⟨Da.last.1,Da.last.2.1,Da.last.2.2.1.up (Aa) fun _ h=>h,Da.last.2.2.2.1.snoc (fun _ h=>h) ⟨hz1,hz2⟩,Da.last.2.2.2.2.up (Aa) fun _ h=>WI.up (Aa) h⟩⟩ ⟨BO.ss.r,(fun h=>by omega),(fun _=>by simp),(fun h=>by omega),fun h=>by omega⟩ hk;have hb5:=(hBb.trans ((Below.refl wc.heap.size wc).drew.mono (AX hBw hb.size))).trans hb4;have c5:=Dc.cw;have f5:=Dc.Bw 5;have CS:=Dc.setW 4 ⟨by omega,(fun h=>absurd h (by decide)),(fun _=>by simp),(fun h=>absurd h (by decide)),fun h=>absurd h (by decide)⟩;have hb6:=hb5.trans (Dc.low (.int .i64 4) 5);go_wp2;go_ret2;exact⟨⟨_,_,rfl,(fun _ _=>⟨_,_,_,_,CS⟩),fun h=>by cases h⟩,hb6⟩
 by_cases e3:l[0]=⟨#[98,108,111,99,107]⟩
 ·rw[e3]at d0;go_upto_region 19 with fail;go_cut[153]from 122 to 152 (fun v wx=>∃r:Bool,v=.bool r/\(r=false->(wh=3\/wh=4\/wh=9)/\l.length=2/\nm (l.getD 1 Bv)=true)/\AA6 w1 wx)
  ·have cw:=hR.cw
   cases hw3:((wh:Int) !=3)with
   |false=>
    have hb0:wh=3\/wh=4\/wh=9:=(by have:(wh:Int)=3:=(by simpa using hw3);omega);replace hb0:=hidden hb0
    cases h2:((l.length:Int) !=2)with
    |true=>
     go_wp2;go_meet
     exact⟨_,rfl,(fun h=>by cases h),AL⟩
    |false=>
     have hl2:l.length=2:=by
      have:(l.length:Int)=2:=(by simpa using h2);omega
     have C8:1<l.length:=(by omega);have Fw:(1:Int)<l.length:=(by omega);obtain⟨_,rfl,hz1,d1⟩:=EN hl C8 hz;replace d1:=AA h0 d1;generalize l.getD 1 Bv=s1 at*;have hb:=AJ w1 (.cells #[.string s1] 9);have hN:=Bn (Below.refl (w1.alloc (.cells #[.string s1] 9)).heap.size _) (DN (l:=[s1]) (Ae.alloc w1 [.string s1] 9) ⟨show 1<=10000000 by decide,by simpa using hz1⟩);simp only[List.length_cons,List.length_nil,Nat.zero_add,List.all_cons,List.all_nil,Bool.and_true]at hN;replace hl2:=hidden hl2;generalize hv:nm s1=v at*;replace hv:=hidden hv;go_wp2_with fail;refine hN.mono ?_;rintro e w3 ⟨rfl,rfl⟩;cases v
     ·go_wp2;go_meet;exact⟨_,rfl,(fun h=>by cases h),hb⟩
     ·go_wp2;go_meet
      exact⟨_,rfl,(fun _=>⟨hb0.out,hl2.out,by trivial⟩),hb⟩
   |true=>
    cases hw4:((wh:Int) !=4)with
    |false=>
     have hb0:wh=3\/wh=4\/wh=9:=(by have:(wh:Int)=4:=(by simpa using hw4);omega);replace hb0:=hidden hb0
     cases h2:((l.length:Int) !=2)with
     |true=>
      go_wp2;go_meet
      exact⟨_,rfl,(fun h=>by cases h),AL⟩
     |false=>
      have hl2:l.length=2:=by
       have:(l.length:Int)=2:=(by simpa using h2);omega
      have C8:1<l.length:=(by omega);have Fw:(1:Int)<l.length:=(by omega);obtain⟨_,rfl,hz1,d1⟩:=EN hl C8 hz;replace d1:=AA h0 d1;generalize l.getD 1 Bv=s1 at*;have hb:=AJ w1 (.cells #[.string s1] 9);have hN:=Bn (Below.refl (w1.alloc (.cells #[.string s1] 9)).heap.size _) (DN (l:=[s1]) (Ae.alloc w1 [.string s1] 9) ⟨show 1<=10000000 by decide,by simpa using hz1⟩);simp only[List.length_cons,List.length_nil,Nat.zero_add,List.all_cons,List.all_nil,Bool.and_true]at hN;replace hl2:=hidden hl2;generalize hv:nm s1=v at*;replace hv:=hidden hv;go_wp2_with fail;refine hN.mono ?_;rintro e w3 ⟨rfl,rfl⟩;cases v
      ·go_wp2;go_meet;exact⟨_,rfl,(fun h=>by cases h),hb⟩
      ·go_wp2;go_meet
       exact⟨_,rfl,(fun _=>⟨hb0.out,hl2.out,by trivial⟩),hb⟩
    |true=>
     cases hw9:((wh:Int) !=9)with
     |false=>
      have hb0:wh=3\/wh=4\/wh=9:=(by have:(wh:Int)=9:=(by simpa using hw9);omega);replace hb0:=hidden hb0
      cases h2:((l.length:Int) !=2)with
      |true=>
       go_wp2;go_meet
       exact⟨_,rfl,(fun h=>by cases h),AL⟩
      |false=>
       have hl2:l.length=2:=by
        have:(l.length:Int)=2:=(by simpa using h2);omega
       have C8:1<l.length:=(by omega);have Fw:(1:Int)<l.length:=(by omega);obtain⟨_,rfl,hz1,d1⟩:=EN hl C8 hz;replace d1:=AA h0 d1;generalize l.getD 1 Bv=s1 at*;have hb:=AJ w1 (.cells #[.string s1] 9);have hN:=Bn (Below.refl (w1.alloc (.cells #[.string s1] 9)).heap.size _) (DN (l:=[s1]) (Ae.alloc w1 [.string s1] 9) ⟨show 1<=10000000 by decide,by simpa using hz1⟩);simp only[List.length_cons,List.length_nil,Nat.zero_add,List.all_cons,List.all_nil,Bool.and_true]at hN;replace hl2:=hidden hl2;generalize hv:nm s1=v at*;replace hv:=hidden hv;go_wp2_with fail;refine hN.mono ?_;rintro e w3 ⟨rfl,rfl⟩;cases v
       ·go_wp2;go_meet;exact⟨_,rfl,(fun h=>by cases h),hb⟩
       ·go_wp2;go_meet
        exact⟨_,rfl,(fun _=>⟨hb0.out,hl2.out,by trivial⟩),hb⟩
     |true=>
      go_wp2;go_meet;exact⟨_,rfl,(fun h=>by cases h),AL⟩
  obtain⟨r,rfl,hr,hb⟩:=hcut;replace hR:=hR.kp hb;have hBb:=hBa.trans (hb.mono hBw);cases r;rotate_left
  ·go_wp2;go_ret2;exact⟨⟨_,_,rfl,(fun _ h=>absurd h (by decide)),fun h=>by cases h⟩,hBb⟩
  obtain⟨WJ,hl2,hnm⟩:=hr rfl;have Fw:(1:Int)<l.length:=by omega
  have C8:1<l.length:=by omega
  obtain⟨s1,hg,hz1,d1⟩:=EN hl C8 hz;have hag:a.block<B:=A9 (World.block_lt_of_cell? w0 ⟨a.block,a.off+1,none⟩ d1) hB;replace d1:=AA (AB h0 hb) d1;obtain⟨fr,f,hq⟩:∃fr f,q.fs=fr++[f]:=by
   rcases List.eq_nil_or_concat q.fs with h|⟨fr,f,h⟩
   ·exact absurd h (hR.ss.f (by omega))
   ·exact⟨fr,f,by rw[h,List.concat_eq_append]⟩
  have BO:=hR.kp (Below.refl wc.heap.size wc).drew;obtain⟨FB,cap,hL⟩:=BO.Fy hq;obtain⟨F,vc,xs,⟨hc,hox,⟨pc,cc,rfl⟩,hsp,-⟩,hF⟩:=hL.lb;have LP:=hL.lt
  obtain rfl:a6=⟨FB,fr.length*5,none⟩:=h6 fr f FB cap hq (by
   have e:=hL.lc;change wc.cell? ⟨R,4,none⟩=_ at e;rw[hb.cell hR0.lt]at e
   exact e)
  have hc':wc.cell? ⟨FB,fr.length*5+4,none⟩=some (.slice pc f.bs.length cc):=hc;have Da:=BO.qq.2.2.2;rw[hq]at Da;have hlen:f.bs.length<=k:=Da.last.2.2.2.2.1;have hkk:=BO.kk;have EY:(Value.slice pc f.bs.length cc).ownBlock≠some R:=own_ne hox BO.typ (by decide);have DT:(Value.slice pc f.bs.length cc).ownBlock≠some a.block:=Ed hox hag;have hsz:B<=wc.drew.heap.size:=AX hBw hb.size;have EK:(Value.slice pc f.bs.length cc).ownBlock≠some FB:=own_ne hox LP (by decide);have Qi:=fun w=>D8 (f.bs.length:Int) 256 w;go_wp2_with fail;refine(Qi _).mono ?_;rintro e w3 ⟨⟨r,rfl,hr2⟩,rfl⟩;go_wp2;refine AV (S:=Ad wc.drew B 82 9 9 10 13 [.string s1,.slice none 0 0,.slice none 0 0,.int .i64 0,.int .i64 0,.string ⟨#[]⟩,.int .i64 0,.slice none 0 0,.int .i64 0] f.bs.length xs (.slice pc f.bs.length cc) ⟨FB,fr.length*5+4,none⟩) rfl (by kernel_rfl) (Ad.start (AL)) ?_;iterate 9((apply AU.z rfl;intro V L w1 _ _ _ z hK;(try(have hs:=z.f 13 (by kernel_rfl);(have c1:=z.s.cellOf hs hc EK;have c2:=z.s.cellOf hs (show wc.drew.cell? ⟨a.block,a.off+1,none⟩=some (.string s1)from d1) DT)));go_simp;exact hK (z.s.keep rfl rfl rfl);intros;rfl))
  (apply AU.w rfl;intro V L w1 _ _ _ z hK;go_simp;exact hK rfl (z.s.made (z.o 10 (by kernel_rfl)) rfl _);(try simp only[pE]));(refine AU.free (fun _=>rfl) (fun V L w1 _ _ hS hi hR hd hK=>hS.go hi (hR.out (13) _ (by kernel_rfl) hi) (hd.out (9) (by kernel_rfl)) (ny) (underlying64) (hox) rfl rfl rfl rfl rfl rfl (by decide) (by simp[Value.oneCell']) (by unfold maxLen;omega) fun v' w' h=>hK.out _ _ rfl h) ?_;(try simp only[pE]));iterate 2((apply AU.z rfl;intro V L w1 _ _ _ z hK;(try(have hs:=z.f 13 (by kernel_rfl);(have c1:=z.s.cellOf hs hc EK;have c2:=z.s.cellOf hs (show wc.drew.cell? ⟨a.block,a.off+1,none⟩=some (.string s1)from d1) DT)));go_simp;exact hK (z.s.keep rfl rfl rfl);intros;rfl))
  (apply AU.val undef (fun _=>rfl);intro V L w1 _ _ hS hi hR hd hK;have ha:=hd.out (10) (by kernel_rfl);(have cs:=hS.cellOf hi hc EK;have fs:=hS.EA hi (o:=fr.length*5+4) LP.lt (LP.Bw _) EK);have hS2:=hS.stored ha hi rfl;obtain⟨pu,ku,CX⟩:=hS.val ha;rw[CX]at hS2;simp only[CX];go_simp;exact hK.out _ _ (by simp only[CX];rfl) hS2;simp only[Act.put]);refine AU.nil fun V w1 hS=>?_;obtain⟨Dc,hb4⟩:=hS.Yq (d:=Pb ⟨s1,[],[],⟨0,⟨0,⟨#[]⟩,0⟩,[],0⟩⟩) (q':={q with fs:=fr++[{f with bs:=f.bs++[⟨s1,[],[],⟨0,⟨0,⟨#[]⟩,0⟩,[],0⟩⟩]}]}) rfl rfl BO hsp hc hox (by simp) (by decide) (fun w1 pb hlow hx=>⟨[]++([]++(([]++[])++[])),Af.of (AP.cc (hx.c 0 _ rfl) rfl (AP.cr (l:=[]) (hx.c 1 _ rfl) AZ.nil (AP.cr (l:=[]) (hx.c 2 _ rfl) AZ.nil (AP.ca (l:=[dN 0,Ls ⟨0,⟨#[]⟩,0⟩,.row 9 1 [],dN 0]) (Pz (x:=⟨0,⟨0,⟨#[]⟩,0⟩,[],0⟩) (hx.c 3 _ rfl) (hx.c 4 _ rfl) (hx.c 5 _ rfl) (hx.c 6 _ rfl) (hx.c 7 _ rfl) (hx.c 8 _ rfl) AZ.nil).l AP.cn)))),by simp⟩) rfl rfl (by rw[<-hF,List.map_append];rfl) ⟨BO.qq.1.up (Aa) fun _ h=>QW.up (Aa) h,BO.qq.2.1.up (Aa) fun _ h=>h,BO.qq.2.2.1.up (Aa) fun _ h=>h,Da.turn (Aa) (fun _ h=>QV.up (Aa) h) ⟨Da.last.1,Da.last.2.1,Da.last.2.2.1.up (Aa) fun _ h=>h,Da.last.2.2.2.1.up (Aa) fun _ h=>h,Da.last.2.2.2.2.snoc (fun _ h=>WI.up (Aa) h) ⟨hz1,Rw.nil,Rw.nil,(fun h=>absurd (show(0:Int)=1 from h) (by decide)),(fun h=>absurd (show(0:Int)=2 from h) (by decide)),AY,Rw.nil⟩⟩⟩ ⟨BO.ss.r,(fun h=>by omega),(fun _=>by simp),(fun h=>by omega),fun h=>by omega⟩ hk;have hb5:=(hBb.trans ((Below.refl wc.heap.size wc).drew.mono (AX hBw hb.size))).trans hb4;have c5:=Dc.cw;have f5:=Dc.Bw 5;have CS:=Dc.setW 5 ⟨by omega,(fun h=>absurd h (by decide)),(fun _=>by simp),(fun _ _=>⟨fr,_,f.bs,_,rfl,rfl⟩),fun h=>absurd h (by decide)⟩;have hb6:=hb5.trans (Dc.low (.int .i64 5) 5);go_wp2;go_ret2;exact⟨⟨_,_,rfl,(fun _ _=>⟨_,_,_,_,CS⟩),fun h=>by cases h⟩,hb6⟩
 by_cases e4:l[0]=⟨#[112,104,105]⟩
 ·rw[e4]at d0;have hP:Calls prog 237 #[.slice (some a) l.length c,.int .i64 2,.bool false] w1 fun e w'=>VY w1 w' 2 l.length e/\AA6 w1 w':=Oi h0 hl hz 2 (by decide) false;go_wp2_with fail;refine hP.mono ?_;rintro e w2 ⟨⟨vb,b,bl,F,rfl,⟨pb,mb,cb,rfl⟩,hbl⟩,hb2⟩;have hR2:=hR.kp hb2;have h02:=AB h0 hb2;go_upto_region 27 with fail;go_cut[205]from 184 to 204 (fun v wx=>∃r:Bool,v=.bool r/\(r=false->wh=5/\b=true)/\AA6 w2 wx)
  ·have cw:=hR2.cw
   cases hw5:((wh:Int) !=5)with
   |true=>
    go_wp2;go_meet
    exact⟨_,rfl,(fun h=>by cases h),AL⟩
   |false=>
    have hw:wh=5:=(by simpa using hw5);replace hw:=hidden hw;cases b
    ·go_wp2;go_meet;exact⟨_,rfl,(fun h=>by cases h),AL⟩
    ·cases hm:((mb:Int)==0)with
     |true=>
      go_wp2;go_meet
      exact⟨_,rfl,(fun h=>by cases h),AL⟩
     |false=>
      have h2l:=(hbl rfl).1;have C8:1<l.length:=(by omega);have Fw:(1:Int)<l.length:=(by omega);obtain⟨s1,hg,hz1,d1⟩:=EN hl C8 hz;replace d1:=AA h02 d1;have hb3:=AJ w2 (.cells #[.string s1] 9);have hN:=Bn (Below.refl (w2.alloc (.cells #[.string s1] 9)).heap.size _) (DN (l:=[s1]) (Ae.alloc w2 [.string s1] 9) ⟨show 1<=10000000 by decide,by simpa using hz1⟩);simp only[List.length_cons,List.length_nil,Nat.zero_add,List.all_cons,List.all_nil,Bool.and_true]at hN;generalize nm s1=v at hN;go_wp2_with fail;refine hN.mono ?_;rintro e w3 ⟨rfl,rfl⟩;go_wp2;go_meet;exact⟨_,rfl,(fun _=>⟨hw.out,by trivial⟩),hb3⟩
  obtain⟨r,rfl,hr,hb3⟩:=hcut;have hb:=AB hb2 hb3;have hBb:=hBa.trans (hb.mono hBw);cases r;rotate_left
  ·go_wp2;go_ret2;exact⟨⟨_,_,rfl,(fun _ h=>absurd h (by decide)),fun h=>by cases h⟩,hBb⟩
  obtain⟨WJ,rfl⟩:=hr rfl;obtain⟨h2l,hbn,hbv,Nf,hbz⟩:=hbl rfl;clear hr hbl;replace hbv:=hbv.same (w':=wc) fun b hb'=>hb3.block b (hbv.fp b hb').2;obtain⟨w4,rfl⟩:∃w4:World,w4=wc:=⟨_,rfl⟩;replace hR:=hR.kp hb;obtain rfl:mb=bl.length:=by
   obtain⟨_,_,e⟩:=hbv.slice;rw[List.length_map]at e;exact(Value.slice.inj e).2.1
  have hrow:=hbv.view (E:=iQ) (ok:=oBd) aU (fun x g o f h1 h2=>vB h1 h2) (by have:=hz.1;unfold Ln;omega) (fun y hy=>⟨Tz.sz (hbz y hy).1,Tz.sz (hbz y hy).2⟩);obtain⟨_,_,e,-,⟨yJ,-⟩,hat⟩:=hrow;obtain⟨rfl,-,rfl⟩:=Value.slice.inj e;clear e;have hz1':=hz.1;have cl:=hR.cl;go_upto_region 29 with fail;go_cut[215]from 206 to 214 (fun v wx=>∃r:Bool,v=.bool r/\wx=w4)
  ·cases hg:decide ((256:Int)<(bl.length:Int))with
   |true=>
    have QZ:=BK hg;have hgN:256<bl.length:=(by omega);go_wp2;go_meet
    exact⟨_,rfl,rfl⟩
   |false=>
    have QZ:=CJ hg;have hgN:¬256<bl.length:=(by omega);go_wp2;go_meet;exact⟨_,rfl,rfl⟩
  obtain⟨r,rfl,rfl⟩:=hcut;cases r;rotate_left
  ·go_wp2;go_ret2;exact⟨⟨_,_,rfl,(fun _ h=>absurd h (by decide)),fun h=>by cases h⟩,hBb⟩
  obtain⟨w4,rfl⟩:∃w4:World,w4=wc:=⟨_,rfl⟩;have Fw:(1:Int)<l.length:=by omega
  have C8:1<l.length:=by omega
  obtain⟨s1,hg,hz1,d1⟩:=EN hl C8 hz;replace d1:=AA (AB h0 hb) d1;clear hg cl;have hal:=AJ w4 (.cells #[.string s1,.slice none 0 0] 211);have hX:=Ae.alloc w4 [.string s1,.slice none 0 0] 211;have wP:DC (w4.alloc (.cells #[.string s1,.slice none 0 0] 211)) w4.heap.size 211:=⟨_,heap_alloc_new w4 _⟩;have vJ:Own (w4.alloc (.cells #[.string s1,.slice none 0 0] 211)) w4.heap.size (w4.alloc (.cells #[.string s1,.slice none 0 0] 211)).heap.size (PZ ⟨s1,[]⟩) w4.heap.size 0:=
   ⟨AQ,by simp,AQ,[]++[],Af.of (AP.cc (hX.c 0 _ rfl) rfl (AP.cr (l:=[]) (hX.c 1 _ rfl) AZ.nil AP.cn)),by simp,by simp⟩
  go_upto_region 32 with fail;have qM:(w4.alloc (.cells #[.string s1,.slice none 0 0] 211)).heap.size=w4.heap.size+1:=by simp
  generalize pR:w4.alloc _=W5 at*;obtain⟨xb,hxb⟩:∃xb,w4.heap.size=xb:=⟨_,rfl⟩;rw[hxb]at hal hX wP vJ qM⊢;go_wp2;go_loopw[13] (fun i wr=>∃(j:Nat) (il:List TH),j<=bl.length/\i=.int .i64 (j:Int)/\il.length=j/\Own wr xb wr.heap.size (PZ ⟨s1,il⟩) xb 0/\DC wr xb 211/\(∀y∈il,qIn y)/\Below xb w4 wr) (fun i _=>bl.length-(intOf i).toNat);exact⟨0,[],AY,rfl,rfl,vJ,wP,(fun y h=>by cases h),hal⟩;obtain⟨j,il,hj,rfl,hil,vJ,wP,hiz,hlo⟩:=hrel;obtain⟨wo,rfl⟩:∃wo:World,wo=wr:=⟨_,rfl⟩;replace hil:=hidden hil;by_cases hend:j=bl.length
  ·subst hend;have Dc:=hR.kp (show Below w4.heap.size w4 wo by rw[hxb];exact hlo);obtain⟨fr,f,br,b,hq,hbq⟩:=Dc.ss.b (by omega) (by omega);have BO:=Dc.kp (Below.refl wo.heap.size wo).drew;obtain⟨FB,cap,hF⟩:=BO.Fy hq;have Qp:=hlo;rw[<-hxb]at Qp;have h1o:=AB hb Qp
   obtain rfl:a6=⟨FB,fr.length*5,none⟩:=h6 fr f FB cap hq (by
    have e:=hF.lc;change wo.cell? ⟨R,4,none⟩=_ at e;rw[h1o.cell hR0.lt]at e
    exact e)
   obtain⟨BB,cap2,hL⟩:=BO.lastB hF hbq;have LP:=hF.lt;have TT:=hL.lt;obtain⟨nb,hnb⟩:∃nb,nb=br.length+1:=⟨_,rfl⟩;have gI:wo.cell? ⟨FB,fr.length*5+4,none⟩=some (.slice (some ⟨BB,0,none⟩) nb cap2):=(by rw[hnb];exact hL.lc);obtain⟨F2,vc,xs,⟨hc,hox,⟨pc,cc,rfl⟩,hsp,-⟩,hF2⟩:=hL.lp;have Da:=BO.qq.2.2.2;rw[hq]at Da;have GU:=Da.last.2.2.2.2;rw[hbq]at GU;have Jh:=GU.1;rw[List.length_append,List.length_singleton]at Jh;have hlenp:b.ps.length<=k:=GU.last.2.1.1;have hkk:=BO.kk;have hix:(nb:Int)-1=(br.length:Int):=(by omega);have Ns:(br.length:Int)<nb:=(by omega);have Pm:br.length<nb:=(by omega);have hwr:IntKind.i64.wrap (br.length:Int)=br.length:=IntWalk.i64_in _ (by omega);have hll:=BO.ll;have hwl:IntKind.i64.wrap (lg+1)=lg+1:=IntWalk.i64_in _ (by omega);replace hnb:=hidden hnb;obtain⟨vi,Fi,x0,x1,wG,hFi⟩:=vJ.ph;obtain⟨pi,ci,rfl⟩:=wG.slice;rw[List.length_map]at x1 wG;have nJ:N<=xb:=(by rw[<-hxb];exact hR.own.sz);have hBx:B<=xb:=AX (AX hR.own.ge (Nat.le_of_lt hR.own.lt)) nJ;have EK:(Value.slice pc b.ps.length cc).ownBlock≠some FB:=own_ne hox LP (by decide);have GY:(Value.slice pc b.ps.length cc).ownBlock≠some BB:=own_ne hox TT (by decide);have FL:(Value.slice pc b.ps.length cc).ownBlock≠some xb:=fun e=>by
    have:=hsp.JI hc e;omega
   have hsz:B<=wo.drew.heap.size:=AX (AX Dc.own.ge (Nat.le_of_lt Dc.own.lt)) Dc.own.sz;replace hil:=hil.out;have AD3:Rw 10000000 qIn il:=⟨by omega,hiz⟩;replace hil:=hidden hil;replace hq:=hidden hq;replace hbq:=hidden hbq;go_wp2_with fail;refine AV (S:=Ad wo.drew B 211 2 14 15 18 [.string s1,.slice pi il.length ci] b.ps.length xs (.slice pc b.ps.length cc) ⟨BB,br.length*9+1,none⟩) rfl (by kernel_rfl) (Ad.start (AL)) ?_;(iterate 14((apply AU.z rfl;intro V L w1 _ _ _ z hK;(try(have hs:=z.f 18 (by kernel_rfl);(have c1:=z.s.cellOf hs (show wo.drew.cell? ⟨FB,fr.length*5+4,none⟩=some (.slice (some ⟨BB,0,none⟩) nb cap2)from gI) EK;have c2:=z.s.cellOf hs hc GY;have c3:=z.s.cellOf hs (show wo.drew.cell? ⟨xb,0,none⟩=some (.string s1)from x0) FL;have c4:=z.s.cellOf hs (show wo.drew.cell? ⟨xb,0+1,none⟩=some (.slice pi il.length ci)from x1) FL)));go_simp;exact hK (z.s.keep rfl rfl rfl);intros;rfl)));(apply AU.w rfl;intro V L w1 _ _ _ z hK;go_simp;exact hK rfl (z.s.made (z.o 15 (by kernel_rfl)) rfl _);(try simp only[pE]));(refine AU.free (fun _=>rfl) (fun V L w1 _ _ hS hi hR hd hK=>hS.go hi (hR.out (18) _ (by kernel_rfl) hi) (hd.out (14) (by kernel_rfl)) (AAC) (underlying74) (hox) rfl rfl rfl rfl rfl rfl (by decide) (by simp[Value.oneCell']) (by unfold maxLen;omega) fun v' w' h=>hK.out _ _ rfl h) ?_;(try simp only[pE]));(iterate 2((apply AU.z rfl;intro V L w1 _ _ _ z hK;(try(have hs:=z.f 18 (by kernel_rfl);(have c1:=z.s.cellOf hs (show wo.drew.cell? ⟨FB,fr.length*5+4,none⟩=some (.slice (some ⟨BB,0,none⟩) nb cap2)from gI) EK;have c2:=z.s.cellOf hs hc GY;have c3:=z.s.cellOf hs (show wo.drew.cell? ⟨xb,0,none⟩=some (.string s1)from x0) FL;have c4:=z.s.cellOf hs (show wo.drew.cell? ⟨xb,0+1,none⟩=some (.slice pi il.length ci)from x1) FL)));go_simp;exact hK (z.s.keep rfl rfl rfl);intros;rfl)));(apply AU.val undef (fun _=>rfl);intro V L w1 _ _ hS hi hR hd hK;have ha:=hd.out (15) (by kernel_rfl);(have cs:=hS.cellOf hi hc GY;have fs:=hS.EA hi (o:=br.length*9+1) TT.lt (TT.Bw _) GY);have hS2:=hS.stored ha hi rfl;obtain⟨pu,ku,CX⟩:=hS.val ha;rw[CX]at hS2;simp only[CX];go_simp;exact hK.out _ _ (by simp only[CX];rfl) hS2;simp only[Act.put]);refine AU.nil fun V w6 hS=>?_;obtain⟨CS,hb5⟩:=hS.Yq (d:=PZ ⟨s1,il⟩) (q':={q with fs:=fr++[{f with bs:=br++[{b with ps:=b.ps++[⟨s1,il⟩]}]}]}) rfl rfl BO hsp hc hox (by simp) (by decide) (fun w1 pb hlow hx=>⟨Fi++[],Af.of (AP.cc (hx.c 0 _ rfl) rfl (AP.cr (hx.c 1 _ rfl) (AZ.mono nJ (wG.same fun b hb=>hlow.block b (wG.fp b hb).2)) AP.cn)),by simpa using hFi⟩) rfl rfl (by rw[<-hF2,List.map_append];rfl) ⟨BO.qq.1.up (Aa) fun _ h=>QW.up (Aa) h,BO.qq.2.1.up (Aa) fun _ h=>h,BO.qq.2.2.1.up (Aa) fun _ h=>h,Da.turn (Aa) (fun _ h=>QV.up (Aa) h) ⟨Da.last.1,Da.last.2.1,Da.last.2.2.1.up (Aa) fun _ h=>h,Da.last.2.2.2.1.up (Aa) fun _ h=>h,GU.turn (Aa) (fun _ h=>WI.up (Aa) h) ⟨GU.last.1,GU.last.2.1.snoc (fun _ h=>h) ⟨hz1,AD3⟩,GU.last.2.2.1.up (Aa) fun _ h=>gG.up (Aa) h,GU.last.2.2.2⟩⟩⟩ ⟨BO.ss.r,(fun h=>by omega),(fun _=>by simp),(fun _ _=>⟨fr,_,br,_,rfl,rfl⟩),fun h=>by omega⟩ hk;have hb6:=(hBb.trans (hlo.mono hBx)).trans (((Below.refl wo.heap.size wo).drew.mono hsz).trans hb5);have l5:=CS.cl;have f6:=CS.Bw 6;have ES:=CS.qH (lg+1) (by omega);have BJ:=hb6.trans (CS.low (.int .i64 (lg+1)) 6);clear hS hsp hF hc hox EK GY FL BO hR hL hR0 hF2 wG x0 x1 vJ wP;go_wp2;go_ret2;exact⟨⟨_,_,rfl,(fun _ _=>⟨_,_,_,_,ES⟩),fun h=>by cases h⟩,BJ⟩
  ·have hlt:j<bl.length:=(by omega);have A8:(j:Int)<bl.length:=(by omega);obtain⟨ab,rfl,⟨f0,y0⟩,f1,⟨f2,y2⟩,f3⟩:=hat j bl[j] (by simp[hlt]);obtain⟨gb,rfl⟩:=hbv.addr;simp only[At,Dk,Nat.zero_add]at f0 f1 f2 f3;have hyz:=hbz bl[j] (List.getElem_mem hlt);have hbb:=World.block_lt_of_cell? w4 _ f0;rw[hxb]at hbb;have Qp:=hlo;rw[<-hxb]at Qp;replace f0:=AA Qp f0;replace f1:=AA Qp f1;replace f2:=AA Qp f2;replace f3:=AA Qp f3;clear hat;generalize bl[j]=y at*;have hXd:=vJ.kp (w1:=wo.drew) (Below.refl wo.heap.size wo).drew;have s1p:=hXd.spot;unfold PZ at s1p;have s2p:=s1p.nth 1 rfl (n:=1) (by simp[Dt.DF,Dt.wd,dS]);rw[Nat.zero_add]at s2p;obtain⟨vi,xs,hc,hox,pi,ci,rfl⟩:=s2p.owns;rw[List.length_map]at hox hc;have Ze:DC wo.drew xb 211:=wP;have FL:(Value.slice pi il.length ci).ownBlock≠some xb:=own_ne hox Ze (by decide);have GY:(Value.slice pi il.length ci).ownBlock≠some gb:=Ed hox hbb;have AJb:il.length<=10000000:=(by rw[hil.out];omega);have hsz:xb<=wo.drew.heap.size:=Nat.le_of_lt Ze.lt;go_wp2_with fail;refine AV (S:=Ad wo.drew xb 213 4 13 14 16 [.string y.n,.int .i64 y.a.k,.string y.a.s,.int .i64 y.a.n] il.length xs (.slice pi il.length ci) ⟨xb,1,none⟩) rfl (by kernel_rfl) (Ad.start (AL)) ?_;(iterate 13((apply AU.z rfl;intro V L w1 _ _ _ z hK;(try(have hs:=z.f 16 (by kernel_rfl);(have c1:=z.s.cellOf hs hc FL;have g0:=z.s.cellOf hs (show wo.drew.cell? ⟨gb,j*4,none⟩=some (.string y.n)from f0) GY;have g1:=z.s.cellOf hs (show wo.drew.cell? ⟨gb,j*4+1,none⟩=some (.int .i64 y.a.k)from f1) GY;have g2:=z.s.cellOf hs (show wo.drew.cell? ⟨gb,j*4+(1+1),none⟩=some (.string y.a.s)from f2) GY;have g3:=z.s.cellOf hs (show wo.drew.cell? ⟨gb,j*4+(1+2),none⟩=some (.int .i64 y.a.n)from f3) GY)));go_simp;exact hK (z.s.keep rfl rfl rfl);intros;rfl)));(apply AU.w rfl;intro V L w1 _ _ _ z hK;go_simp;exact hK rfl (z.s.made (z.o 14 (by kernel_rfl)) rfl _);(try simp only[pE]));(refine AU.free (fun _=>rfl) (fun V L w1 _ _ hS hi hR hd hK=>hS.go hi (hR.out (16) _ (by kernel_rfl) hi) (hd.out (13) (by kernel_rfl)) (AAE) (underlying209) (hox) rfl rfl rfl rfl rfl rfl (by decide) (by simp[Value.oneCell']) (by unfold maxLen;omega) fun v' w' h=>hK.out _ _ rfl h) ?_;(try simp only[pE]));(apply AU.z rfl;intro V L w1 _ _ _ z hK;(try(have hs:=z.f 16 (by kernel_rfl);(skip)));go_simp;exact hK (z.s.keep rfl rfl rfl);intros;rfl);(apply AU.val undef (fun _=>rfl);intro V L w1 _ _ hS hi hR hd hK;have ha:=hd.out (14) (by kernel_rfl);(have cs:=hS.cellOf hi hc FL;have fs:=hS.EA hi (o:=1) Ze.lt (Ze.Bw 1) FL);have hS2:=hS.stored ha hi rfl;obtain⟨pu,ku,CX⟩:=hS.val ha;rw[CX]at hS2;simp only[CX];go_simp;exact hK.out _ _ (by simp only[CX];rfl) hS2;simp only[Act.put]);refine AU.nil fun V w6 hS=>?_;obtain⟨⟨N6,ho6⟩,hb6,-,w7,u6,iF,hg6⟩:=hS.done (d:=xG ⟨y.n,y.a⟩) rfl rfl s2p (AL) hc hox (by simp) (fun w1 pb _ _ _ hx=>⟨[]++[],Af.of (AP.cc (hx.c 0 _ rfl) rfl (AP.ca (l:=[dN y.a.k,dS y.a.s,dN y.a.n]) (f1:=[]) (AP.cc (hx.c 1 _ rfl) rfl (AP.cc (hx.c 2 _ rfl) rfl (AP.cc (hx.c 3 _ rfl) rfl AP.cn))) AP.cn)),by simp⟩) rfl rfl;have ho7:Own w6 xb w6.heap.size (PZ ⟨s1,il++[⟨y.n,y.a⟩]⟩) xb 0:=by
    have e:=ho6.up ho6.sz (AQ);simpa[PZ]using e
   have AEV:DC w6 xb 211:=by
    obtain⟨cur,ht⟩:=Ze;rw[iF];exact Ew (hg6.trans ht) _ _
   have ADu:Below xb w4 w6:=hlo.trans (((Below.refl wo.heap.size wo).drew.mono hsz).trans hb6);have hwx:IntKind.i64.wrap ((j:Int)+1)=((j+1:Nat):Int):=IntWalk.i64_in _ (by omega);have qg:(il++[(⟨y.n,y.a⟩:TH)]).length=j+1:=(by simp[hil.out]);have AD2:∀z∈il++[(⟨y.n,y.a⟩:TH)],qIn z:=fun z h=>by
    rcases List.mem_append.1 h with h|h
    ·exact hiz z h
    ·rw[List.mem_singleton.1 h];exact hyz
   generalize il++[(⟨y.n,y.a⟩:TH)]=il6 at*;replace qg:=hidden qg;clear hS iF hg6 ho6 hb6 hlo s2p s1p hc hox FL GY;go_wp2;go_roundw;exact⟨j+1,il6,hlt,by go_num,qg.out,ho7,AEV,AD2,ADu⟩;simp[intOf];omega
 replace e1:=Fa e1 rfl;replace e2:=Fa e2 rfl;replace e3:=Fa e3 rfl;replace e4:=Fa e4 rfl;generalize l[0]=s at*;go_wp2;go_ret2;exact⟨⟨_,_,rfl,(fun h=>by cases h),fun _=>hb1⟩,hBa⟩
end Go.Proofs.YtlffomedflegdaaGreatDoor
