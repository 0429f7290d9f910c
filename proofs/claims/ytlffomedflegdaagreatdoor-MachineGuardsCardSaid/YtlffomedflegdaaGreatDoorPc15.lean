/- Part 15 of the proof: Or, Os, Ot, Ou, Ov. -/
import Derived.Test.YtlffomedflegdaaGreatDoorPc14
set_option linter.all false
set_option maxHeartbeats 16000000
set_option maxRecDepth 100000
namespace Go.Proofs.YtlffomedflegdaaGreatDoor
open Go.Proofs.Tryz
open Go.RowKit
variable {B BB FB N R cap cap2 g k:Nat}{b:Bk}{br:List Bk}{f:Fn}{fr:List Fn}{l:List ByteArray}{lg wh:Int}{q:Pg}{u v:Value}{w w0:World}
section
open Word Num Dp
theorem AAE:(prog.info? 213).map (fun i=>(i.zero,i.size,i.bytes))=some (some (.agg #[.string .empty,.int .i64 0,.string .empty,.int .i64 0]),4,48):=by kernel_rfl
theorem AZ.addr{s n c:Nat}{e:TypeId}{l:List Dt}{a:Addr}{fp:List Nat}(h:AZ w B e s l (.slice (some a) n c) fp):∃g,a=⟨g,0,none⟩:=by
 rcases h with⟨h1,_⟩|⟨g,_,_,_,h1,_⟩
 ·cases h1
 grind
theorem Own.ph{o:Nat}{p:Ph}(h:Own w B N (PZ p) g o):∃v fp,w.cell? ⟨g,o,none⟩=some (.string p.d)/\w.cell? ⟨g,o+1,none⟩=some v/\AZ w B 213 4 (p.is.map xG) v fp/\fp.Nodup:=by
 obtain⟨fp,hL,hn,-⟩:=h.t;unfold PZ dS Af AP at hL;obtain⟨f1,f2,rfl,h1,h2⟩:=hL;unfold Af at h1;unfold AP at h2;obtain⟨h3,rfl,-⟩:=h1;obtain⟨f3,f4,rfl,h4,h5⟩:=h2;unfold AP at h5;subst h5;obtain⟨v,hc,hv⟩:=h4.row;exact⟨v,_,h3,by simpa[Dt.wd]using hc,hv,by simpa using(BN.1 hn).2⟩
theorem AAC:(prog.info? 211).map (fun i=>(i.zero,i.size,i.bytes))=some (some (.agg #[.string .empty,.slice none 0 0]),2,40):=by kernel_rfl
theorem dH(h0:AA6 w0 w)(hR:Ct w B N R q wh lg k)(hB:w0.heap.size<=B)(hk:k+1<=5000000)(hl:Row DL 1 w0 u l)(hz:Wz l)(hp:0<l.length):Calls prog 214 #[.pointer (some ⟨R,0,none⟩),u] w fun e w'=>Gb w B R k e w'/\Below B w w':=by
 obtain⟨p,c,rfl⟩:=hl.slice;obtain⟨a,rfl,-⟩:=CV hl hp;have d0:=AA h0 (Bg hl hp);have PV:(0:Int)<l.length:=by omega
 have hBw:B<=w.heap.size:=by have:=hR.own.ge;have:=hR.lt;omega
 obtain⟨vF,xsF,J7,-,⟨pF,cF,rfl⟩,-⟩:=hR.Tc;have hal:=AJ w (.cells #[.string ⟨#[]⟩,.string ⟨#[]⟩,.slice none 0 0,.slice none 0 0,.slice none 0 0] 66);have II:=AA hal J7;go_enter func214,ntmps214;go_upto_if 23 with fail;generalize hW:w.alloc _=W at*;go_cut[6]from 23 to 36 (fun v wx=>(∃a6,v=.pointer (some a6)/\∀(fr:List Fn) (f:Fn) (FB cap:Nat),q.fs=fr++[f]->wx.cell? ⟨R,4,none⟩=some (.slice (some ⟨FB,0,none⟩) (fr.length+1) cap)->a6=⟨FB,fr.length*5,none⟩)/\AA6 w wx)
 ·rcases List.eq_nil_or_concat q.fs with hq|⟨fr,f,hq⟩
  ·have WU:q.fs.length=0:=(by rw[hq];rfl);have Fw:¬(0:Int)<q.fs.length:=(by omega);have C8:¬0<q.fs.length:=(by omega);replace hq:=Wx hq;replace WU:=Wx WU;go_wp2;go_meet;exact⟨⟨_,rfl,fun fr f FB cap h _=>by rw[hq.out]at h;simp at h⟩,hal⟩
  ·rw[List.concat_eq_append]at hq;obtain⟨FB,cap,hL⟩:=(hR.kp hal).Fy hq;have TJ:=hL.lc;obtain⟨rfl,hn,rfl⟩:pF=some ⟨FB,0,none⟩/\q.fs.length=fr.length+1/\cF=cap:=by
    rw[II]at TJ;simpa using TJ
   have Fw:(0:Int)<q.fs.length:=(by omega);have C8:0<q.fs.length:=(by omega);have hlen:q.fs.length<=k:=hR.qq.2.2.2.1;have hkk:=hR.kk;have hix:(q.fs.length:Int)-1=(fr.length:Int):=(by omega);have Ns:(fr.length:Int)<q.fs.length:=(by omega);have Pm:fr.length<q.fs.length:=(by omega);have hwr:=wrN (n:=fr.length) (by omega);replace hq:=Wx hq;replace hn:=Wx hn;go_wp2;simp only[decide_eq_true C8];refine AO (S:=fun _ v=>AA6 W v) rfl (by kernel_rfl) Ac ?_;(iterate 14((apply Ab.z rfl;intro L w1 _ _ _ z hK;(have c1:=AA z.s II);go_simp;exact hK (z.s);rfl)));refine Ab.nil fun w4 Bb=>?_;go_wp2;go_meet
   ·exact⟨⟨_,rfl,fun fr' f' TY cap' h h2=>by
    rw[hq.out]at h;obtain⟨rfl,-⟩:=List.append_inj' h rfl;rw[AA Bb II]at h2;obtain⟨rfl,-⟩:FB=TY/\_:=by simpa using h2
    rfl⟩,AB hal Bb⟩
 obtain⟨⟨a6,rfl,h6⟩,hb1⟩:=hcut;obtain⟨w1,rfl⟩:=again wc;replace hR:=hR.kp hb1;replace d0:=AA hb1 d0;replace h0:=AB h0 hb1;have hBa:=hb1.mono hBw;replace hBw:B<=w1.heap.size:=AX hBw hb1.size;have hR0:=hR;by_cases e1:l[0]=⟨#[112,97,114,97,109]⟩
 ·rw[e1]at d0;go_upto_region 6 with fail;go_cut[51]from 42 to 50 (fun v wx=>∃r:Bool,v=.bool r/\(r=false->(wh=3)/\l.length=3/\nm (l.getD 1 Bv)=true)/\AA6 w1 wx)
  ·have hT:=Gr h0 hl hz;have cw:=hR.cw
   cases hw3:((wh:Int) !=3)with
   |false=>
    have hb0:wh=3:=(by have:(wh:Int)=3:=(by simpa using hw3);omega);replace hb0:=Wx hb0;go_wp2_with fail;refine hT.mono ?_;rintro e w3 ⟨⟨b,rfl,ht⟩,hb⟩;cases b
    ·go_wp2;go_meet;exact⟨_,rfl,(fun h=>by cases h),hb⟩
    ·replace ht:=Wx (ht rfl);go_wp2;go_meet
     exact⟨_,rfl,(fun _=>⟨hb0.out,ht.out⟩),hb⟩
   |true=>
    go_wp2;go_meet;exact⟨_,rfl,(fun h=>by cases h),AL⟩
  obtain⟨r,rfl,hr,hb⟩:=hcut;replace hR:=hR.kp hb;have hBb:=hBa.trans (hb.mono hBw);cases r;rotate_left
  ·go_wp2;go_ret2;exact⟨ABJ (by decide),hBb⟩
  obtain⟨WJ,hl3,hnm⟩:=hr rfl;have Fw:(1:Int)<l.length:=by omega
  have Qj:(2:Int)<l.length:=by omega
  have C8:1<l.length:=by omega
  have LQ:2<l.length:=by omega
  obtain⟨s1,s2,hg,hz1,hz2,d1,d2⟩:=KF hl hl3 hz;have hag:a.block<B:=A9 (World.block_lt_of_cell? w0 ⟨a.block,a.off+1,none⟩ d1) hB;rw[hg]at hnm;replace d1:=AA (AB h0 hb) d1;replace d2:=AA (AB h0 hb) d2;replace hnm:=Wx hnm;obtain⟨fr,f,hq⟩:∃fr f,q.fs=fr++[f]:=by
   rcases List.eq_nil_or_concat q.fs with h|⟨fr,f,h⟩
   ·exact absurd h (hR.ss.f (by omega))
   ·exact⟨fr,f,by rw[h,List.concat_eq_append]⟩
  have BO:=hR.kp (Below.refl wc.heap.size wc).drew;obtain⟨FB,cap,hL⟩:=BO.Fy hq;obtain⟨F,vc,xs,⟨hc,hox,⟨pc,cc,rfl⟩,hsp,-⟩,hF⟩:=hL.lp;have LP:=hL.lt
  obtain rfl:a6=⟨FB,fr.length*5,none⟩:=h6 fr f FB cap hq (by
   have e:=hL.lc;change wc.cell? ⟨R,4,none⟩=_ at e;rw[hb.cell hR0.lt]at e
   exact e)
  have hc':wc.cell? ⟨FB,fr.length*5+2,none⟩=some (.slice pc f.ps.length cc):=hc;have Da:=BO.qq.2.2.2;rw[hq]at Da;have hlen:f.ps.length<=k:=Da.last.2.2.1.1;have hkk:=BO.kk;have EY:(Value.slice pc f.ps.length cc).ownBlock≠some R:=own_ne hox BO.typ (by decide);have DT:(Value.slice pc f.ps.length cc).ownBlock≠some a.block:=Ed hox hag;have hsz:B<=wc.drew.heap.size:=AX hBw hb.size;have EK:(Value.slice pc f.ps.length cc).ownBlock≠some FB:=own_ne hox LP (by decide);have Qi:=fun w=>D8 (f.ps.length:Int) 6 w;go_wp2_with fail;refine(Qi _).mono ?_;rintro e w3 ⟨⟨r,rfl,hr2⟩,rfl⟩;go_wp2;refine AV (S:=Ad wc.drew B 71 2 12 13 16 [.string s1,.string s2] f.ps.length xs (.slice pc f.ps.length cc) ⟨FB,fr.length*5+2,none⟩) rfl (by kernel_rfl) (Ad.start (AL)) ?_;iterate 12((apply AU.z rfl;intro V L w1 _ _ _ z hK;(try(have hs:=z.f 16 (by kernel_rfl);(have c1:=z.s.cellOf hs hc EK;have c2:=z.s.cellOf hs (show wc.drew.cell? ⟨a.block,a.off+1,none⟩=some (.string s1)from d1) DT;have c3:=z.s.cellOf hs (show wc.drew.cell? ⟨a.block,a.off+2,none⟩=some (.string s2)from d2) DT)));go_simp;exact hK (z.s.keep rfl rfl rfl);intros;rfl))
  (apply AU.w rfl;intro V L w1 _ _ _ z hK;go_simp;exact hK rfl (z.s.made (z.o 13 (by kernel_rfl)) rfl _);(try simp only[pE]));(refine AU.free (fun _=>rfl) (fun V L w1 _ _ hS hi hR hd hK=>hS.go hi (hR.out (16) _ (by kernel_rfl) hi) (hd.out (12) (by kernel_rfl)) (Q9) (underlying23) (hox) rfl rfl rfl rfl rfl rfl (by decide) (by simp[Value.oneCell']) (by unfold maxLen;omega) fun v' w' h=>hK.out _ _ rfl h) ?_;(try simp only[pE]));iterate 2((apply AU.z rfl;intro V L w1 _ _ _ z hK;(try(have hs:=z.f 16 (by kernel_rfl);(have c1:=z.s.cellOf hs hc EK;have c2:=z.s.cellOf hs (show wc.drew.cell? ⟨a.block,a.off+1,none⟩=some (.string s1)from d1) DT;have c3:=z.s.cellOf hs (show wc.drew.cell? ⟨a.block,a.off+2,none⟩=some (.string s2)from d2) DT)));go_simp;exact hK (z.s.keep rfl rfl rfl);intros;rfl))
  (apply AU.val undef (fun _=>rfl);intro V L w1 _ _ hS hi hR hd hK;have ha:=hd.out (13) (by kernel_rfl);(have cs:=hS.cellOf hi hc EK;have fs:=hS.EA hi (o:=fr.length*5+2) LP.lt (LP.Bw _) EK);have hS2:=hS.stored ha hi rfl;obtain⟨pu,ku,CX⟩:=hS.val ha;rw[CX]at hS2;simp only[CX];go_simp;exact hK.out _ _ (by simp only[CX];rfl) hS2;simp only[Act.put]);refine AU.nil fun V w1 hS=>?_;obtain⟨Dc,hb4⟩:=hS.Yq (d:=IQ ⟨s1,s2⟩) (q':={q with fs:=fr++[{f with ps:=f.ps++[⟨s1,s2⟩]}]}) rfl rfl BO hsp hc hox (by simp) (by decide) (fun w1 pb hlow hx=>⟨[],Af.of (AP.cc (hx.c 0 _ rfl) rfl (AP.cc (hx.c 1 _ rfl) rfl AP.cn)),by simp⟩) rfl rfl (by rw[<-hF,List.map_append];rfl) ⟨BO.qq.1.up (Aa) fun _ h=>QW.up (Aa) h,BO.qq.2.1.up (Aa) fun _ h=>h,BO.qq.2.2.1.up (Aa) fun _ h=>h,Da.turn (Aa) (fun _ h=>QV.up (Aa) h) ⟨Da.last.1,Da.last.2.1,Da.last.2.2.1.snoc (fun _ h=>h) ⟨hz1,hz2⟩,Da.last.2.2.2.1.up (Aa) fun _ h=>h,Da.last.2.2.2.2.up (Aa) fun _ h=>WI.up (Aa) h⟩⟩ ⟨BO.ss.r,(fun h=>by omega),(fun _=>by simp),(fun h=>by omega),fun h=>by omega⟩ hk;have hb5:=(hBb.trans ((Below.refl wc.heap.size wc).drew.mono (AX hBw hb.size))).trans hb4;go_wp2;go_ret2;exact⟨⟨_,_,rfl,(fun _ _=>⟨_,_,_,_,Dc⟩),fun h=>by cases h⟩,hb5⟩
 by_cases e2:l[0]=⟨#[118,97,114]⟩
 ·rw[e2]at d0;go_upto_region 12 with fail;go_cut[93]from 77 to 92 (fun v wx=>∃r:Bool,v=.bool r/\(r=false->(wh=3\/wh=4)/\l.length=3/\nm (l.getD 1 Bv)=true)/\AA6 w1 wx)
  ·have hT:=Gr h0 hl hz;have cw:=hR.cw
   cases hw3:((wh:Int) !=3)with
   |false=>
    have hb0:wh=3\/wh=4:=(by have:(wh:Int)=3:=(by simpa using hw3);omega);replace hb0:=Wx hb0;go_wp2_with fail;refine hT.mono ?_;rintro e w3 ⟨⟨b,rfl,ht⟩,hb⟩;cases b
    ·go_wp2;go_meet;exact⟨_,rfl,(fun h=>by cases h),hb⟩
    ·replace ht:=Wx (ht rfl);go_wp2;go_meet
     exact⟨_,rfl,(fun _=>⟨hb0.out,ht.out⟩),hb⟩
   |true=>
    cases hw4:((wh:Int) !=4)with
    |false=>
     have hb0:wh=3\/wh=4:=(by have:(wh:Int)=4:=(by simpa using hw4);omega);replace hb0:=Wx hb0;go_wp2_with fail;refine hT.mono ?_;rintro e w3 ⟨⟨b,rfl,ht⟩,hb⟩;cases b
     ·go_wp2;go_meet;exact⟨_,rfl,(fun h=>by cases h),hb⟩
     ·replace ht:=Wx (ht rfl);go_wp2;go_meet
      exact⟨_,rfl,(fun _=>⟨hb0.out,ht.out⟩),hb⟩
    |true=>
     go_wp2;go_meet;exact⟨_,rfl,(fun h=>by cases h),AL⟩
  obtain⟨r,rfl,hr,hb⟩:=hcut;replace hR:=hR.kp hb;have hBb:=hBa.trans (hb.mono hBw);cases r;rotate_left
  ·go_wp2;go_ret2;exact⟨ABJ (by decide),hBb⟩
  obtain⟨WJ,hl3,hnm⟩:=hr rfl;have Fw:(1:Int)<l.length:=by omega
  have Qj:(2:Int)<l.length:=by omega
  have C8:1<l.length:=by omega
  have LQ:2<l.length:=by omega
  obtain⟨s1,s2,hg,hz1,hz2,d1,d2⟩:=KF hl hl3 hz;have hag:a.block<B:=A9 (World.block_lt_of_cell? w0 ⟨a.block,a.off+1,none⟩ d1) hB;rw[hg]at hnm;replace d1:=AA (AB h0 hb) d1;replace d2:=AA (AB h0 hb) d2;replace hnm:=Wx hnm;obtain⟨fr,f,hq⟩:∃fr f,q.fs=fr++[f]:=by
   rcases List.eq_nil_or_concat q.fs with h|⟨fr,f,h⟩
   ·exact absurd h (hR.ss.f (by omega))
   ·exact⟨fr,f,by rw[h,List.concat_eq_append]⟩
  have BO:=hR.kp (Below.refl wc.heap.size wc).drew;obtain⟨FB,cap,hL⟩:=BO.Fy hq;obtain⟨F,vc,xs,⟨hc,hox,⟨pc,cc,rfl⟩,hsp,-⟩,hF⟩:=hL.lv;have LP:=hL.lt
  obtain rfl:a6=⟨FB,fr.length*5,none⟩:=h6 fr f FB cap hq (by
   have e:=hL.lc;change wc.cell? ⟨R,4,none⟩=_ at e;rw[hb.cell hR0.lt]at e
   exact e)
  have hc':wc.cell? ⟨FB,fr.length*5+3,none⟩=some (.slice pc f.vs.length cc):=hc;have Da:=BO.qq.2.2.2;rw[hq]at Da;have hlen:f.vs.length<=k:=Da.last.2.2.2.1.1;have hkk:=BO.kk;have EY:(Value.slice pc f.vs.length cc).ownBlock≠some R:=own_ne hox BO.typ (by decide);have DT:(Value.slice pc f.vs.length cc).ownBlock≠some a.block:=Ed hox hag;have hsz:B<=wc.drew.heap.size:=AX hBw hb.size;have EK:(Value.slice pc f.vs.length cc).ownBlock≠some FB:=own_ne hox LP (by decide);have Qi:=fun w=>D8 (f.vs.length:Int) 1024 w;go_wp2_with fail;refine(Qi _).mono ?_;rintro e w3 ⟨⟨r,rfl,hr2⟩,rfl⟩;go_wp2;refine AV (S:=Ad wc.drew B 71 2 12 13 16 [.string s1,.string s2] f.vs.length xs (.slice pc f.vs.length cc) ⟨FB,fr.length*5+3,none⟩) rfl (by kernel_rfl) (Ad.start (AL)) ?_;iterate 12((apply AU.z rfl;intro V L w1 _ _ _ z hK;(try(have hs:=z.f 16 (by kernel_rfl);(have c1:=z.s.cellOf hs hc EK;have c2:=z.s.cellOf hs (show wc.drew.cell? ⟨a.block,a.off+1,none⟩=some (.string s1)from d1) DT;have c3:=z.s.cellOf hs (show wc.drew.cell? ⟨a.block,a.off+2,none⟩=some (.string s2)from d2) DT)));go_simp;exact hK (z.s.keep rfl rfl rfl);intros;rfl))
  (apply AU.w rfl;intro V L w1 _ _ _ z hK;go_simp;exact hK rfl (z.s.made (z.o 13 (by kernel_rfl)) rfl _);(try simp only[pE]));(refine AU.free (fun _=>rfl) (fun V L w1 _ _ hS hi hR hd hK=>hS.go hi (hR.out (16) _ (by kernel_rfl) hi) (hd.out (12) (by kernel_rfl)) (Q9) (underlying23) (hox) rfl rfl rfl rfl rfl rfl (by decide) (by simp[Value.oneCell']) (by unfold maxLen;omega) fun v' w' h=>hK.out _ _ rfl h) ?_;(try simp only[pE]));iterate 2((apply AU.z rfl;intro V L w1 _ _ _ z hK;(try(have hs:=z.f 16 (by kernel_rfl);(have c1:=z.s.cellOf hs hc EK;have c2:=z.s.cellOf hs (show wc.drew.cell? ⟨a.block,a.off+1,none⟩=some (.string s1)from d1) DT;have c3:=z.s.cellOf hs (show wc.drew.cell? ⟨a.block,a.off+2,none⟩=some (.string s2)from d2) DT)));go_simp;exact hK (z.s.keep rfl rfl rfl);intros;rfl))
  (apply AU.val undef (fun _=>rfl);intro V L w1 _ _ hS hi hR hd hK;have ha:=hd.out (13) (by kernel_rfl);(have cs:=hS.cellOf hi hc EK;have fs:=hS.EA hi (o:=fr.length*5+3) LP.lt (LP.Bw _) EK);have hS2:=hS.stored ha hi rfl;obtain⟨pu,ku,CX⟩:=hS.val ha;rw[CX]at hS2;simp only[CX];go_simp;exact hK.out _ _ (by simp only[CX];rfl) hS2;simp only[Act.put]);refine AU.nil fun V w1 hS=>?_;obtain⟨Dc,hb4⟩:=hS.Yq (d:=IQ ⟨s1,s2⟩) (q':={q with fs:=fr++[{f with vs:=f.vs++[⟨s1,s2⟩]}]}) rfl rfl BO hsp hc hox (by simp) (by decide) (fun w1 pb hlow hx=>⟨[],Af.of (AP.cc (hx.c 0 _ rfl) rfl (AP.cc (hx.c 1 _ rfl) rfl AP.cn)),by simp⟩) rfl rfl (by rw[<-hF,List.map_append];rfl) ⟨BO.qq.1.up (Aa) fun _ h=>QW.up (Aa) h,BO.qq.2.1.up (Aa) fun _ h=>h,BO.qq.2.2.1.up (Aa) fun _ h=>h,Da.turn (Aa) (fun _ h=>QV.up (Aa) h) ⟨Da.last.1,Da.last.2.1,Da.last.2.2.1.up (Aa) fun _ h=>h,Da.last.2.2.2.1.snoc (fun _ h=>h) ⟨hz1,hz2⟩,Da.last.2.2.2.2.up (Aa) fun _ h=>WI.up (Aa) h⟩⟩ ⟨BO.ss.r,(fun h=>by omega),(fun _=>by simp),(fun h=>by omega),fun h=>by omega⟩ hk;have hb5:=(hBb.trans ((Below.refl wc.heap.size wc).drew.mono (AX hBw hb.size))).trans hb4;have c5:=Dc.cw;have f5:=Dc.Bw 5;have CS:=Dc.setW 4 ⟨by omega,(fun h=>absurd h (by decide)),(fun _=>by simp),(fun h=>absurd h (by decide)),fun h=>absurd h (by decide)⟩;have hb6:=hb5.trans (Dc.low (.int .i64 4) 5);go_wp2;go_ret2;exact⟨⟨_,_,rfl,(fun _ _=>⟨_,_,_,_,CS⟩),fun h=>by cases h⟩,hb6⟩
 by_cases e3:l[0]=⟨#[98,108,111,99,107]⟩
 ·rw[e3]at d0;go_upto_region 19 with fail;go_cut[153]from 122 to 152 (fun v wx=>∃r:Bool,v=.bool r/\(r=false->(wh=3\/wh=4\/wh=9)/\l.length=2/\nm (l.getD 1 Bv)=true)/\AA6 w1 wx)
  ·have cw:=hR.cw
   cases hw3:((wh:Int) !=3)with
   |false=>
    have hb0:wh=3\/wh=4\/wh=9:=(by have:(wh:Int)=3:=(by simpa using hw3);omega);replace hb0:=Wx hb0
    cases h2:((l.length:Int) !=2)with
    |true=>
     go_wp2;go_meet
     exact⟨_,rfl,(fun h=>by cases h),AL⟩
    |false=>
     have hl2:l.length=2:=by
      have:(l.length:Int)=2:=(by simpa using h2);omega
     have C8:1<l.length:=(by omega);have Fw:(1:Int)<l.length:=(by omega);obtain⟨_,rfl,hz1,d1⟩:=EN hl C8 hz;replace d1:=AA h0 d1;generalize l.getD 1 Bv=s1 at*;have hb:=AJ w1 (.cells #[.string s1] 9);have hN:=Bn (Below.refl (w1.alloc (.cells #[.string s1] 9)).heap.size _) (DN (l:=[s1]) (Ae.alloc w1 [.string s1] 9) ⟨show 1<=10000000 by decide,by simpa using hz1⟩);simp only[List.length_cons,List.length_nil,Nat.zero_add,List.all_cons,List.all_nil,Bool.and_true]at hN;replace hl2:=Wx hl2;generalize hv:nm s1=v at*;replace hv:=Wx hv;go_wp2_with fail;refine hN.mono ?_;rintro e w3 ⟨rfl,rfl⟩;cases v
     ·go_wp2;go_meet;exact⟨_,rfl,(fun h=>by cases h),hb⟩
     ·go_wp2;go_meet
      exact⟨_,rfl,(fun _=>⟨hb0.out,hl2.out,by trivial⟩),hb⟩
   |true=>
    cases hw4:((wh:Int) !=4)with
    |false=>
     have hb0:wh=3\/wh=4\/wh=9:=(by have:(wh:Int)=4:=(by simpa using hw4);omega);replace hb0:=Wx hb0
     cases h2:((l.length:Int) !=2)with
     |true=>
      go_wp2;go_meet
      exact⟨_,rfl,(fun h=>by cases h),AL⟩
     |false=>
      have hl2:l.length=2:=by
       have:(l.length:Int)=2:=(by simpa using h2);omega
      have C8:1<l.length:=(by omega);have Fw:(1:Int)<l.length:=(by omega);obtain⟨_,rfl,hz1,d1⟩:=EN hl C8 hz;replace d1:=AA h0 d1;generalize l.getD 1 Bv=s1 at*;have hb:=AJ w1 (.cells #[.string s1] 9);have hN:=Bn (Below.refl (w1.alloc (.cells #[.string s1] 9)).heap.size _) (DN (l:=[s1]) (Ae.alloc w1 [.string s1] 9) ⟨show 1<=10000000 by decide,by simpa using hz1⟩);simp only[List.length_cons,List.length_nil,Nat.zero_add,List.all_cons,List.all_nil,Bool.and_true]at hN;replace hl2:=Wx hl2;generalize hv:nm s1=v at*;replace hv:=Wx hv;go_wp2_with fail;refine hN.mono ?_;rintro e w3 ⟨rfl,rfl⟩;cases v
      ·go_wp2;go_meet;exact⟨_,rfl,(fun h=>by cases h),hb⟩
      ·go_wp2;go_meet
       exact⟨_,rfl,(fun _=>⟨hb0.out,hl2.out,by trivial⟩),hb⟩
    |true=>
     cases hw9:((wh:Int) !=9)with
     |false=>
      have hb0:wh=3\/wh=4\/wh=9:=(by have:(wh:Int)=9:=(by simpa using hw9);omega);replace hb0:=Wx hb0
      cases h2:((l.length:Int) !=2)with
      |true=>
       go_wp2;go_meet
       exact⟨_,rfl,(fun h=>by cases h),AL⟩
      |false=>
       have hl2:l.length=2:=by
        have:(l.length:Int)=2:=(by simpa using h2);omega
       have C8:1<l.length:=(by omega);have Fw:(1:Int)<l.length:=(by omega);obtain⟨_,rfl,hz1,d1⟩:=EN hl C8 hz;replace d1:=AA h0 d1;generalize l.getD 1 Bv=s1 at*;have hb:=AJ w1 (.cells #[.string s1] 9);have hN:=Bn (Below.refl (w1.alloc (.cells #[.string s1] 9)).heap.size _) (DN (l:=[s1]) (Ae.alloc w1 [.string s1] 9) ⟨show 1<=10000000 by decide,by simpa using hz1⟩);simp only[List.length_cons,List.length_nil,Nat.zero_add,List.all_cons,List.all_nil,Bool.and_true]at hN;replace hl2:=Wx hl2;generalize hv:nm s1=v at*;replace hv:=Wx hv;go_wp2_with fail;refine hN.mono ?_;rintro e w3 ⟨rfl,rfl⟩;cases v
       ·go_wp2;go_meet;exact⟨_,rfl,(fun h=>by cases h),hb⟩
       ·go_wp2;go_meet
        exact⟨_,rfl,(fun _=>⟨hb0.out,hl2.out,by trivial⟩),hb⟩
     |true=>
      go_wp2;go_meet;exact⟨_,rfl,(fun h=>by cases h),AL⟩
  obtain⟨r,rfl,hr,hb⟩:=hcut;replace hR:=hR.kp hb;have hBb:=hBa.trans (hb.mono hBw);cases r;rotate_left
  ·go_wp2;go_ret2;exact⟨ABJ (by decide),hBb⟩
  obtain⟨WJ,hl2,hnm⟩:=hr rfl;have Fw:(1:Int)<l.length:=by omega
  have C8:1<l.length:=by omega
  obtain⟨s1,hg,hz1,d1⟩:=EN hl C8 hz;have hag:a.block<B:=A9 (World.block_lt_of_cell? w0 ⟨a.block,a.off+1,none⟩ d1) hB;replace d1:=AA (AB h0 hb) d1;obtain⟨fr,f,hq⟩:∃fr f,q.fs=fr++[f]:=by
   rcases List.eq_nil_or_concat q.fs with h|⟨fr,f,h⟩
   ·exact absurd h (hR.ss.f (by omega))
   ·exact⟨fr,f,by rw[h,List.concat_eq_append]⟩
  have BO:=hR.kp (Below.refl wc.heap.size wc).drew;obtain⟨FB,cap,hL⟩:=BO.Fy hq;obtain⟨F,vc,xs,⟨hc,hox,⟨pc,cc,rfl⟩,hsp,-⟩,hF⟩:=hL.lb;have LP:=hL.lt
  obtain rfl:a6=⟨FB,fr.length*5,none⟩:=h6 fr f FB cap hq (by
   have e:=hL.lc;change wc.cell? ⟨R,4,none⟩=_ at e;rw[hb.cell hR0.lt]at e
   exact e)
  have hc':wc.cell? ⟨FB,fr.length*5+4,none⟩=some (.slice pc f.bs.length cc):=hc;have Da:=BO.qq.2.2.2;rw[hq]at Da;have hlen:f.bs.length<=k:=Da.last.2.2.2.2.1;have hkk:=BO.kk;have EY:(Value.slice pc f.bs.length cc).ownBlock≠some R:=own_ne hox BO.typ (by decide);have DT:(Value.slice pc f.bs.length cc).ownBlock≠some a.block:=Ed hox hag;have hsz:B<=wc.drew.heap.size:=AX hBw hb.size;have EK:(Value.slice pc f.bs.length cc).ownBlock≠some FB:=own_ne hox LP (by decide);have Qi:=fun w=>D8 (f.bs.length:Int) 256 w;go_wp2_with fail;refine(Qi _).mono ?_;rintro e w3 ⟨⟨r,rfl,hr2⟩,rfl⟩;go_wp2;refine AV (S:=Ad wc.drew B 82 9 9 10 13 [.string s1,.slice none 0 0,.slice none 0 0,.int .i64 0,.int .i64 0,.string ⟨#[]⟩,.int .i64 0,.slice none 0 0,.int .i64 0] f.bs.length xs (.slice pc f.bs.length cc) ⟨FB,fr.length*5+4,none⟩) rfl (by kernel_rfl) (Ad.start (AL)) ?_;iterate 9((apply AU.z rfl;intro V L w1 _ _ _ z hK;(try(have hs:=z.f 13 (by kernel_rfl);(have c1:=z.s.cellOf hs hc EK;have c2:=z.s.cellOf hs (show wc.drew.cell? ⟨a.block,a.off+1,none⟩=some (.string s1)from d1) DT)));go_simp;exact hK (z.s.keep rfl rfl rfl);intros;rfl))
  (apply AU.w rfl;intro V L w1 _ _ _ z hK;go_simp;exact hK rfl (z.s.made (z.o 10 (by kernel_rfl)) rfl _);(try simp only[pE]));(refine AU.free (fun _=>rfl) (fun V L w1 _ _ hS hi hR hd hK=>hS.go hi (hR.out (13) _ (by kernel_rfl) hi) (hd.out (9) (by kernel_rfl)) (ny) (underlying64) (hox) rfl rfl rfl rfl rfl rfl (by decide) (by simp[Value.oneCell']) (by unfold maxLen;omega) fun v' w' h=>hK.out _ _ rfl h) ?_;(try simp only[pE]));iterate 2((apply AU.z rfl;intro V L w1 _ _ _ z hK;(try(have hs:=z.f 13 (by kernel_rfl);(have c1:=z.s.cellOf hs hc EK;have c2:=z.s.cellOf hs (show wc.drew.cell? ⟨a.block,a.off+1,none⟩=some (.string s1)from d1) DT)));go_simp;exact hK (z.s.keep rfl rfl rfl);intros;rfl))
  (apply AU.val undef (fun _=>rfl);intro V L w1 _ _ hS hi hR hd hK;have ha:=hd.out (10) (by kernel_rfl);(have cs:=hS.cellOf hi hc EK;have fs:=hS.EA hi (o:=fr.length*5+4) LP.lt (LP.Bw _) EK);have hS2:=hS.stored ha hi rfl;obtain⟨pu,ku,CX⟩:=hS.val ha;rw[CX]at hS2;simp only[CX];go_simp;exact hK.out _ _ (by simp only[CX];rfl) hS2;simp only[Act.put]);refine AU.nil fun V w1 hS=>?_;obtain⟨Dc,hb4⟩:=hS.Yq (d:=Pb ⟨s1,[],[],⟨0,⟨0,⟨#[]⟩,0⟩,[],0⟩⟩) (q':={q with fs:=fr++[{f with bs:=f.bs++[⟨s1,[],[],⟨0,⟨0,⟨#[]⟩,0⟩,[],0⟩⟩]}]}) rfl rfl BO hsp hc hox (by simp) (by decide) (fun w1 pb hlow hx=>⟨[]++([]++(([]++[])++[])),Af.of (AP.cc (hx.c 0 _ rfl) rfl (AP.cr (l:=[]) (hx.c 1 _ rfl) AZ.nil (AP.cr (l:=[]) (hx.c 2 _ rfl) AZ.nil (AP.ca (l:=[dN 0,Ls ⟨0,⟨#[]⟩,0⟩,.row 9 1 [],dN 0]) (Pz (x:=⟨0,⟨0,⟨#[]⟩,0⟩,[],0⟩) (hx.c 3 _ rfl) (hx.c 4 _ rfl) (hx.c 5 _ rfl) (hx.c 6 _ rfl) (hx.c 7 _ rfl) (hx.c 8 _ rfl) AZ.nil).l AP.cn)))),by simp⟩) rfl rfl (by rw[<-hF,List.map_append];rfl) ⟨BO.qq.1.up (Aa) fun _ h=>QW.up (Aa) h,BO.qq.2.1.up (Aa) fun _ h=>h,BO.qq.2.2.1.up (Aa) fun _ h=>h,Da.turn (Aa) (fun _ h=>QV.up (Aa) h) ⟨Da.last.1,Da.last.2.1,Da.last.2.2.1.up (Aa) fun _ h=>h,Da.last.2.2.2.1.up (Aa) fun _ h=>h,Da.last.2.2.2.2.snoc (fun _ h=>WI.up (Aa) h) ⟨hz1,Rw.nil,Rw.nil,(fun h=>absurd (show(0:Int)=1 from h) (by decide)),(fun h=>absurd (show(0:Int)=2 from h) (by decide)),AY,Rw.nil⟩⟩⟩ ⟨BO.ss.r,(fun h=>by omega),(fun _=>by simp),(fun h=>by omega),fun h=>by omega⟩ hk;have hb5:=(hBb.trans ((Below.refl wc.heap.size wc).drew.mono (AX hBw hb.size))).trans hb4;have c5:=Dc.cw;have f5:=Dc.Bw 5;have CS:=Dc.setW 5 ⟨by omega,(fun h=>absurd h (by decide)),(fun _=>by simp),(fun _ _=>⟨fr,_,f.bs,_,rfl,rfl⟩),fun h=>absurd h (by decide)⟩;have hb6:=hb5.trans (Dc.low (.int .i64 5) 5);go_wp2;go_ret2;exact⟨⟨_,_,rfl,(fun _ _=>⟨_,_,_,_,CS⟩),fun h=>by cases h⟩,hb6⟩
 by_cases e4:l[0]=⟨#[112,104,105]⟩
 ·rw[e4]at d0;have hP:Calls prog 237 #[.slice (some a) l.length c,.int .i64 2,.bool false] w1 fun e w'=>VY w1 w' 2 l.length e/\AA6 w1 w':=Oi h0 hl hz 2 (by decide) false;go_wp2_with fail;refine hP.mono ?_;rintro e w2 ⟨⟨vb,b,bl,F,rfl,⟨pb,mb,cb,rfl⟩,hbl⟩,hb2⟩;have hR2:=hR.kp hb2;have h02:=AB h0 hb2;go_upto_region 27 with fail;go_cut[205]from 184 to 204 (fun v wx=>∃r:Bool,v=.bool r/\(r=false->wh=5/\b=true)/\AA6 w2 wx)
  ·have cw:=hR2.cw
   cases hw5:((wh:Int) !=5)with
   |true=>
    go_wp2;go_meet
    exact⟨_,rfl,(fun h=>by cases h),AL⟩
   |false=>
    have hw:wh=5:=(by simpa using hw5);replace hw:=Wx hw;cases b
    ·go_wp2;go_meet;exact⟨_,rfl,(fun h=>by cases h),AL⟩
    ·cases hm:((mb:Int)==0)with
     |true=>
      go_wp2;go_meet
      exact⟨_,rfl,(fun h=>by cases h),AL⟩
     |false=>
      have h2l:=(hbl rfl).1;have C8:1<l.length:=(by omega);have Fw:(1:Int)<l.length:=(by omega);obtain⟨s1,hg,hz1,d1⟩:=EN hl C8 hz;replace d1:=AA h02 d1;have hb3:=AJ w2 (.cells #[.string s1] 9);have hN:=Bn (Below.refl (w2.alloc (.cells #[.string s1] 9)).heap.size _) (DN (l:=[s1]) (Ae.alloc w2 [.string s1] 9) ⟨show 1<=10000000 by decide,by simpa using hz1⟩);simp only[List.length_cons,List.length_nil,Nat.zero_add,List.all_cons,List.all_nil,Bool.and_true]at hN;generalize nm s1=v at hN;go_wp2_with fail;refine hN.mono ?_;rintro e w3 ⟨rfl,rfl⟩;go_wp2;go_meet;exact⟨_,rfl,(fun _=>⟨hw.out,by trivial⟩),hb3⟩
  obtain⟨r,rfl,hr,hb3⟩:=hcut;have hb:=AB hb2 hb3;have hBb:=hBa.trans (hb.mono hBw);cases r;rotate_left
  ·go_wp2;go_ret2;exact⟨ABJ (by decide),hBb⟩
  obtain⟨WJ,rfl⟩:=hr rfl;obtain⟨h2l,hbn,hbv,Nf,hbz⟩:=hbl rfl;clear hr hbl;replace hbv:=hbv.same (w':=wc) fun b hb'=>hb3.block b (hbv.fp b hb').2;obtain⟨w4,rfl⟩:=again wc;replace hR:=hR.kp hb;obtain rfl:mb=bl.length:=by
   obtain⟨_,_,e⟩:=hbv.slice;rw[List.length_map]at e;exact(Value.slice.inj e).2.1
  have hrow:=hbv.view (E:=iQ) (ok:=oBd) aU (fun x g o f h1 h2=>vB h1 h2) (by have:=hz.1;unfold Ln;omega) (fun y hy=>⟨Tz.sz (hbz y hy).1,Tz.sz (hbz y hy).2⟩);obtain⟨_,_,e,-,⟨yJ,-⟩,hat⟩:=hrow;obtain⟨rfl,-,rfl⟩:=Value.slice.inj e;clear e;have hz1':=hz.1;have cl:=hR.cl;go_upto_region 29 with fail;go_cut[215]from 206 to 214 (fun v wx=>∃r:Bool,v=.bool r/\wx=w4)
  ·cases hg:decide ((256:Int)<(bl.length:Int))with
   |true=>
    have QZ:=BK hg;have hgN:256<bl.length:=(by omega);go_wp2;go_meet
    exact⟨_,rfl,rfl⟩
   |false=>
    have QZ:=CJ hg;have hgN:¬256<bl.length:=(by omega);go_wp2;go_meet;exact⟨_,rfl,rfl⟩
  obtain⟨r,rfl,rfl⟩:=hcut;cases r;rotate_left
  ·go_wp2;go_ret2;exact⟨ABJ (by decide),hBb⟩
  obtain⟨w4,rfl⟩:=again wc;have Fw:(1:Int)<l.length:=by omega
  have C8:1<l.length:=by omega
  obtain⟨s1,hg,hz1,d1⟩:=EN hl C8 hz;replace d1:=AA (AB h0 hb) d1;clear hg cl;have hal:=AJ w4 (.cells #[.string s1,.slice none 0 0] 211);have hX:=Ae.alloc w4 [.string s1,.slice none 0 0] 211;have wP:DC (w4.alloc (.cells #[.string s1,.slice none 0 0] 211)) w4.heap.size 211:=⟨_,heap_alloc_new w4 _⟩;have vJ:Own (w4.alloc (.cells #[.string s1,.slice none 0 0] 211)) w4.heap.size (w4.alloc (.cells #[.string s1,.slice none 0 0] 211)).heap.size (PZ ⟨s1,[]⟩) w4.heap.size 0:=
   ⟨AQ,by simp,AQ,[]++[],Af.of (AP.cc (hX.c 0 _ rfl) rfl (AP.cr (l:=[]) (hX.c 1 _ rfl) AZ.nil AP.cn)),by simp,by simp⟩
  go_upto_region 32 with fail;have qM:(w4.alloc (.cells #[.string s1,.slice none 0 0] 211)).heap.size=w4.heap.size+1:=by simp
  generalize pR:w4.alloc _=W5 at*;obtain⟨xb,hxb⟩:∃xb,w4.heap.size=xb:=⟨_,rfl⟩;rw[hxb]at hal hX wP vJ qM⊢;go_wp2;go_loopw[13] (fun i wr=>∃(j:Nat) (il:List TH),j<=bl.length/\i=.int .i64 (j:Int)/\il.length=j/\Own wr xb wr.heap.size (PZ ⟨s1,il⟩) xb 0/\DC wr xb 211/\(∀y∈il,qIn y)/\Below xb w4 wr) (fun i _=>bl.length-(intOf i).toNat);exact⟨0,[],AY,rfl,rfl,vJ,wP,(fun y h=>by cases h),hal⟩;obtain⟨j,il,hj,rfl,hil,vJ,wP,hiz,hlo⟩:=hrel;obtain⟨wo,rfl⟩:=again wr;replace hil:=Wx hil;by_cases hend:j=bl.length
  ·subst hend;have Dc:=hR.kp (show Below w4.heap.size w4 wo by rw[hxb];exact hlo);obtain⟨fr,f,br,b,hq,hbq⟩:=Dc.ss.b (by omega) (by omega);have BO:=Dc.kp (Below.refl wo.heap.size wo).drew;obtain⟨FB,cap,hF⟩:=BO.Fy hq;have Qp:=hlo;rw[<-hxb]at Qp;have h1o:=AB hb Qp
   obtain rfl:a6=⟨FB,fr.length*5,none⟩:=h6 fr f FB cap hq (by
    have e:=hF.lc;change wo.cell? ⟨R,4,none⟩=_ at e;rw[h1o.cell hR0.lt]at e
    exact e)
   obtain⟨BB,cap2,hL⟩:=BO.lastB hF hbq;have LP:=hF.lt;have TT:=hL.lt;obtain⟨nb,hnb⟩:∃nb,nb=br.length+1:=⟨_,rfl⟩;have gI:wo.cell? ⟨FB,fr.length*5+4,none⟩=some (.slice (some ⟨BB,0,none⟩) nb cap2):=(by rw[hnb];exact hL.lc);obtain⟨F2,vc,xs,⟨hc,hox,⟨pc,cc,rfl⟩,hsp,-⟩,hF2⟩:=hL.lp;have Da:=BO.qq.2.2.2;rw[hq]at Da;have GU:=Da.last.2.2.2.2;rw[hbq]at GU;have Jh:=GU.1;rw[List.length_append,List.length_singleton]at Jh;have hlenp:b.ps.length<=k:=GU.last.2.1.1;have hkk:=BO.kk;have hix:(nb:Int)-1=(br.length:Int):=(by omega);have Ns:(br.length:Int)<nb:=(by omega);have Pm:br.length<nb:=(by omega);have hwr:=wrN (n:=br.length) (by omega);have hll:=BO.ll;have hwl:IntKind.i64.wrap (lg+1)=lg+1:=IntWalk.i64_in _ (by omega);replace hnb:=Wx hnb;obtain⟨vi,Fi,x0,x1,wG,hFi⟩:=vJ.ph;obtain⟨pi,ci,rfl⟩:=wG.slice;rw[List.length_map]at x1 wG;have nJ:N<=xb:=(by rw[<-hxb];exact hR.own.sz);have hBx:B<=xb:=AX (AX hR.own.ge (Nat.le_of_lt hR.own.lt)) nJ;have EK:(Value.slice pc b.ps.length cc).ownBlock≠some FB:=own_ne hox LP (by decide);have GY:(Value.slice pc b.ps.length cc).ownBlock≠some BB:=own_ne hox TT (by decide);have FL:(Value.slice pc b.ps.length cc).ownBlock≠some xb:=fun e=>by
    have:=hsp.JI hc e;omega
   have hsz:B<=wo.drew.heap.size:=AX (AX Dc.own.ge (Nat.le_of_lt Dc.own.lt)) Dc.own.sz;replace hil:=hil.out;have AD3:Rw 10000000 qIn il:=⟨by omega,hiz⟩;replace hil:=Wx hil;replace hq:=Wx hq;replace hbq:=Wx hbq;go_wp2;refine AV (S:=Ad wo.drew B 211 2 14 15 18 [.string s1,.slice pi il.length ci] b.ps.length xs (.slice pc b.ps.length cc) ⟨BB,br.length*9+1,none⟩) rfl (by kernel_rfl) (Ad.start (AL)) ?_;(iterate 14((apply AU.z rfl;intro V L w1 _ _ _ z hK;(try(have hs:=z.f 18 (by kernel_rfl);(have c1:=z.s.cellOf hs (show wo.drew.cell? ⟨FB,fr.length*5+4,none⟩=some (.slice (some ⟨BB,0,none⟩) nb cap2)from gI) EK;have c2:=z.s.cellOf hs hc GY;have c3:=z.s.cellOf hs (show wo.drew.cell? ⟨xb,0,none⟩=some (.string s1)from x0) FL;have c4:=z.s.cellOf hs (show wo.drew.cell? ⟨xb,0+1,none⟩=some (.slice pi il.length ci)from x1) FL)));go_simp;exact hK (z.s.keep rfl rfl rfl);intros;rfl)));(apply AU.w rfl;intro V L w1 _ _ _ z hK;go_simp;exact hK rfl (z.s.made (z.o 15 (by kernel_rfl)) rfl _);(try simp only[pE]));(refine AU.free (fun _=>rfl) (fun V L w1 _ _ hS hi hR hd hK=>hS.go hi (hR.out (18) _ (by kernel_rfl) hi) (hd.out (14) (by kernel_rfl)) (AAC) (underlying74) (hox) rfl rfl rfl rfl rfl rfl (by decide) (by simp[Value.oneCell']) (by unfold maxLen;omega) fun v' w' h=>hK.out _ _ rfl h) ?_;(try simp only[pE]));(iterate 2((apply AU.z rfl;intro V L w1 _ _ _ z hK;(try(have hs:=z.f 18 (by kernel_rfl);(have c1:=z.s.cellOf hs (show wo.drew.cell? ⟨FB,fr.length*5+4,none⟩=some (.slice (some ⟨BB,0,none⟩) nb cap2)from gI) EK;have c2:=z.s.cellOf hs hc GY;have c3:=z.s.cellOf hs (show wo.drew.cell? ⟨xb,0,none⟩=some (.string s1)from x0) FL;have c4:=z.s.cellOf hs (show wo.drew.cell? ⟨xb,0+1,none⟩=some (.slice pi il.length ci)from x1) FL)));go_simp;exact hK (z.s.keep rfl rfl rfl);intros;rfl)));(apply AU.val undef (fun _=>rfl);intro V L w1 _ _ hS hi hR hd hK;have ha:=hd.out (15) (by kernel_rfl);(have cs:=hS.cellOf hi hc GY;have fs:=hS.EA hi (o:=br.length*9+1) TT.lt (TT.Bw _) GY);have hS2:=hS.stored ha hi rfl;obtain⟨pu,ku,CX⟩:=hS.val ha;rw[CX]at hS2;simp only[CX];go_simp;exact hK.out _ _ (by simp only[CX];rfl) hS2;simp only[Act.put]);refine AU.nil fun V w6 hS=>?_;obtain⟨CS,hb5⟩:=hS.Yq (d:=PZ ⟨s1,il⟩) (q':={q with fs:=fr++[{f with bs:=br++[{b with ps:=b.ps++[⟨s1,il⟩]}]}]}) rfl rfl BO hsp hc hox (by simp) (by decide) (fun w1 pb hlow hx=>⟨Fi++[],Af.of (AP.cc (hx.c 0 _ rfl) rfl (AP.cr (hx.c 1 _ rfl) (AZ.mono nJ (wG.same fun b hb=>hlow.block b (wG.fp b hb).2)) AP.cn)),by simpa using hFi⟩) rfl rfl (by rw[<-hF2,List.map_append];rfl) ⟨BO.qq.1.up (Aa) fun _ h=>QW.up (Aa) h,BO.qq.2.1.up (Aa) fun _ h=>h,BO.qq.2.2.1.up (Aa) fun _ h=>h,Da.turn (Aa) (fun _ h=>QV.up (Aa) h) ⟨Da.last.1,Da.last.2.1,Da.last.2.2.1.up (Aa) fun _ h=>h,Da.last.2.2.2.1.up (Aa) fun _ h=>h,GU.turn (Aa) (fun _ h=>WI.up (Aa) h) ⟨GU.last.1,GU.last.2.1.snoc (fun _ h=>h) ⟨hz1,AD3⟩,GU.last.2.2.1.up (Aa) fun _ h=>gG.up (Aa) h,GU.last.2.2.2⟩⟩⟩ ⟨BO.ss.r,(fun h=>by omega),(fun _=>by simp),(fun _ _=>⟨fr,_,br,_,rfl,rfl⟩),fun h=>by omega⟩ hk;have hb6:=(hBb.trans (hlo.mono hBx)).trans (((Below.refl wo.heap.size wo).drew.mono hsz).trans hb5);have l5:=CS.cl;have f6:=CS.Bw 6;have ES:=CS.qH (lg+1) (by omega);have BJ:=hb6.trans (CS.low (.int .i64 (lg+1)) 6);clear hS hsp hF hc hox EK GY FL BO hR hL hR0 hF2 wG x0 x1 vJ wP;go_wp2;go_ret2;exact⟨⟨_,_,rfl,(fun _ _=>⟨_,_,_,_,ES⟩),fun h=>by cases h⟩,BJ⟩
  ·have hlt:j<bl.length:=(by omega);have A8:(j:Int)<bl.length:=(by omega);obtain⟨ab,rfl,⟨f0,y0⟩,f1,⟨f2,y2⟩,f3⟩:=hat j bl[j] (by simp[hlt]);obtain⟨gb,rfl⟩:=hbv.addr;simp only[At,Dk,Nat.zero_add]at f0 f1 f2 f3;have hyz:=hbz bl[j] (List.getElem_mem hlt);have hbb:=World.block_lt_of_cell? w4 _ f0;rw[hxb]at hbb;have Qp:=hlo;rw[<-hxb]at Qp;replace f0:=AA Qp f0;replace f1:=AA Qp f1;replace f2:=AA Qp f2;replace f3:=AA Qp f3;clear hat;generalize bl[j]=y at*;have hXd:=vJ.kp (w1:=wo.drew) (Below.refl wo.heap.size wo).drew;have s1p:=hXd.spot;unfold PZ at s1p;have s2p:=s1p.nth 1 rfl (n:=1) (by simp[Dt.DF,Dt.wd,dS]);rw[Nat.zero_add]at s2p;obtain⟨vi,xs,hc,hox,pi,ci,rfl⟩:=s2p.owns;rw[List.length_map]at hox hc;have Ze:DC wo.drew xb 211:=wP;have FL:(Value.slice pi il.length ci).ownBlock≠some xb:=own_ne hox Ze (by decide);have GY:(Value.slice pi il.length ci).ownBlock≠some gb:=Ed hox hbb;have AJb:il.length<=10000000:=(by rw[hil.out];omega);have hsz:xb<=wo.drew.heap.size:=Nat.le_of_lt Ze.lt;go_wp2;refine AV (S:=Ad wo.drew xb 213 4 13 14 16 [.string y.n,.int .i64 y.a.k,.string y.a.s,.int .i64 y.a.n] il.length xs (.slice pi il.length ci) ⟨xb,1,none⟩) rfl (by kernel_rfl) (Ad.start (AL)) ?_;(iterate 13((apply AU.z rfl;intro V L w1 _ _ _ z hK;(try(have hs:=z.f 16 (by kernel_rfl);(have c1:=z.s.cellOf hs hc FL;have g0:=z.s.cellOf hs (show wo.drew.cell? ⟨gb,j*4,none⟩=some (.string y.n)from f0) GY;have g1:=z.s.cellOf hs (show wo.drew.cell? ⟨gb,j*4+1,none⟩=some (.int .i64 y.a.k)from f1) GY;have g2:=z.s.cellOf hs (show wo.drew.cell? ⟨gb,j*4+(1+1),none⟩=some (.string y.a.s)from f2) GY;have g3:=z.s.cellOf hs (show wo.drew.cell? ⟨gb,j*4+(1+2),none⟩=some (.int .i64 y.a.n)from f3) GY)));go_simp;exact hK (z.s.keep rfl rfl rfl);intros;rfl)));(apply AU.w rfl;intro V L w1 _ _ _ z hK;go_simp;exact hK rfl (z.s.made (z.o 14 (by kernel_rfl)) rfl _);(try simp only[pE]));(refine AU.free (fun _=>rfl) (fun V L w1 _ _ hS hi hR hd hK=>hS.go hi (hR.out (16) _ (by kernel_rfl) hi) (hd.out (13) (by kernel_rfl)) (AAE) (underlying209) (hox) rfl rfl rfl rfl rfl rfl (by decide) (by simp[Value.oneCell']) (by unfold maxLen;omega) fun v' w' h=>hK.out _ _ rfl h) ?_;(try simp only[pE]));(apply AU.z rfl;intro V L w1 _ _ _ z hK;(try(have hs:=z.f 16 (by kernel_rfl);(skip)));go_simp;exact hK (z.s.keep rfl rfl rfl);intros;rfl);(apply AU.val undef (fun _=>rfl);intro V L w1 _ _ hS hi hR hd hK;have ha:=hd.out (14) (by kernel_rfl);(have cs:=hS.cellOf hi hc FL;have fs:=hS.EA hi (o:=1) Ze.lt (Ze.Bw 1) FL);have hS2:=hS.stored ha hi rfl;obtain⟨pu,ku,CX⟩:=hS.val ha;rw[CX]at hS2;simp only[CX];go_simp;exact hK.out _ _ (by simp only[CX];rfl) hS2;simp only[Act.put]);refine AU.nil fun V w6 hS=>?_;obtain⟨⟨N6,ho6⟩,hb6,-,w7,u6,iF,hg6⟩:=hS.done (d:=xG ⟨y.n,y.a⟩) rfl rfl s2p (AL) hc hox (by simp) (fun w1 pb _ _ _ hx=>⟨[]++[],Af.of (AP.cc (hx.c 0 _ rfl) rfl (AP.ca (l:=[dN y.a.k,dS y.a.s,dN y.a.n]) (f1:=[]) (AP.cc (hx.c 1 _ rfl) rfl (AP.cc (hx.c 2 _ rfl) rfl (AP.cc (hx.c 3 _ rfl) rfl AP.cn))) AP.cn)),by simp⟩) rfl rfl;have ho7:Own w6 xb w6.heap.size (PZ ⟨s1,il++[⟨y.n,y.a⟩]⟩) xb 0:=by
    have e:=ho6.up ho6.sz (AQ);simpa[PZ]using e
   have AEV:DC w6 xb 211:=by
    obtain⟨cur,ht⟩:=Ze;rw[iF];exact Ew (hg6.trans ht) _ _
   have ADu:Below xb w4 w6:=hlo.trans (((Below.refl wo.heap.size wo).drew.mono hsz).trans hb6);have hwx:IntKind.i64.wrap ((j:Int)+1)=((j+1:Nat):Int):=IntWalk.i64_in _ (by omega);have qg:(il++[(⟨y.n,y.a⟩:TH)]).length=j+1:=(by simp[hil.out]);have AD2:∀z∈il++[(⟨y.n,y.a⟩:TH)],qIn z:=fun z h=>by
    rcases List.mem_append.1 h with h|h
    ·exact hiz z h
    ·rw[List.mem_singleton.1 h];exact hyz
   generalize il++[(⟨y.n,y.a⟩:TH)]=il6 at*;replace qg:=Wx qg;clear hS iF hg6 ho6 hb6 hlo s2p s1p hc hox FL GY;go_wp2;go_roundw;exact⟨j+1,il6,hlt,by go_num,qg.out,ho7,AEV,AD2,ADu⟩;simp[intOf];omega
 replace e1:=Fa e1 rfl;replace e2:=Fa e2 rfl;replace e3:=Fa e3 rfl;replace e4:=Fa e4 rfl;generalize l[0]=s at*;go_wp2;go_ret2;exact⟨⟨_,_,rfl,(fun h=>by cases h),fun _=>hb1⟩,hBa⟩
end
section
open Word Num Dp
theorem lJ(h0:AA6 w0 w)(hl:Row DL 1 w0 u l)(hp:0<l.length)(h1:l[0]≠⟨#[99,108,97,115,115]⟩) (h2:l[0]≠⟨#[102,105,101,108,100]⟩) (h3:l[0]≠⟨#[103,108,111,98,97,108]⟩) (h4:l[0]≠⟨#[101,120,116,101,114,110]⟩) (h5:l[0]≠⟨#[102,117,110,99]⟩):Calls prog 213 #[.pointer (some ⟨R,0,none⟩),u] w fun e w'=>Gb w B R k e w'/\Below B w w':=by
 obtain⟨p,c,rfl⟩:=hl.slice;obtain⟨a,rfl,-⟩:=CV hl hp;have d0:=AA h0 (Bg hl hp);have PV:(0:Int)<l.length:=by omega
 have e1:=Fa h1 rfl;have e2:=Fa h2 rfl;have e3:=Fa h3 rfl;have e4:=Fa h4 rfl;have e5:=Fa h5 rfl;generalize l[0]=s at*;go_enter func213,ntmps213;go_wp2;go_ret2;exact⟨⟨_,_,rfl,(fun h=>by cases h),fun _=>AL⟩,AL⟩
theorem eX(h0:AA6 w0 w)(hR:Ct w B N R q wh lg k)(hB:w0.heap.size<=B)(hk:k+1<=5000000)(hl:Row DL 1 w0 u l)(hz:Wz l)(hp:0<l.length):Calls prog 213 #[.pointer (some ⟨R,0,none⟩),u] w fun e w'=>Gb w B R k e w'/\Below B w w':=by
 by_cases h1:l[0]=⟨#[99,108,97,115,115]⟩
 ·exact U3 h0 hR hB hk hl hz hp h1
 by_cases h2:l[0]=⟨#[102,105,101,108,100]⟩
 ·exact U2 h0 hR hB hk hl hz hp h2
 by_cases h3:l[0]=⟨#[103,108,111,98,97,108]⟩
 ·exact Si h0 hR hB hk hl hz hp h3
 by_cases h4:l[0]=⟨#[101,120,116,101,114,110]⟩
 ·exact Sj h0 hR hB hk hl hz hp h4
 by_cases h5:l[0]=⟨#[102,117,110,99]⟩
 ·exact YQ h0 hR hB hk hl hz hp h5
 exact lJ h0 hl hp h1 h2 h3 h4 h5
end
section
open Word Num Dp
theorem Mj{t:TypeId}{o n:Nat}:∀(cs:List Value) (i:Nat) (w:World),DC w g t->o<=i->i+cs.length<=o+n->BS w (BZ w g i cs) g o n
 | [],i,w,h,_,_=>by
  obtain⟨cur,h⟩:=h
  exact⟨cur,cur,t,(0,0),h,h,rfl,fun _ _=>rfl⟩
 |v::l,i,w,h,h1,h2=>by
  have h2':i+1+l.length<=o+n:=by simp at h2;omega
  have AJv:i<o+n:=by simp at h2;omega
  obtain⟨cur,e⟩:=h;refine BS.trans (w':=w.setCell ⟨g,i,none⟩ v) ⟨cur,cur.setIfInBounds i v,t,(0,0),e,?_,by simp,fun j hj=>by rw[Array.getElem?_setIfInBounds_ne (by omega)]⟩ (Mj l (i+1) _ (Ew e _ _) (by omega) h2');unfold World.setCell;simp only[Array.getElem?_modify,if_true,e,Option.map_some];rfl
theorem aD:∀(cs:List Value) (i:Nat) (w:World) (k:Nat),k<i->(BZ w g i cs).cell? ⟨g,k,none⟩=w.cell? ⟨g,k,none⟩
 | [],_,_,_,_=>rfl
 |v::l,i,w,k,h=>(aD l (i+1) _ k (by omega)).trans (World.cell?_setCell_other _ _ _ _ (fun e=>by have:=congrArg Addr.off e;simp at this;omega))
theorem Mk:∀(cs:List Value) (i:Nat) (w:World),(∀j,j<cs.length->∃v,w.cell? ⟨g,i+j,none⟩=some v)->∀j v,cs[j]? =some v->(BZ w g i cs).cell? ⟨g,i+j,none⟩=some v
 | [],_,_,_,_,_,h=>by simp at h
 |u::l,i,w,h,j,v,hj=>by
  cases j with
  |zero=>
   obtain rfl:u=v:=(by simpa using hj);obtain⟨v0,h0⟩:=h 0 (by simp);show(BZ (w.setCell ⟨g,i,none⟩ u) g (i+1) l).cell? ⟨g,i+0,none⟩=_
   exact(aD l (i+1) _ i (by omega)).trans (World.cell?_setCell_same _ _ _ h0)
  |succ j=>
   have:=Mk l (i+1) (w.setCell ⟨g,i,none⟩ u) (fun j hj=>by
    obtain⟨v,e⟩:=h (j+1) (by simp;omega);refine⟨v,(World.cell?_setCell_other _ _ _ _ (fun e=>by have:=congrArg Addr.off e;simp at this;omega)).trans ?_⟩;rw[Nat.add_right_comm]
    exact e) j v (by simpa using hj)
   rw[show i+(j+1)=i+1+j by omega];exact this
theorem LastB.typ(h:LastB w B N R q wh lg fr f FB cap br b BB cap2)(hR:Ct w B N R q wh lg k):BB≠R:=fun e=>by
 obtain⟨c1,h1⟩:=h.lt;obtain⟨c2,h2⟩:=hR.typ;rw[e,h2]at h1;injection h1 with h1;injection h1 with _ h1 _;exact absurd h1 (by decide)
theorem LastB.cells(h:LastB w B N R q wh lg fr f FB cap br b BB cap2):∃v0 v1 v2 v3 v4 v5,w.cell? ⟨BB,br.length*9+3,none⟩=some v0/\w.cell? ⟨BB,br.length*9+3+1,none⟩=some v1/\w.cell? ⟨BB,br.length*9+3+2,none⟩=some v2/\w.cell? ⟨BB,br.length*9+3+3,none⟩=some v3/\w.cell? ⟨BB,br.length*9+3+4,none⟩=some v4/\w.cell? ⟨BB,br.length*9+3+5,none⟩=some v5:=by
 obtain⟨F,hs,-⟩:=h.le;obtain⟨-,-,fp,hl⟩:=hs.at;have hw:(TW b.e).wd=6:=rfl;have hc:=hl.cells;rw[hw]at hc;obtain⟨v0,h0,-⟩:=hc 0 (by decide);obtain⟨v1,h1,-⟩:=hc 1 (by decide);obtain⟨v2,h2,-⟩:=hc 2 (by decide);obtain⟨v3,h3,-⟩:=hc 3 (by decide);obtain⟨v4,h4,-⟩:=hc 4 (by decide);obtain⟨v5,h5,-⟩:=hc 5 (by decide);exact⟨v0,v1,v2,v3,v4,v5,h0,h1,h2,h3,h4,h5⟩
theorem LastB.KH(h:LastB w B N R q wh lg fr f FB cap br b BB cap2)(hR:Ct w B N R q wh lg k)(hq:q.fs=fr++[f])(hb:f.bs=br++[b])(x:Tm) (hx:qTm x)  {V:List Nat} (hv:AZ w N 9 1 (x.to.map dS) v V) (hV:V.Nodup) (hv1:v.oneCell'=true) (hs:¬(7<=wh/\wh<=8)) (hk:k+1<=5000000):Ct (BZ w BB (br.length*9+3) [.int .i64 x.k,.int .i64 x.a.k,.string x.a.s,.int .i64 x.a.n,v,.int .i64 x.n]) B w.heap.size R {q with fs:=fr++[{f with bs:=br++[{b with e:=x}]}]} wh lg (k+1)/\Below B w (BZ w BB (br.length*9+3) [.int .i64 x.k,.int .i64 x.a.k,.string x.a.s,.int .i64 x.a.n,v,.int .i64 x.n]):=by
 obtain⟨F,hsp,hF⟩:=h.le;obtain⟨v0,v1,v2,v3,v4,v5,h0,h1,h2,h3,h4,h5⟩:=h.cells
 have hc:=Mk (g:=BB) [.int .i64 x.k,.int .i64 x.a.k,.string x.a.s,.int .i64 x.a.n,v,.int .i64 x.n] (br.length*9+3) w (fun j hj=>by
  have hj':j<6:=hj;obtain rfl|rfl|rfl|rfl|rfl|rfl:j=0\/j=1\/j=2\/j=3\/j=4\/j=5:=by omega
  ·exact⟨v0,h0⟩
  ·exact⟨v1,h1⟩
  ·exact⟨v2,h2⟩
  ·exact⟨v3,h3⟩
  ·exact⟨v4,h4⟩
  ·exact⟨v5,h5⟩)
 have hsz:=DK (p:=BB) [.int .i64 x.k,.int .i64 x.a.k,.string x.a.s,.int .i64 x.a.n,v,.int .i64 x.n] (br.length*9+3) w;have hne:=fun r (hr:r≠BB)=>Bu hr [.int .i64 x.k,.int .i64 x.a.k,.string x.a.s,.int .i64 x.a.n,v,.int .i64 x.n] (br.length*9+3) w;have hsb:=Mj (o:=br.length*9+3) (n:=6) [.int .i64 x.k,.int .i64 x.a.k,.string x.a.s,.int .i64 x.a.n,v,.int .i64 x.n] (br.length*9+3) w h.lt (AQ) (AQ);have hbl:=Ay (B:=B) hsp.at.1 [.int .i64 x.k,.int .i64 x.a.k,.string x.a.s,.int .i64 x.a.n,v,.int .i64 x.n] (br.length*9+3) w;generalize BZ w BB (br.length*9+3) [.int .i64 x.k,.int .i64 x.a.k,.string x.a.s,.int .i64 x.a.n,v,.int .i64 x.n]=w1 at*;have S9:∀b∈V,N<=b/\b<w.heap.size:=hv.fp;have hBN:=hsp.at.2.1;have hNs:=hsp.sz;have q9:Own w1 B w.heap.size (F (TW x)) R 0:=by
  refine hsp.fill (N':=w.heap.size) hNs rfl hsb (by rw[hsz];exact AQ) fun Fj _ _ _=>⟨fun b _ hb _=>hne b hb,V++[],?_,fun b hb=> .inr (S9 b (by simpa using hb)),?_⟩
  ·refine Pz (hc 0 _ rfl) (hc 1 _ rfl) (hc 2 _ rfl) (hc 3 _ rfl) (hc 4 _ rfl) (hc 5 _ rfl) (AZ.mono (AX hsp.ge (Nat.le_of_lt hsp.lt)) (hv.same fun b hb=>hne b ?_));have:=(S9 b hb).1;omega
  ·rw[List.append_nil];refine BN.2 ⟨fun e=>?_,hV⟩;have:=(S9 _ e).1;omega
 have Da:=hR.qq.2.2.2;rw[hq]at Da;have GU:=Da.last.2.2.2.2;rw[hb]at GU;have hbR:=h.typ hR;obtain⟨cur,ht⟩:=hR.typ;refine⟨⟨hF x▸q9,⟨cur,(hne R (fun e=>hbR e.symm)).trans ht⟩,⟨hR.qq.1.up (Aa) fun _ h=>QW.up (Aa) h,hR.qq.2.1.up (Aa) fun _ h=>h,hR.qq.2.2.1.up (Aa) fun _ h=>h,Da.turn (Aa) (fun _ h=>QV.up (Aa) h) ⟨Da.last.1,Da.last.2.1,Da.last.2.2.1.up (Aa) fun _ h=>h,Da.last.2.2.2.1.up (Aa) fun _ h=>h,GU.turn (Aa) (fun _ h=>WI.up (Aa) h) ⟨GU.last.1,GU.last.2.1.up (Aa) fun _ h=>h,GU.last.2.2.1.up (Aa) fun _ h=>gG.up (Aa) h,hx⟩⟩⟩,⟨hR.ss.r,hR.ss.c,(fun _=>by simp),(fun _ _=>⟨fr,_,br,_,rfl,rfl⟩),fun h1 h2=>absurd ⟨h1,h2⟩ hs⟩,hk,?_⟩,hbl⟩;have:=hR.ll;omega
end
section
open Word Num Dp
def Wy(B R k:Nat)(e:Ending)(w':World):Prop:=∃why:Int,e=.returned (.int .i64 why)/\(why=0->∃N q wh lg,Ct w' B N R q wh lg (k+1))
theorem zL(w:World)(s:ByteArray):AZ (w.alloc (.cells #[.string s] 9)) w.heap.size 9 1 ([s].map dS) (.slice (some ⟨w.heap.size,0,none⟩) 1 1) [w.heap.size]:=
 have hb:=Ae.alloc w [.string s] 9
 .inr ⟨w.heap.size,1,#[.string s],[],rfl,AQ,heap_alloc_new w _,AQ,by unfold maxLen;omega,rfl,rfl,(by simp[Dt.wd,dS]),AP.cc (hb.c 0 _ rfl) rfl AP.cn⟩
theorem zK(w:World)(s t:ByteArray):AZ (w.alloc (.cells #[.string s,.string t] 9)) w.heap.size 9 1 ([s,t].map dS) (.slice (some ⟨w.heap.size,0,none⟩) 2 2) [w.heap.size]:=
 have hb:=Ae.alloc w [.string s,.string t] 9
 .inr ⟨w.heap.size,2,#[.string s,.string t],[],rfl,AQ,heap_alloc_new w _,AQ,by unfold maxLen;omega,rfl,rfl,(by simp[Dt.wd,dS]),AP.cc (hb.c 0 _ rfl) rfl (AP.cc (hb.c 1 _ rfl) rfl AP.cn)⟩
theorem LastB.carry{w':World}{N':Nat}{oZ o9:Int}{k':Nat}(h:LastB w B N R q wh lg fr f FB cap br b BB cap2)(hR:Ct w' B N' R q oZ o9 k')(hq:q.fs=fr++[f])(hb:f.bs=br++[b])(e4:w'.cell? ⟨R,4,none⟩=w.cell? ⟨R,4,none⟩) (e5:w'.cell? ⟨FB,fr.length*5+4,none⟩=w.cell? ⟨FB,fr.length*5+4,none⟩):LastB w' B N' R q oZ o9 fr f FB cap br b BB cap2:=by
 obtain⟨TY,cap',hF'⟩:=hR.Fy hq;have e:=hF'.lc;rw[e4,h.lf.lc]at e;obtain⟨rfl,rfl⟩:FB=TY/\cap=cap':=by simpa using e
 obtain⟨BB',AAs,hB'⟩:=hR.lastB hF' hb;have e:=hB'.lc;rw[e5,h.lc]at e;grind
theorem LastB.up{w':World}(h:LastB w B N R q wh lg fr f FB cap br b BB cap2)(hR:Ct w B N R q wh lg k)(hq:q.fs=fr++[f])(hb:f.bs=br++[b])(hw:AA6 w w'):LastB w' B N R q wh lg fr f FB cap br b BB cap2:=
 h.carry (hR.kp hw) hq hb (hw.cell hR.lt) (hw.cell h.lf.lt.lt)
theorem RO.neR(h:RO w B N R q wh lg fr f FB cap)(hR:Ct w B N R q wh lg k):FB≠R:=fun e=>by
 obtain⟨c1,h1⟩:=h.lt;obtain⟨c2,h2⟩:=hR.typ;rw[e,h2]at h1;injection h1 with h1;injection h1 with _ h1 _;exact absurd h1 (by decide)
theorem VQ{s c:ByteArray}{l:List UInt8}(h:(s.toList==l)=true)(hc:c.data.toList=l):s=c:=by
 have e:=eq_of_beq h;rw[ByteArray.toList_eq,<-hc]at e;exact ByteArray.ext (Array.toList_inj.1 e)
theorem fI(h0:AA6 w0 w)(hR:Ct w B N R q wh lg k)(hB:w0.heap.size<=B)(hk:k+1<=5000000)(hl:Row DL 1 w0 u l)(hz:Wz l)(hp:0<l.length)     (hq:q.fs=fr++[f]) (hbq:f.bs=br++[b]) (hL:LastB w B N R q wh lg fr f FB cap br b BB cap2):Calls prog 238 #[.pointer (some ⟨R,0,none⟩),.pointer (some ⟨BB,br.length*9,none⟩),u] w fun e w'=>Wy B R k e w'/\Below B w w':=by
 obtain⟨p,c,rfl⟩:=hl.slice;obtain⟨a,rfl,-⟩:=CV hl hp;have cw:=hR.cw;have f5:=hR.Bw 5;have PV:(0:Int)<l.length:=by omega
 have TN:=hR.setW 9 ⟨by omega,(fun h=>absurd h (by decide)),(fun _=>by rw[hq];simp),(fun _ h=>absurd h (by decide)),fun _ h=>absurd h (by decide)⟩;have hL9:=hL.carry TN hq hbq (World.cell?_setCell_other _ _ _ _ (fun e=>by have:=congrArg Addr.off e;simp at this)) (World.cell?_setCell_other _ _ _ _ (fun e=>hL.lf.neR hR (congrArg Addr.block e).symm));have J9:=hR.low (.int .i64 9) 5;have hBw:B<=w.heap.size:=by have:=hR.own.ge;have:=hR.lt;omega
 have h09:AA6 w0 (w.setCell ⟨R,5,none⟩ (.int .i64 9)):=h0.trans (J9.mono hB);have d0:=AA h09 (Bg hl hp);go_enter func238,ntmps238;go_upto_region 2 with fail;generalize w.setCell ⟨R,5,none⟩ (.int .i64 9)=w9 at*;replace hBw:B<=w9.heap.size:=AX hBw J9.size;go_cut[31]from 16 to 30 (fun v wx=>∃r:Bool,v=.bool r/\(r=true->l.length=2)/\AA6 w9 wx)
 ·generalize l[0]=s at*
  cases hs:(s.toList==[106,117,109,112])with
  |false=>
   go_wp2;go_meet
   exact⟨_,rfl,(fun h=>by cases h),AL⟩
  |true=>
   cases h2:((l.length:Int)==2)with
   |false=>
    go_wp2;go_meet
    exact⟨_,rfl,(fun h=>by cases h),AL⟩
   |true=>
    have hl2:l.length=2:=by
     have:(l.length:Int)=2:=(by simpa using h2);omega
    have C8:1<l.length:=(by omega);have Fw:(1:Int)<l.length:=(by omega);obtain⟨s1,hg,hz1,d1⟩:=EN hl C8 hz;replace d1:=AA h09 d1;have hb:=AJ w9 (.cells #[.string s1] 9);have hN:=Bn (Below.refl (w9.alloc (.cells #[.string s1] 9)).heap.size _) (DN (l:=[s1]) (Ae.alloc w9 [.string s1] 9) ⟨show 1<=10000000 by decide,by simpa using hz1⟩);simp only[List.length_cons,List.length_nil,Nat.zero_add,List.all_cons,List.all_nil,Bool.and_true]at hN;replace hl2:=Wx hl2;generalize nm s1=v at*;go_wp2_with fail;refine hN.mono ?_;rintro e w3 ⟨rfl,rfl⟩;cases v
    ·go_wp2;go_meet;exact⟨_,rfl,(fun h=>by cases h),hb⟩
    ·go_wp2;go_meet;exact⟨_,rfl,(fun _=>hl2.out),hb⟩
 obtain⟨r,rfl,hr,hb1⟩:=hcut;obtain⟨w1,rfl⟩:=again wc;have h01:=AB h09 hb1;have Jc:=TN.kp hb1;have hL1:=hL9.up TN hq hbq hb1;have Db:=J9.trans (hb1.mono hBw);replace d0:=AA hb1 d0;cases r;rotate_left
 ·have hl2:=hr rfl;have C8:1<l.length:=by omega
  have Fw:(1:Int)<l.length:=by omega
  obtain⟨s1,hg,hz1,d1⟩:=EN hl C8 hz;replace d1:=AA h01 d1;have hb2:=AJ w1 (.cells #[.string s1] 9);have hR2:=Jc.kp hb2;have hL2:=hL1.up Jc hq hbq hb2;have hv:=zL w1 s1;have hw2:w1.heap.size=w1.heap.size:=rfl;obtain⟨v0,v1,v2,v3,v4,v5,c0,c1,c2,c3,c4,c5⟩:=hL2.cells;have f0:=hL2.lt.Bw (br.length*9+3);have f1:=hL2.lt.Bw (br.length*9+3+1);have f2:=hL2.lt.Bw (br.length*9+3+2);have f3:=hL2.lt.Bw (br.length*9+3+3);have f4:=hL2.lt.Bw (br.length*9+3+4);have f5:=hL2.lt.Bw (br.length*9+3+5);obtain⟨hRe,hbe⟩:=hL2.KH hR2 hq hbq ⟨1,⟨0,⟨#[]⟩,0⟩,[s1],0⟩ ⟨(fun _=>rfl),(fun h=>absurd (show(1:Int)=2 from h) (by decide)),AY,⟨show 1<=10 by decide,fun t ht=>by rw[List.mem_singleton.1 ht];exact hz1⟩⟩ (AZ.mono Jc.own.sz hv) (by simp) rfl (by omega) hk;have ZY:=Db.trans ((hb2.mono (AX Jc.own.ge (AX (Nat.le_of_lt Jc.own.lt) Jc.own.sz))).trans hbe);go_wp2;go_ret;exact⟨⟨_,rfl,fun _=>⟨_,_,_,_,hRe⟩⟩,ZY⟩
 go_upto_region 5 with fail;go_cut[58]from 40 to 57 (fun v wx=>∃r:Bool,v=.bool r/\(r=true->l.length=4/\l[0]=⟨#[98,114,97,110,99,104]⟩)/\AA6 w1 wx)
 ·generalize hs0:l[0]=s at*;replace hs0:=Wx hs0;have hbd:=(Below.refl w1.heap.size w1).drew
  cases hs:(s.toList==[98,114,97,110,99,104])with
  |false=>
   go_wp2;refine AO (S:=fun _ v=>AA6 w1 v) rfl (by kernel_rfl) hbd ?_;(iterate 19(first|(apply Ab.z rfl;intro L w1 _ _ _ z hK;(have e0:=AA z.s d0);go_simp;exact hK (z.s);rfl)|(refine Ab.skip rfl (fun L w1 hS hi=>(hS)) ?_;(try simp only[pE]))));refine Ab.nil fun w4 Bb=>?_;go_wp2;go_meet
   exact⟨_,rfl,(fun h=>by cases h),Bb⟩
  |true=>
   cases h2:((l.length:Int)==4)with
   |false=>
    go_wp2;refine AO (S:=fun _ v=>AA6 w1 v) rfl (by kernel_rfl) hbd ?_;(iterate 19(first|(apply Ab.z rfl;intro L w1 _ _ _ z hK;(have e0:=AA z.s d0);go_simp;exact hK (z.s);rfl)|(refine Ab.skip rfl (fun L w1 hS hi=>(hS)) ?_;(try simp only[pE]))));refine Ab.nil fun w4 Bb=>?_;go_wp2;go_meet
    exact⟨_,rfl,(fun h=>by cases h),Bb⟩
   |true=>
    have hs1:=VQ hs (c:=⟨#[98,114,97,110,99,104]⟩) rfl;replace hs1:=Wx hs1;have hl4:l.length=4:=by
     have:(l.length:Int)=4:=(by simpa using h2);omega
    have LQ:2<l.length:=(by omega);have Qj:(2:Int)<l.length:=(by omega);have nN:3<l.length:=(by omega);have h3I:(3:Int)<l.length:=(by omega);obtain⟨a2,e2,d2⟩:=BQ hl (q:=1) LQ;obtain rfl:a=a2:=(by simpa using e2);obtain⟨a3,e3,d3⟩:=BQ hl (q:=2) nN;obtain rfl:a=a3:=(by simpa using e3);have hz2:=Dl hz LQ;have hz3:=Dl hz nN;replace d2:=AA h01 d2;replace d3:=AA h01 d3;simp only[Nat.reduceAdd]at d2 d3 hz2 hz3;generalize l[2]=s2 at*;generalize l[3]=s3 at*;obtain⟨nv,nC⟩:∃nv,nv=[s2,s3].all nm:=⟨_,rfl⟩;replace hl4:=Wx hl4;replace nC:=Wx nC;go_wp2;refine AV (S:=GC (fun v1=>AA6 w1 v1) (R1 16 17 (fun v v1=>∃pb,v=.slice (some ⟨pb,0,none⟩) 2 2/\Ae v1 pb [.string s2,.string s3])) 17 (fun v v1=>v=.bool nv/\AA6 w1 v1)) rfl (by kernel_rfl) (GC.start hbd) ?_;(iterate 16((apply AU.z rfl;intro V L w1 _ _ _ z hK;(try(have hc:=z.f 17 (by kernel_rfl);have hI:=z.s.k hc;(have e0:=AA hI d0;have e1:=AA hI d2;have e2:=AA hI d3)));go_simp;exact hK (z.s.keep rfl rfl);intros;rfl)));refine AU.free (fun _=>rfl) (fun V L w2 K' Q' hS hi hR hd hK=>?_) ?_
    ·have hc:=hR.out 17 16 (by kernel_rfl) hi;have hI:=hS.k hc;have hb:=AJ w2 (.cells #[.string s2,.string s3] 9);go_simp;(try simp only[pE]);exact hK.out _ _ rfl (hS.made (Cv fun h=>absurd rfl h) (AB hI hb) hc rfl ⟨_,rfl,Ae.alloc _ _ _⟩ rfl)
    (try simp only[pE]);refine AU.free (fun _=>rfl) (fun V L w2 K' Q' hS hi hR hd hK=>?_) ?_
    ·obtain⟨pb,hp,hx⟩:=hS.val hi rfl (hd.out 16 (by kernel_rfl)) hi;have hI:=hS.k hi;have hN:=Bn (Below.refl w2.heap.size _) (DN (l:=[s2,s3]) hx ⟨show 2<=10000000 by decide,by simpa using⟨hz2,hz3⟩⟩);rw[<-nC.out]at hN;simp only[hp];go_simp;(go_wp2_with(refine hN.mono ?_;rintro e w3 ⟨rfl,rfl⟩));exact hK.out _ _ (by simp only[hp];rfl) (GC.call ⟨rfl,hI⟩)
    (try simp only[pE]);((refine AU.step (a1:=?_) (fun _=>rfl) (fun V L w1 K' Q' hS hi hR hd hK=>?_) ?_ ?_ ?_;rotate_left);(· (go_simp;(try simp only[pE]);exact hK.out _ (hS.keep rfl rfl)));(· (intro V;rfl));(· (exact fun L V V' Kt hl hv=>hv (17) (Classical.byContradiction fun h=>by have:=Kt (18) (17) (by kernel_rfl) (by simpa using h);rw[hl]at this;cases this))));refine AU.nil fun V w4 hS=>?_;obtain⟨GX,hb4⟩:=hS.done rfl;simp only[GX];go_wp2;go_meet;exact⟨_,rfl,(fun _=>⟨hl4.out,hs1.out⟩),hb4⟩
 obtain⟨r,rfl,hr,hb2⟩:=hcut;obtain⟨w2,rfl⟩:=again wc;have hNs:=Jc.own.sz;have hBN:=AX Jc.own.ge (Nat.le_of_lt Jc.own.lt);have h02:=AB h01 hb2;have hR2:=Jc.kp hb2;have hL2:=hL1.up Jc hq hbq hb2;replace Db:=Db.trans (hb2.mono (AX hBN hNs));replace d0:=AA hb2 d0;have Zh:=AX hNs hb2.size;have hlc:l.length<=c:=by
  obtain⟨_,_,e,-,⟨-,h⟩,-⟩:=hl;obtain⟨-,-,rfl⟩:=Value.slice.inj e;exact h
 cases r;rotate_left
 ·obtain⟨hl4,hw⟩:=hr rfl;have C8:0+1<l.length:=by omega
  have LQ:2<l.length:=by omega
  have nN:3<l.length:=by omega
  have hA:=FT h02 (row_one hl (q:=0) C8 (m:=c-1) (by omega)) ⟨show 1<=10000000 by decide,by simpa using Dl hz C8⟩ false;obtain⟨a2,e2,d2⟩:=BQ hl (q:=1) LQ;obtain rfl:a=a2:=by simpa using e2
  obtain⟨a3,e3,d3⟩:=BQ hl (q:=2) nN;obtain rfl:a=a3:=by simpa using e3
  have hz2:=Dl hz LQ;have hz3:=Dl hz nN;replace d2:=AA h02 d2;replace d3:=AA h02 d3;simp only[Nat.reduceAdd]at d2 d3 hz2 hz3;rw[hw]at d0;generalize l[2]=s2 at*;generalize l[3]=s3 at*;have hc2:(2:Int)<=c:=by omega
  go_wp2_with fail;refine hA.mono ?_;rintro e w3 ⟨⟨v1,b1,al,F1,rfl,⟨p1,m1,c1,rfl⟩,h1⟩,hb3⟩;replace d0:=AA hb3 d0;replace d2:=AA hb3 d2;replace d3:=AA hb3 d3;have LX:=Db.trans (hb3.mono (AX hBN Zh));cases b1
  ·go_wp2;go_ret;exact⟨⟨_,rfl,fun h=>absurd h (by decide)⟩,LX⟩
  obtain⟨k1,k2,-,k3⟩:=h1 rfl;obtain⟨x,rfl⟩:∃x,al=[x]:=List.length_eq_one_iff.1 (by simpa using k1);have hxz:x.s.size<=10000000:=k3 x (by simp)
  have hrow:=k2.view (E:=Lg) (ok:=VJ) MX (fun x g o f h1 h2=>vA h1 h2) (by unfold Ln;simp) (fun y hy=>by
   obtain rfl:=List.mem_singleton.1 hy;unfold VJ Sz
   omega)
  obtain⟨pa,ca,he,-,-,hat⟩:=hrow;obtain⟨ag,rfl,f0,⟨f1,-⟩,f2⟩:=hat 0 x rfl;obtain⟨rfl,rfl,rfl⟩:p1=some ag/\m1=1/\c1=ca:=by simpa using he
  rw[Nat.zero_mul]at f0 f1 f2;change w3.cell? ag=_ at f0;change w3.cell? ⟨ag.block,ag.off+1,none⟩=_ at f1;change w3.cell? ⟨ag.block,ag.off+2,none⟩=_ at f2;have IK:=hR2.kp hb3;have hL3:=hL2.up hR2 hq hbq hb3;have rA:=AX Zh hb3.size;have vR:(0:Int)<((1:Nat):Int):=by decide
  have Qj:(2:Int)<l.length:=by omega
  have h3I:(3:Int)<l.length:=by omega
  go_wp2
  refine AV (S:=GC (fun v1=>AA6 w3 v1) (R2 11 14 (fun v v1=>∃pb,v=.agg #[.int .i64 2,.int .i64 x.k,.string x.s,.int .i64 x.n,.slice (some ⟨pb,0,none⟩) 2 2,.int .i64 0]/\AZ v1 w3.heap.size 9 1 ([s2,s3].map dS) (.slice (some ⟨pb,0,none⟩) 2 2) [pb]) (R1 10 11 (fun v v1=>∃pb,v=.slice (some ⟨pb,0,none⟩) 2 2/\AZ v1 w3.heap.size 9 1 ([s2,s3].map dS) (.slice (some ⟨pb,0,none⟩) 2 2) [pb]))) 14
   (fun _ v1=>(∃N q wh lg,Ct v1 B N R q wh lg (k+1))/\Below B w3 v1)) rfl (by kernel_rfl) (GC.start (Below.refl w3.heap.size w3).drew) ?_
  iterate 10((apply AU.z rfl;intro V L w1 _ _ _ z hK;(try(have hc:=z.f 14 (by kernel_rfl);have hI:=z.s.k hc;(have e0:=AA hI f0;have e1:=AA hI f1;have e2:=AA hI f2;have e3:=AA hI d2;have e4:=AA hI d3)));go_simp;exact hK (z.s.keep rfl rfl);intros;rfl))
  refine AU.free (fun _=>rfl) (fun V L w4 K' Q' hS hi hR hd hK=>?_) ?_
  ·have hc:=hR.out.far (j:=14) (by kernel_rfl) hi;have hI:=hS.k hc;have hb:=AJ w4 (.cells #[.string s2,.string s3] 9);go_simp;(try simp only[pE]);exact hK.out _ _ rfl (hS.made (CO (fun _ _ _ _ ⟨pb,e,h⟩=>⟨pb,e,h.same fun b hb'=>hb.block b (h.fp b hb').2⟩) (Cv fun h=>absurd rfl h)) (AB hI hb) hc rfl ⟨_,rfl,AZ.mono hI.size (zK w4 s2 s3)⟩ rfl)
  (try simp only[pE]);refine AU.free (fun _=>rfl) (fun V L w4 K' Q' hS hi hR hd hK=>?_) ?_
  ·have hc:=hR.out 14 11 (by kernel_rfl) hi;obtain⟨pb,hp,hv⟩:=hS.val hc rfl (hd.out 10 (by kernel_rfl)) hi;have hI:=hS.k hc;simp only[hp];go_simp;exact hK.out _ _ (by simp only[hp];rfl) (hS.made (CO (fun h=>absurd rfl h) (Cv fun _ h=>absurd rfl h)) hI hc rfl ⟨pb,rfl,hv⟩ rfl)
  (try simp only[pE]);iterate 2((apply AU.z rfl;intro V L w1 _ _ _ z hK;(try(have hc:=z.f 14 (by kernel_rfl);have hI:=z.s.k hc;(skip)));go_simp;exact hK (z.s.keep rfl rfl);intros;rfl))
  refine AU.free (fun _=>rfl) (fun V L w4 K' Q' hS hi hR hd hK=>?_) ?_
  ·obtain⟨pb,hp,hv⟩:=hS.val hi rfl (hd.out 11 (by kernel_rfl)) hi;have hI:=hS.k hi;have Dc:=IK.kp hI;have hL4:=hL3.up IK hq hbq hI;obtain⟨v0,v1,v2,v3,v4,v5,c0,c1,c2,c3,c4,c5⟩:=hL4.cells;have f0:=hL4.lt.Bw (br.length*9+3);have f1:=hL4.lt.Bw (br.length*9+3+1);have f2:=hL4.lt.Bw (br.length*9+3+2);have f3:=hL4.lt.Bw (br.length*9+3+3);have f4:=hL4.lt.Bw (br.length*9+3+4);have f5:=hL4.lt.Bw (br.length*9+3+5)
   obtain⟨hRe,hbe⟩:=hL4.KH Dc hq hbq ⟨2,x,[s2,s3],0⟩ ⟨(fun h=>absurd (show(2:Int)=1 from h) (by decide)),(fun _=>rfl),hxz,⟨show 2<=10 by decide,fun t ht=>by
    rcases List.mem_cons.1 ht with rfl|ht
    ·exact hz2
    ·rw[List.mem_singleton.1 ht];exact hz3⟩⟩ (AZ.mono rA hv) (by simp) rfl (by omega) hk
   simp only[hp];go_simp;exact hK.out _ _ (by simp only[hp];rfl) (GC.call ⟨⟨_,_,_,_,hRe⟩,(hI.mono (AX hBN rA)).trans hbe⟩)
  (try simp only[pE]);refine AU.nil fun V w4 hS=>?_;obtain⟨CS,hb5⟩:=hS.done rfl;go_wp2;go_ret;exact⟨⟨_,rfl,fun _=>CS⟩,LX.trans hb5⟩
 go_upto_region 10 with fail;go_cut[88]from 80 to 87 (fun v wx=>∃r:Bool,v=.bool r/\(r=true->l.length=2/\l[0]=⟨#[114,101,116]⟩)/\wx=w2)
 ·generalize l[0]=s at*
  cases hs:(s.toList==[114,101,116])with
  |false=>
   go_wp2;go_meet
   exact⟨_,rfl,(fun h=>by cases h),rfl⟩
  |true=>
   have hs1:=VQ hs (c:=⟨#[114,101,116]⟩) rfl;replace hs1:=Wx hs1
   cases h2:((l.length:Int)==2)with
   |false=>
    go_wp2;go_meet
    exact⟨_,rfl,(fun h=>by cases h),rfl⟩
   |true=>
    have hl2:l.length=2:=by
     have:(l.length:Int)=2:=(by simpa using h2);omega
    replace hl2:=Wx hl2;go_wp2;go_meet;exact⟨_,rfl,(fun _=>⟨hl2.out,hs1.out⟩),rfl⟩
 obtain⟨r,rfl,hr,rfl⟩:=hcut;obtain⟨w2,rfl⟩:=again wc;cases r;rotate_left
 ·obtain⟨hl2,hw⟩:=hr rfl;have C8:0+1<l.length:=by omega
  have hA:=FT h02 (row_one hl (q:=0) C8 (m:=c-1) (by omega)) ⟨show 1<=10000000 by decide,by simpa using Dl hz C8⟩ false;rw[hw]at d0;have hc2:(2:Int)<=c:=by omega
  go_wp2_with fail;refine hA.mono ?_;rintro e w3 ⟨⟨v1,b1,al,F1,rfl,⟨p1,m1,c1,rfl⟩,h1⟩,hb3⟩;replace d0:=AA hb3 d0;have LX:=Db.trans (hb3.mono (AX hBN Zh));cases b1
  ·go_wp2;go_ret;exact⟨⟨_,rfl,fun h=>absurd h (by decide)⟩,LX⟩
  obtain⟨k1,k2,-,k3⟩:=h1 rfl;obtain⟨x,rfl⟩:∃x,al=[x]:=List.length_eq_one_iff.1 (by simpa using k1);have hxz:x.s.size<=10000000:=k3 x (by simp)
  have hrow:=k2.view (E:=Lg) (ok:=VJ) MX (fun x g o f h1 h2=>vA h1 h2) (by unfold Ln;simp) (fun y hy=>by
   obtain rfl:=List.mem_singleton.1 hy;unfold VJ Sz
   omega)
  obtain⟨pa,ca,he,-,-,hat⟩:=hrow;obtain⟨ag,rfl,e0,⟨e1,-⟩,e2⟩:=hat 0 x rfl;obtain⟨rfl,rfl,rfl⟩:p1=some ag/\m1=1/\c1=ca:=by simpa using he
  rw[Nat.zero_mul]at e0 e1 e2;change w3.cell? ag=_ at e0;change w3.cell? ⟨ag.block,ag.off+1,none⟩=_ at e1;change w3.cell? ⟨ag.block,ag.off+2,none⟩=_ at e2;have IK:=hR2.kp hb3;have hL3:=hL2.up hR2 hq hbq hb3;have rA:=AX Zh hb3.size;have vR:(0:Int)<((1:Nat):Int):=by decide
  obtain⟨v0,v1,v2,v3,v4,v5,c0,c1,c2,c3,c4,c5⟩:=hL3.cells;have f0:=hL3.lt.Bw (br.length*9+3);have f1:=hL3.lt.Bw (br.length*9+3+1);have f2:=hL3.lt.Bw (br.length*9+3+2);have f3:=hL3.lt.Bw (br.length*9+3+3);have f4:=hL3.lt.Bw (br.length*9+3+4);have f5:=hL3.lt.Bw (br.length*9+3+5);obtain⟨hRe,hbe⟩:=hL3.KH IK hq hbq ⟨3,x,[],0⟩ ⟨(fun h=>absurd (show(3:Int)=1 from h) (by decide)),(fun h=>absurd (show(3:Int)=2 from h) (by decide)),hxz,Rw.nil⟩ AZ.nil (by simp) rfl (by omega) hk;have ZY:=LX.trans hbe;go_wp2;go_ret;exact⟨⟨_,rfl,fun _=>⟨_,_,_,_,hRe⟩⟩,ZY⟩
 go_upto_region 15 with fail;go_cut[111]from 103 to 110 (fun v wx=>∃r:Bool,v=.bool r/\(r=true->l.length=2/\l[0]=⟨#[116,114,97,112]⟩)/\wx=w2)
 ·generalize l[0]=s at*
  cases hs:(s.toList==[116,114,97,112])with
  |false=>
   go_wp2;go_meet
   exact⟨_,rfl,(fun h=>by cases h),rfl⟩
  |true=>
   have hs1:=VQ hs (c:=⟨#[116,114,97,112]⟩) rfl;replace hs1:=Wx hs1
   cases h2:((l.length:Int)==2)with
   |false=>
    go_wp2;go_meet
    exact⟨_,rfl,(fun h=>by cases h),rfl⟩
   |true=>
    have hl2:l.length=2:=by
     have:(l.length:Int)=2:=(by simpa using h2);omega
    replace hl2:=Wx hl2;go_wp2;go_meet;exact⟨_,rfl,(fun _=>⟨hl2.out,hs1.out⟩),rfl⟩
 obtain⟨r,rfl,hr,rfl⟩:=hcut;obtain⟨w2,rfl⟩:=again wc;cases r
 ·go_wp2;go_ret;exact⟨⟨_,rfl,fun h=>absurd h (by decide)⟩,Db⟩
 obtain⟨hl2,hw⟩:=hr rfl;have C8:1<l.length:=by omega
 have Fw:(1:Int)<l.length:=by omega
 obtain⟨s1,hg,hz1,d1⟩:=EN hl C8 hz;replace d1:=AA h02 d1;have hG:=JU s1 hz1 w2;go_wp2_with fail;refine hG.mono ?_;rintro e w3 ⟨⟨n,b1,rfl,-⟩,hb3⟩;have LX:=Db.trans (hb3.mono (AX hBN Zh));cases b1
 ·go_wp2;go_ret;exact⟨⟨_,rfl,fun h=>absurd h (by decide)⟩,LX⟩
 have IK:=hR2.kp hb3;have hL3:=hL2.up hR2 hq hbq hb3;obtain⟨v0,v1,v2,v3,v4,v5,c0,c1,c2,c3,c4,c5⟩:=hL3.cells;have f0:=hL3.lt.Bw (br.length*9+3);have f1:=hL3.lt.Bw (br.length*9+3+1);have f2:=hL3.lt.Bw (br.length*9+3+2);have f3:=hL3.lt.Bw (br.length*9+3+3);have f4:=hL3.lt.Bw (br.length*9+3+4);have f5:=hL3.lt.Bw (br.length*9+3+5);obtain⟨hRe,hbe⟩:=hL3.KH IK hq hbq ⟨4,⟨0,⟨#[]⟩,0⟩,[],n⟩ ⟨(fun h=>absurd (show(4:Int)=1 from h) (by decide)),(fun h=>absurd (show(4:Int)=2 from h) (by decide)),AY,Rw.nil⟩ AZ.nil (by simp) rfl (by omega) hk;have ZY:=LX.trans hbe;go_wp2;go_ret;exact⟨⟨_,rfl,fun _=>⟨_,_,_,_,hRe⟩⟩,ZY⟩
end
section
open Word Num Dp
def MC(w:World)(B:Nat)(v:Value)(l:List ByteArray):Prop:=w.ownsRow B 9 1 v l.length (l.map .string)
theorem MC.sl(h:MC w B v l):∃p c,v=.slice p l.length c:=Bf h
theorem MC.nil(w:World)(B:Nat):MC w B (.slice none 0 0) []:=⟨rfl,.inl ⟨rfl,rfl⟩⟩
theorem MC.row(h:MC w B v l)(hz:Wz l):Row DL 1 w v l:=by
 obtain⟨p,c,rfl⟩:=h.sl;rcases id h.2 with⟨h1,h2⟩|⟨g,cap,cur,h1,h2,h3,h4,h5,h6,h7⟩
 ·obtain rfl:l=[]:=List.length_eq_zero_iff.1 h2;obtain⟨rfl,-,rfl⟩:=Value.slice.inj h1;exact⟨none,0,rfl,(fun _=>⟨rfl,rfl⟩),⟨by simp,by simp⟩,fun i x hx=>by simp at hx⟩
 ·obtain⟨rfl,-,rfl⟩:=Value.slice.inj h1;refine⟨_,_,rfl,(fun e=>by cases e),⟨by have:=hz.1;omega,h4⟩,fun i x hx=>⟨_,rfl,?_,?_⟩⟩
  ·have hi:=(List.getElem?_eq_some_iff.1 hx).1;rw[Dk,Nat.zero_add,Nat.mul_one];rw[Ep h (by omega)];simp[hx]
  ·have:=hz.2 x (List.mem_of_getElem? hx);unfold Sz;omega
theorem Tv{ops:Array Oper}{rest:List Oper}{o:Oper}{a:Act}{Q:Exit->Act->World->Prop}(hgd:o.guard=none)(s x:Operand)(ho:o.op=.call {callee:=.builtin .append,args:=#[s,x],argTypes:=#[78,78]}) (hs:a.eval s=v) {m:List ByteArray} (hv:MC w B v m)   (hx:a.eval x=u) (hl:Row DL 1 w u l)(hn:m.length+l.length<=100000000) (hB:B<=w.heap.size) (h:∀v' w',MC w' B v' (m++l)->Kp 9 B w w'->wpList prog ops Q rest (a.put o.dst v') w'):wpList prog ops Q (o::rest) a w:=by
 obtain⟨i0,hi,hz0,hz1,hz2⟩:=Cq (P:=prog) (t:=9) (z:=.string .empty) (s:=1) (b:=16) (by kernel_rfl);obtain⟨p,c,rfl,h0,-,hl⟩:=hl;have h1:=hv;unfold MC at h1
 cases p with
 |none=>
  obtain⟨e1,rfl⟩:=h0 rfl;obtain rfl:l=[]:=List.length_eq_zero_iff.1 e1
  exact wpList_append_own_none hgd s x 78 ho B 9 i0 1 underlying78 hi v _ _ hs h1 hx (h _ _ (by rw[List.append_nil];exact hv) .refl)
 |some ad=>
  refine wpList_plain hgd fun _ hK=>?_;refine wp_append_own' s x 78 ho B 9 i0 _ 1 16 underlying78 hi hz0 hz1 hz2 rfl (by decide) v _ _ hs h1 ad _ _ (l.map Value.string) hx (by simp) (fun j u hu=>?_) (fun u hu=>by obtain⟨s,_,rfl⟩:=List.mem_map.1 hu;rfl) (by unfold maxLen;omega) (by omega) hB fun v' w' k1 k2 _=>hK _ _ (h v' w' (by unfold MC;rw[List.length_append,List.map_append];exact k1) (.grown h1 k2 hB));rw[List.getElem?_map]at hu
  cases hj:l[j]? with
  |none=>rw[hj]at hu;cases hu
  |some y=>
   rw[hj]at hu;obtain rfl:Value.string y=u:=(by simpa using hu);obtain⟨b,e,hb,-⟩:=hl j y hj;obtain rfl:ad=b:=(by simpa using e);rw[Nat.mul_one]at hb;exact hb
theorem Wz.drop(h:Wz l)(k:Nat):Wz (l.drop k):=by grind
end
end Go.Proofs.YtlffomedflegdaaGreatDoor
