/- Part 34 of 49 of the proof: Oz, Pa. -/
import Derived.Test.YtlffomedflegdaaGreatDoorPz00
import Derived.Test.YtlffomedflegdaaGreatDoorPz33
set_option linter.all false
set_option maxHeartbeats 16000000
set_option maxRecDepth 100000
namespace Go.Proofs.YtlffomedflegdaaGreatDoor
open Go.Proofs.Tryz
open Go.RowKit
variable {B N R k:Nat}{lg wh:Int}{q:Pg}{w:World}
section
open Word Num Dp
theorem AAB:(prog.info? 238).map (fun i=>(i.zero,i.size,i.bytes))=some (some (.agg #[.string .empty,.slice none 0 0]),2,40):=by kernel_rfl
theorem AAF:(prog.info? 232).map (fun i=>(i.zero,i.size,i.bytes))=some (some (.agg #[.string .empty,.string .empty,.int .i64 0,.slice none 0 0]),4,64):=by kernel_rfl
theorem GC.call'{K:World->Prop}{w2:World}{R:Rs}{cl:Nat}{Y:Value->World->Prop}{V:Nat->Value}{L:Nat->Bool}(hy:∀v,Y v w2):GC K R cl Y V (upd L cl) w2:=by simp_all[Rs,GC,upd]
theorem XR{w0:World}(h0:AA6 w0 w)(hR:Ct w B N R q wh lg k)(hB:w0.heap.size<=B)(hk:k+1<=5000000){u:Value}{l:List ByteArray}(hl:Row DL 1 w0 u l)(hz:Wz l)(hp:0<l.length):Calls prog 215 #[.pointer (some ⟨R,0,none⟩),u] w fun e w'=>Gb w B R k e w'/\Below B w w':=by
 obtain⟨p,c,rfl⟩:=hl.slice;obtain⟨a,rfl,-⟩:=CV hl hp;have d0:=AA h0 (Bg hl hp);have PV:(0:Int)<l.length:=by omega
 by_cases hw:l[0]=⟨#[97,116]⟩\/l[0]=⟨#[111,98,106]⟩\/l[0]=⟨#[106,117,109,112]⟩\/l[0]=⟨#[98,114,97,110,99,104]⟩\/l[0]=⟨#[114,101,116]⟩\/l[0]=⟨#[116,114,97,112]⟩;rotate_left
 ·simp only[not_or]at hw;obtain⟨e1,e2,e3,e4,e5,e6⟩:=hw;replace e1:=Fa e1 rfl;replace e2:=Fa e2 rfl;replace e3:=Fa e3 rfl;replace e4:=Fa e4 rfl;replace e5:=Fa e5 rfl;replace e6:=Fa e6 rfl;generalize l[0]=s at*;go_enter func215,ntmps215;go_wp2;go_ret2;exact⟨⟨_,_,rfl,(fun h=>by cases h),fun _=>AL⟩,AL⟩
 have hBw:B<=w.heap.size:=by have:=hR.own.ge;have:=hR.lt;omega
 have hI:=Hu hR
 rcases hw with hw|hw|hw|hw|hw|hw<;>(
  rw[hw]at d0;go_enter func215,ntmps215;go_wp2_with fail;refine hI.mono ?_;rintro e w1 ⟨⟨b,rfl,hb0⟩,rfl⟩;cases b
  ·go_wp2;go_ret2;exact⟨⟨_,_,rfl,(fun _ h=>absurd h (by decide)),fun h=>by cases h⟩,AL⟩
  have WJ:=hb0 rfl;obtain⟨fr,f,br,b,hq,hbq⟩:=hR.ss.b (by omega) (by omega);obtain⟨FB,cap,hF⟩:=hR.Fy hq;obtain⟨BB,cap2,hL⟩:=hR.lastB hF hbq;obtain⟨nf,hnf⟩:∃nf,nf=fr.length+1:=⟨_,rfl⟩;obtain⟨nb,hnb⟩:∃nb,nb=br.length+1:=⟨_,rfl⟩;have lcF:w.cell? ⟨R,4,none⟩=some (.slice (some ⟨FB,0,none⟩) nf cap):=by rw[hnf];exact hF.lc
  have gI:w.cell? ⟨FB,fr.length*5+4,none⟩=some (.slice (some ⟨BB,0,none⟩) nb cap2):=by rw[hnb];exact hL.lc
  have Da:=hR.qq.2.2.2;rw[hq]at Da;have MF:=Da.1;rw[List.length_append,List.length_singleton]at MF;have GU:=Da.last.2.2.2.2;rw[hbq]at GU;have Jh:=GU.1;rw[List.length_append,List.length_singleton]at Jh;have hix:(nf:Int)-1=(fr.length:Int):=by omega
  have Ns:(fr.length:Int)<nf:=by omega
  have Pm:fr.length<nf:=by omega
  have hwr:IntKind.i64.wrap (fr.length:Int)=fr.length:=IntWalk.i64_in _ (by omega);have hjx:(nb:Int)-1=(br.length:Int):=by omega
  have qb:(br.length:Int)<nb:=by omega
  have qZ:br.length<nb:=by omega
  have hjr:IntKind.i64.wrap (br.length:Int)=br.length:=IntWalk.i64_in _ (by omega);replace hnf:=hidden hnf;replace hnb:=hidden hnb;go_wp2_with fail;refine AO (S:=fun _ v=>AA6 w v) rfl (by kernel_rfl) Ac ?_;iterate 14((apply Ab.z rfl;intro L w1 _ _ _ z hK;(have c1:=AA z.s lcF);go_simp;exact hK (z.s);rfl))
  refine Ab.nil fun w2 hS2=>?_;have cB:=AA hS2 gI;go_wp2_with fail;refine AO (S:=fun _ v=>AA6 w2 v) rfl (by kernel_rfl) Ac ?_;iterate 12((apply Ab.z rfl;intro L w1 _ _ _ z hK;(have c1:=AA z.s cB);go_simp;exact hK (z.s);rfl))
  refine Ab.nil fun w3 WQ=>?_;have hb3:=AB hS2 WQ;replace d0:=AA hb3 d0;replace h0:=AB h0 hb3;have IK:=hR.kp hb3;have hL3:=hL.up hR hq hbq hb3;have LX:=hb3.mono hBw;have hB3:B<=w3.heap.size:=AX hBw hb3.size;have hlc:l.length<=c:=by
   obtain⟨_,_,e,-,⟨-,h⟩,-⟩:=hl;obtain⟨-,-,rfl⟩:=Value.slice.inj e;exact h
  have qX:(l.length:Int)<=c:=by omega
  replace hq:=hidden hq
  replace hbq:=hidden hbq)
 ·have hP:Calls prog 237 #[.slice (some a) l.length c,.int .i64 4,.bool true] w3 fun e w'=>VY w3 w' 4 l.length e/\AA6 w3 w':=Oi h0 hl hz 4 (by decide) true;go_wp2_with fail;refine hP.mono ?_;rintro e w4 ⟨⟨vb,b1,bl,F1,rfl,⟨ps0,mb,cb,rfl⟩,h1⟩,hb4⟩;replace h1:=hidden h1;have Dc:=IK.kp hb4;have hL4:=hL3.up IK hq.out hbq.out hb4;have Po:=LX.trans (hb4.mono hB3);have TB:=AB h0 hb4;have hB4:B<=w4.heap.size:=AX hB3 hb4.size;have gK:N<=w3.heap.size:=IK.own.sz;go_upto_region 16 with fail;go_cut[83]from 64 to 82 (fun v wx=>∃r:Bool,v=.bool r/\(r=false->wh=7/\b1=true)/\AA6 w4 wx)
  ·have cw:=Dc.cw;have hbd:=(Below.refl w4.heap.size w4).drew
   cases h7:((wh:Int) !=7)with
   |true=>
    go_wp2_with fail;refine AO (S:=fun _ v=>AA6 w4 v) rfl (by kernel_rfl) hbd ?_;(iterate 20(first|(apply Ab.z rfl;intro L w1 _ _ _ z hK;(have e0:=AA z.s cw);go_simp;exact hK (z.s);rfl)|(refine Ab.skip rfl (fun L w1 hS hi=>(hS)) ?_;(try simp only[pE]))));refine Ab.nil fun w5 hS5=>?_;go_wp2;go_meet
    exact⟨_,rfl,(fun h=>by cases h),hS5⟩
   |false=>
    have hw7:wh=7:=(by simpa using h7);replace hw7:=hidden hw7;cases b1
    ·go_wp2_with fail;refine AO (S:=fun _ v=>AA6 w4 v) rfl (by kernel_rfl) hbd ?_;(iterate 20(first|(apply Ab.z rfl;intro L w1 _ _ _ z hK;(have e0:=AA z.s cw);go_simp;exact hK (z.s);rfl)|(refine Ab.skip rfl (fun L w1 hS hi=>(hS)) ?_;(try simp only[pE]))));refine Ab.nil fun w5 hS5=>?_;go_wp2;go_meet;exact⟨_,rfl,(fun h=>by cases h),hS5⟩
    ·obtain⟨k1,-⟩:=h1.out rfl;have C8:0+1<l.length:=(by omega);have Fw:(1:Int)<l.length:=(by omega);have LQ:1+1<l.length:=(by omega);have Qj:(2:Int)<l.length:=(by omega);obtain⟨a1,e1,d1⟩:=BQ hl (q:=0) C8;obtain rfl:a=a1:=(by simpa using e1);obtain⟨a2,e2,d2⟩:=BQ hl (q:=1) LQ;obtain rfl:a=a2:=(by simpa using e2);have hz1:=Dl hz C8;have hz2:=Dl hz LQ;replace d1:=AA TB d1;replace d2:=AA TB d2;simp only[Nat.zero_add,Nat.reduceAdd]at d1 d2 hz1 hz2;generalize l[1]=s1 at*;generalize l[2]=s2 at*;obtain⟨nv,nC⟩:∃nv,nv=[s1,s2].all nm:=⟨_,rfl⟩;replace nC:=hidden nC;go_wp2_with fail;refine AV (S:=GC (fun v1=>AA6 w4 v1) (R1 16 17 (fun v v1=>∃pb,v=.slice (some ⟨pb,0,none⟩) 2 2/\Ae v1 pb [.string s1,.string s2])) 17 (fun _ v1=>AA6 w4 v1)) rfl (by kernel_rfl) (GC.start hbd) ?_;(iterate 16((apply AU.z rfl;intro V L w1 _ _ _ z hK;(try(have hc:=z.f 17 (by kernel_rfl);have hI:=z.s.k hc;(have e0:=AA hI cw;have e1:=AA hI d1;have e2:=AA hI d2)));go_simp;exact hK (z.s.keep rfl rfl);intros;rfl)));refine AU.free (fun _=>rfl) (fun V L w2 K' Q' hS hi hR hd hK=>?_) ?_
     ·have hc:=hR.out 17 16 (by kernel_rfl) hi;have hI:=hS.k hc;have hb:=AJ w2 (.cells #[.string s1,.string s2] 9);go_simp;(try simp only[pE]);exact hK.out _ _ rfl (hS.made (Cv fun h=>absurd rfl h) (AB hI hb) hc rfl ⟨_,rfl,Ae.alloc _ _ _⟩ rfl)
     (try simp only[pE]);refine AU.val (.bool nv) (fun _=>rfl) (fun V L w2 K' Q' hS hi hR hd hK=>?_) ?_
     ·obtain⟨pb,hp,hx⟩:=hS.val hi rfl (hd.out 16 (by kernel_rfl)) hi;have hI:=hS.k hi;have hN:=Bn (Below.refl w2.heap.size _) (DN (l:=[s1,s2]) hx ⟨show 2<=10000000 by decide,by simpa using⟨hz1,hz2⟩⟩);rw[<-nC.out]at hN;simp only[hp];go_simp;(go_wp2_with(refine hN.mono ?_;rintro e w3 ⟨rfl,rfl⟩));exact hK.out _ _ (by simp only[hp];rfl) (GC.call' fun _=>hI)
     (try simp only[pE]);(iterate 2((apply AU.z rfl;intro V L w1 _ _ _ z hK;go_simp;exact hK (z.s.keep rfl rfl);intros;rfl)));refine AU.nil fun V w5 hS=>?_;have hb5:=hS.done rfl;go_wp2;go_meet;exact⟨_,rfl,(fun _=>⟨hw7.out,trivial⟩),hb5⟩
  obtain⟨r,rfl,hr,hb5⟩:=hcut;obtain⟨w5,rfl⟩:∃w5:World,w5=wc:=⟨_,rfl⟩;have CS:=Dc.kp hb5;have hL5:=hL4.up Dc hq.out hbq.out hb5;have Za:=Po.trans (hb5.mono hB4);have Ku:=AB TB hb5;have ZC:B<=w5.heap.size:=AX hB4 hb5.size;cases r;rotate_left
  ·go_wp2;go_ret2;exact⟨⟨_,_,rfl,(fun _ h=>absurd h (by decide)),fun h=>by cases h⟩,Za⟩
  obtain⟨ZJ,rfl⟩:=hr rfl;replace ZJ:=hidden ZJ;obtain⟨k1,kn,k2,k3,k4⟩:=h1.out rfl;replace k2:=k2.same (w':=w5) fun b hb=>hb5.block b (k2.fp b hb).2;obtain rfl:mb=bl.length:=by
   obtain⟨_,_,e⟩:=k2.slice;rw[List.length_map]at e;exact(Value.slice.inj e).2.1
  have nN:2+1<l.length:=by omega
  have h3I:(3:Int)<l.length:=by omega
  obtain⟨a3,e3,d3⟩:=BQ hl (q:=2) nN;obtain rfl:a=a3:=by simpa using e3
  have hz3:=Dl hz nN;replace d3:=AA Ku d3;simp only[Nat.reduceAdd]at d3 hz3;have hG:=fun w=>JU l[3] hz3 w;generalize l[3]=s3 at*;go_wp2_with fail;refine(hG _).mono ?_;rintro e w6 ⟨⟨n,is,rfl,-⟩,hb6⟩;have ES:=CS.kp hb6;have hL6:=hL5.up CS hq.out hbq.out hb6;have qw:=Za.trans (hb6.mono ZC);have PX:=AB Ku hb6;have nM:B<=w6.heap.size:=AX ZC hb6.size;replace k2:=k2.same (w':=w6) fun b hb=>hb6.block b (A9 (k2.fp b hb).2 (AQ));go_upto_region 19 with fail;go_cut[100]from 91 to 99 (fun v wx=>∃r:Bool,v=.bool r/\wx=w6)
  ·cases is
   ·go_wp2;go_meet;exact⟨_,rfl,rfl⟩
   ·cases hn0:decide (n<0)with
    |true=>
     have xq:=BK hn0;go_wp2;go_meet
     exact⟨_,rfl,rfl⟩
    |false=>
     have xq:=CJ hn0
     cases hn1:decide ((1024:Int)<n)with
     |true=>
      have ADo:=BK hn1;go_wp2;go_meet
      exact⟨_,rfl,rfl⟩
     |false=>
      have ADo:=CJ hn1;go_wp2;go_meet;exact⟨_,rfl,rfl⟩
  obtain⟨r,rfl,rfl⟩:=hcut;obtain⟨w6,rfl⟩:∃w6:World,w6=wc:=⟨_,rfl⟩;cases r;rotate_left
  ·go_wp2;go_ret2;exact⟨⟨_,_,rfl,(fun _ h=>absurd h (by decide)),fun h=>by cases h⟩,qw⟩
  obtain⟨cr,x,hcs⟩:∃cr x,b.cs=cr++[x]:=by
   obtain⟨fr',f',br',b',cr,x,e1,e2,e3⟩:=ES.ss.i (by have:=ZJ.out;omega) (by omega);rw[hq.out]at e1;obtain⟨rfl,h⟩:=List.append_inj' e1 rfl;obtain rfl:f=f':=(by simpa using h);rw[hbq.out]at e2;obtain⟨rfl,h⟩:=List.append_inj' e2 rfl;obtain rfl:b=b':=(by simpa using h);exact⟨cr,x,e3⟩
  obtain⟨IB,Nv,pY⟩:=hL6.oH hcs;obtain⟨ni,hni⟩:∃ni,ni=cr.length+1:=⟨_,rfl⟩;have lcI:w6.cell? ⟨BB,br.length*9+2,none⟩=some (.slice (some ⟨IB,0,none⟩) ni Nv):=by rw[hni];exact pY.lc
  have hqc:=GU.last.2.2.1;rw[hcs]at hqc;have Z0:=hqc.1;rw[List.length_append,List.length_singleton]at Z0;have hmx:(ni:Int)-1=(cr.length:Int):=by omega
  have ADq:(cr.length:Int)<ni:=by omega
  have ADp:cr.length<ni:=by omega
  have hmr:IntKind.i64.wrap (cr.length:Int)=cr.length:=IntWalk.i64_in _ (by omega);obtain⟨F2,vc,xs,⟨hc,hox,⟨pc,cc,rfl⟩,hsp,-⟩,hF2⟩:=pY.lf;replace hni:=hidden hni;replace hcs:=hidden hcs;go_wp2_with fail;refine AO (S:=fun _ v=>AA6 w6 v) rfl (by kernel_rfl) Ac ?_;iterate 12((apply Ab.z rfl;intro L w1 _ _ _ z hK;(have c1:=AA z.s lcI);go_simp;exact hK (z.s);rfl))
  refine Ab.nil fun w7 iK=>?_;have cV:=AA iK hc;have AAb:x.fr.length<=k:=hqc.last.2.2.2.2.1.1;have hkk:=ES.kk;have hln:=hz.1;go_upto_region 22 with fail;go_cut[122]from 112 to 121 (fun v wx=>∃r:Bool,v=.bool r/\wx=w7)
  ·cases hg1:decide ((16:Int)<(bl.length:Int))with
   |true=>
    have QZ:=BK hg1;have hgN:16<bl.length:=(by omega);go_wp2;go_meet
    exact⟨_,rfl,rfl⟩
   |false=>
    have QZ:=CJ hg1;have hgN:¬16<bl.length:=by omega
    cases hg2:decide ((16:Int)<=(x.fr.length:Int))with
    |true=>
     have pI:=BK hg2;have hgM:16<=x.fr.length:=(by omega);go_wp2;go_meet
     exact⟨_,rfl,rfl⟩
    |false=>
     have pI:=CJ hg2;have hgM:¬16<=x.fr.length:=(by omega);go_wp2;go_meet;exact⟨_,rfl,rfl⟩
  obtain⟨r,rfl,rfl⟩:=hcut;obtain⟨w7,rfl⟩:∃w7:World,w7=wc:=⟨_,rfl⟩;cases r;rotate_left
  ·go_wp2;go_ret2;exact⟨⟨_,_,rfl,(fun _ h=>absurd h (by decide)),fun h=>by cases h⟩,qw.trans (iK.mono nM)⟩
  have GZ:AA6 w6 w7.drew:=AB iK Ac;have BO:=ES.kp GZ;have hc6:=AA GZ hc;have Pj:=Dh hox GZ (AQ);have qO:=hsp.kp (GZ.mono ES.own.sz);have hIT:=DC.nx pY.lt GZ;have C8:0+1<l.length:=by omega
  have Fw:(1:Int)<l.length:=by omega
  have LQ:1+1<l.length:=by omega
  have Qj:(2:Int)<l.length:=by omega
  obtain⟨a1,e1,d1⟩:=BQ hl (q:=0) C8;obtain rfl:a=a1:=by simpa using e1
  obtain⟨a2,e2,d2⟩:=BQ hl (q:=1) LQ;obtain rfl:a=a2:=by simpa using e2
  have hz1:=Dl hz C8;have hz2:=Dl hz LQ;simp only[Nat.zero_add,Nat.reduceAdd]at d1 d2 hz1 hz2;have hag:a.block<B:=A9 (World.block_lt_of_cell? _ ⟨a.block,a.off+1,none⟩ d1) hB;replace d1:=AA (AB PX GZ) d1;replace d2:=AA (AB PX GZ) d2;generalize l[1]=s1 at*;generalize l[2]=s2 at*;have Qo:=own_ne Pj hIT (by decide);have DT:=Ed Pj hag;have hsz:B<=w7.drew.heap.size:=AX nM GZ.size;have kd:=k2.same (w':=w7.drew) fun b hb=>GZ.block b (k2.fp b hb).2;have hx:=hqc.last;go_wp2_with fail;refine AV (S:=Ad w7.drew B 232 4 14 15 18 [.string s1,.string s2,.int .i64 n,.slice ps0 bl.length cb] x.fr.length xs (.slice pc x.fr.length cc) ⟨IB,cr.length*6+4,none⟩) rfl (by kernel_rfl) (Ad.start (AL)) ?_;iterate 14((apply AU.z rfl;intro V L w1 _ _ _ z hK;(try(have hs:=z.f 18 (by kernel_rfl);(have c1:=z.s.cellOf hs hc6 Qo;have c2:=z.s.cellOf hs (show w7.drew.cell? ⟨a.block,a.off+1,none⟩=some (.string s1)from d1) DT;have c3:=z.s.cellOf hs (show w7.drew.cell? ⟨a.block,a.off+2,none⟩=some (.string s2)from d2) DT)));go_simp;exact hK (z.s.keep rfl rfl rfl);intros;rfl))
  (apply AU.w rfl;intro V L w1 _ _ _ z hK;go_simp;exact hK rfl (z.s.made (z.o 15 (by kernel_rfl)) rfl _);(try simp only[pE]));(refine AU.free (fun _=>rfl) (fun V L w1 _ _ hS hi hR hd hK=>hS.go hi (hR.out (18) _ (by kernel_rfl) hi) (hd.out (14) (by kernel_rfl)) (AAF) (underlying130) (Pj) rfl rfl rfl rfl rfl rfl (by decide) (by simp[Value.oneCell']) (by unfold maxLen;omega) fun v' w' h=>hK.out _ _ rfl h) ?_;(try simp only[pE]));iterate 2((apply AU.z rfl;intro V L w1 _ _ _ z hK;(try(have hs:=z.f 18 (by kernel_rfl);(skip)));go_simp;exact hK (z.s.keep rfl rfl rfl);intros;rfl))
  (apply AU.val undef (fun _=>rfl);intro V L w1 _ _ hS hi hR hd hK;have ha:=hd.out (15) (by kernel_rfl);(have cs:=hS.cellOf hi hc6 Qo;have fs:=hS.EA hi (o:=cr.length*6+4) hIT.lt (hIT.Bw _) Qo);have hS2:=hS.stored ha hi rfl;obtain⟨pu,ku,CX⟩:=hS.val ha;rw[CX]at hS2;simp only[CX];go_simp;exact hK.out _ _ (by simp only[CX];rfl) hS2;simp only[Act.put]);refine AU.nil fun V w8 hS=>?_;obtain⟨E8,Bp⟩:=hS.Yq (d:=nR ⟨s1,s2,n,bl⟩) (q':={q with fs:=fr++[{f with bs:=br++[{b with cs:=cr++[{x with fr:=x.fr++[⟨s1,s2,n,bl⟩]}]}]}]}) rfl rfl BO qO hc6 Pj (by simp) (by decide) (fun w1 pb hlow hx=>⟨F1++[],Af.of (AP.cc (hx.c 0 _ rfl) rfl (AP.cc (hx.c 1 _ rfl) rfl (AP.cc (hx.c 2 _ rfl) rfl (AP.cr (hx.c 3 _ rfl) (AZ.mono gK (kd.same fun b hb=>hlow.block b (kd.fp b hb).2)) AP.cn)))),by simpa using k3⟩) rfl rfl (by rw[<-hF2,List.map_append];rfl) ⟨BO.qq.1.up (Aa) fun _ h=>QW.up (Aa) h,BO.qq.2.1.up (Aa) fun _ h=>h,BO.qq.2.2.1.up (Aa) fun _ h=>h,Da.turn (Aa) (fun _ h=>QV.up (Aa) h) ⟨Da.last.1,Da.last.2.1,Da.last.2.2.1.up (Aa) fun _ h=>h,Da.last.2.2.2.1.up (Aa) fun _ h=>h,GU.turn (Aa) (fun _ h=>WI.up (Aa) h) ⟨GU.last.1,GU.last.2.1.up (Aa) fun _ h=>h,hqc.turn (Aa) (fun _ h=>gG.up (Aa) h) ⟨hx.1,hx.2.1,hx.2.2.1,hx.2.2.2.1,hx.2.2.2.2.1.snoc (fun _ h=>h) ⟨hz1,hz2,AX kn hln,k4⟩,hx.2.2.2.2.2.up (Aa) fun _ h=>h⟩,GU.last.2.2.2⟩⟩⟩ ⟨BO.ss.r,BO.ss.c,(fun _=>by simp),(fun _ _=>⟨fr,_,br,_,rfl,rfl⟩),fun _ _=>⟨fr,_,br,_,cr,_,rfl,rfl,rfl⟩⟩ hk;have J9:=(qw.trans (GZ.mono nM)).trans Bp;go_wp2;go_ret2;exact⟨⟨_,_,rfl,(fun _ _=>⟨_,_,_,_,E8⟩),fun h=>by cases h⟩,J9⟩
 ·go_upto_region 27 with fail;go_cut[165]from 143 to 164 (fun v wx=>∃r:Bool,v=.bool r/\(r=false->7<=wh/\2<=l.length/\nm (l.getD 1 Bv)=true)/\AA6 w3 wx)
  ·have cw:=IK.cw
   cases h7:decide (wh<7)with
   |true=>
    have QZ:=BK h7;go_wp2;go_meet
    exact⟨_,rfl,(fun h=>by cases h),AL⟩
   |false=>
    have QZ:=CJ h7
    cases h2:decide ((l.length:Int)<2)with
    |true=>
     have pI:=BK h2;have hgN:l.length<2:=(by omega);go_wp2;go_meet
     exact⟨_,rfl,(fun h=>by cases h),AL⟩
    |false=>
     have pI:=CJ h2;have hgN:¬l.length<2:=by omega
     cases h10:decide ((10:Int)<(l.length:Int))with
     |true=>
      have hgK:=BK h10;have hgM:10<l.length:=(by omega);go_wp2;go_meet
      exact⟨_,rfl,(fun h=>by cases h),AL⟩
     |false=>
      have hgK:=CJ h10;have hgM:¬10<l.length:=(by omega);have C8:1<l.length:=(by omega);have Fw:(1:Int)<l.length:=(by omega);obtain⟨_,rfl,hz1,d1⟩:=EN hl C8 hz;replace d1:=AA h0 d1;generalize l.getD 1 Bv=s1 at*;have J8:=AJ w3 (.cells #[.string s1] 9);have hN:=Bn (Below.refl (w3.alloc (.cells #[.string s1] 9)).heap.size _) (DN (l:=[s1]) (Ae.alloc w3 [.string s1] 9) ⟨show 1<=10000000 by decide,by simpa using hz1⟩);simp only[List.length_cons,List.length_nil,Nat.zero_add,List.all_cons,List.all_nil,Bool.and_true]at hN;generalize nm s1=nv at*;have hx7:7<=wh/\2<=l.length:=(by omega);go_wp2_with fail;refine hN.mono ?_;rintro e w4 ⟨rfl,rfl⟩;cases nv
      ·go_wp2;go_meet;exact⟨_,rfl,(fun h=>by cases h),J8⟩
      ·go_wp2;go_meet;exact⟨_,rfl,(fun _=>⟨hx7.1,hx7.2,by trivial⟩),J8⟩
  obtain⟨r,rfl,hr,hb4⟩:=hcut;obtain⟨w4,rfl⟩:∃w4:World,w4=wc:=⟨_,rfl⟩;have Dc:=IK.kp hb4;have hL4:=hL3.up IK hq.out hbq.out hb4;have Po:=LX.trans (hb4.mono hB3);have TB:=AB h0 hb4;have hB4:B<=w4.heap.size:=AX hB3 hb4.size;cases r;rotate_left
  ·go_wp2;go_ret2;exact⟨⟨_,_,rfl,(fun _ h=>absurd h (by decide)),fun h=>by cases h⟩,Po⟩
  obtain⟨ZJ,hl2,hnm⟩:=hr rfl;replace hnm:=hidden hnm;have Qj:(2:Int)<=l.length:=by omega
  go_upto_region 29 with fail;go_cut[13,14]from 166 to 171 (fun v x wx=>∃(al:List Ag) (F1:List Nat) (pa:Option Addr) (m1 ca:Nat) (b1:Bool),v=.slice pa m1 ca/\x=.bool b1/\Hid (b1=true->AZ wx w4.heap.size 77 3 (al.map Ls) (.slice pa m1 ca) F1/\F1.Nodup/\Az al/\al.length<=10000000)/\AA6 w4 wx)
  ·by_cases hc2:c=2
   ·subst hc2;have hT:=hl.tail (k:=2) (m:=0) (b:=a) (by omega) (by omega) (fun _=>by omega);rw[show l.length-2=0 by omega]at hT;have hA:=FT TB hT (hz.drop 2) true;go_wp2_with fail;refine hA.mono ?_;rintro e w5 ⟨⟨v1,b1,al,F1,rfl,⟨pa,m1,ca,rfl⟩,h1⟩,hb5⟩;replace h1:=hidden h1;go_wp2;go_meet
    ·exact⟨al,F1,pa,m1,ca,b1,rfl,rfl,hidden fun e=>by
     obtain⟨k1,k2,k3,k4⟩:=h1.out e
     exact⟨k2,k3,k4,by rw[k1];have:=(hz.drop 2).1;exact this⟩,hb5⟩
   ·skip
    have hT:=hl.tail (k:=2) (m:=c-2) (b:=⟨a.block,a.off+2,none⟩) (by omega) (by omega) (fun _=>by simp[Addr.add])
    skip
    have hA:=FT TB hT (hz.drop 2) true;go_wp2_with fail;refine hA.mono ?_;rintro e w5 ⟨⟨v1,b1,al,F1,rfl,⟨pa,m1,ca,rfl⟩,h1⟩,hb5⟩;replace h1:=hidden h1;go_wp2;go_meet
    ·exact⟨al,F1,pa,m1,ca,b1,rfl,rfl,hidden fun e=>by
     obtain⟨k1,k2,k3,k4⟩:=h1.out e
     exact⟨k2,k3,k4,by rw[k1];have:=(hz.drop 2).1;exact this⟩,hb5⟩
  obtain⟨al,F1,pa,m1,ca,b1,rfl,rfl,h1,hb5⟩:=hcut;obtain⟨w5,rfl⟩:∃w5:World,w5=wc:=⟨_,rfl⟩;have CS:=Dc.kp hb5;have hL5:=hL4.up Dc hq.out hbq.out hb5;have Za:=Po.trans (hb5.mono hB4);have Ku:=AB TB hb5;have ZC:B<=w5.heap.size:=AX hB4 hb5.size;have hN4:N<=w4.heap.size:=Dc.own.sz;cases b1
  ·go_wp2;go_ret2;exact⟨⟨_,_,rfl,(fun _ h=>absurd h (by decide)),fun h=>by cases h⟩,Za⟩
  obtain⟨k2,k3,k4,k5⟩:=h1.out rfl;obtain rfl:m1=al.length:=by
   obtain⟨_,_,e⟩:=k2.slice;rw[List.length_map]at e;exact(Value.slice.inj e).2.1
  obtain⟨cr,x,hcs⟩:∃cr x,b.cs=cr++[x]:=by
   obtain⟨fr',f',br',b',cr,x,e1,e2,e3⟩:=CS.ss.i ZJ (by omega);rw[hq.out]at e1;obtain⟨rfl,h⟩:=List.append_inj' e1 rfl;obtain rfl:f=f':=(by simpa using h);rw[hbq.out]at e2;obtain⟨rfl,h⟩:=List.append_inj' e2 rfl;obtain rfl:b=b':=(by simpa using h);exact⟨cr,x,e3⟩
  obtain⟨IB,Nv,pY⟩:=hL5.oH hcs;obtain⟨ni,hni⟩:∃ni,ni=cr.length+1:=⟨_,rfl⟩;have lcI:w5.cell? ⟨BB,br.length*9+2,none⟩=some (.slice (some ⟨IB,0,none⟩) ni Nv):=by rw[hni];exact pY.lc
  have hqc:=GU.last.2.2.1;rw[hcs]at hqc;have Z0:=hqc.1;rw[List.length_append,List.length_singleton]at Z0;have hmx:(ni:Int)-1=(cr.length:Int):=by omega
  have ADq:(cr.length:Int)<ni:=by omega
  have ADp:cr.length<ni:=by omega
  have hmr:IntKind.i64.wrap (cr.length:Int)=cr.length:=IntWalk.i64_in _ (by omega);obtain⟨F2,vc,xs,⟨hc,hox,⟨pc,cc,rfl⟩,hsp,-⟩,hF2⟩:=pY.lo;replace hni:=hidden hni;replace hcs:=hidden hcs;go_wp2_with fail;refine AO (S:=fun _ v=>AA6 w5 v) rfl (by kernel_rfl) Ac ?_;iterate 12((apply Ab.z rfl;intro L w1 _ _ _ z hK;(have c1:=AA z.s lcI);go_simp;exact hK (z.s);rfl))
  refine Ab.nil fun w6 H6=>?_;have cV:=AA H6 hc;have Qi:=D8 (x.ob.length:Int) 99 w6;go_wp2_with fail;refine Qi.mono ?_;rintro e w7 ⟨⟨lim,rfl,-⟩,rfl⟩;have GZ:AA6 w5 w6.drew:=AB H6 Ac;have BO:=CS.kp GZ;have hc6:=AA GZ hc;have Pj:=Dh hox GZ (AQ);have qO:=hsp.kp (GZ.mono CS.own.sz);have hIT:=DC.nx pY.lt GZ;have C8:1<l.length:=by omega
  have Fw:(1:Int)<l.length:=by omega
  obtain⟨s1,hg,hz1,d1⟩:=EN hl C8 hz;have hag:a.block<B:=A9 (World.block_lt_of_cell? _ ⟨a.block,a.off+1,none⟩ d1) hB;replace d1:=AA (AB Ku GZ) d1;have Qo:=own_ne Pj hIT (by decide);have DT:=Ed Pj hag;have hsz:B<=w6.drew.heap.size:=AX ZC GZ.size;have AAb:x.ob.length<=k:=hqc.last.2.2.2.2.2.1;have hkk:=BO.kk;have kd:=k2.same (w':=w6.drew) fun b hb=>GZ.block b (k2.fp b hb).2;have hx:=hqc.last;go_wp2_with fail;refine AV (S:=Ad w6.drew B 238 2 10 11 14 [.string s1,.slice pa al.length ca] x.ob.length xs (.slice pc x.ob.length cc) ⟨IB,cr.length*6+5,none⟩) rfl (by kernel_rfl) (Ad.start (AL)) ?_;iterate 10((apply AU.z rfl;intro V L w1 _ _ _ z hK;(try(have hs:=z.f 14 (by kernel_rfl);(have c1:=z.s.cellOf hs hc6 Qo;have c2:=z.s.cellOf hs (show w6.drew.cell? ⟨a.block,a.off+1,none⟩=some (.string s1)from d1) DT)));go_simp;exact hK (z.s.keep rfl rfl rfl);intros;rfl))
  (apply AU.w rfl;intro V L w1 _ _ _ z hK;go_simp;exact hK rfl (z.s.made (z.o 11 (by kernel_rfl)) rfl _);(try simp only[pE]));(refine AU.free (fun _=>rfl) (fun V L w1 _ _ hS hi hR hd hK=>hS.go hi (hR.out (14) _ (by kernel_rfl) hi) (hd.out (10) (by kernel_rfl)) (AAB) (underlying131) (Pj) rfl rfl rfl rfl rfl rfl (by decide) (by simp[Value.oneCell']) (by unfold maxLen;omega) fun v' w' h=>hK.out _ _ rfl h) ?_;(try simp only[pE]));iterate 2((apply AU.z rfl;intro V L w1 _ _ _ z hK;(try(have hs:=z.f 14 (by kernel_rfl);(have c1:=z.s.cellOf hs hc6 Qo;have c2:=z.s.cellOf hs (show w6.drew.cell? ⟨a.block,a.off+1,none⟩=some (.string s1)from d1) DT)));go_simp;exact hK (z.s.keep rfl rfl rfl);intros;rfl))
  (apply AU.val undef (fun _=>rfl);intro V L w1 _ _ hS hi hR hd hK;have ha:=hd.out (11) (by kernel_rfl);(have cs:=hS.cellOf hi hc6 Qo;have fs:=hS.EA hi (o:=cr.length*6+5) hIT.lt (hIT.Bw _) Qo);have hS2:=hS.stored ha hi rfl;obtain⟨pu,ku,CX⟩:=hS.val ha;rw[CX]at hS2;simp only[CX];go_simp;exact hK.out _ _ (by simp only[CX];rfl) hS2;simp only[Act.put]);refine AU.nil fun V w8 hS=>?_;obtain⟨E8,Bp⟩:=hS.Yq (d:=nQ ⟨s1,al⟩) (q':={q with fs:=fr++[{f with bs:=br++[{b with cs:=cr++[{x with ob:=x.ob++[⟨s1,al⟩]}]}]}]}) rfl rfl BO qO hc6 Pj (by simp) (by decide) (fun w1 pb hlow hx=>⟨F1++[],Af.of (AP.cc (hx.c 0 _ rfl) rfl (AP.cr (hx.c 1 _ rfl) (AZ.mono hN4 (kd.same fun b hb=>hlow.block b (kd.fp b hb).2)) AP.cn)),by simpa using k3⟩) rfl rfl (by rw[<-hF2,List.map_append];rfl) ⟨BO.qq.1.up (Aa) fun _ h=>QW.up (Aa) h,BO.qq.2.1.up (Aa) fun _ h=>h,BO.qq.2.2.1.up (Aa) fun _ h=>h,Da.turn (Aa) (fun _ h=>QV.up (Aa) h) ⟨Da.last.1,Da.last.2.1,Da.last.2.2.1.up (Aa) fun _ h=>h,Da.last.2.2.2.1.up (Aa) fun _ h=>h,GU.turn (Aa) (fun _ h=>WI.up (Aa) h) ⟨GU.last.1,GU.last.2.1.up (Aa) fun _ h=>h,hqc.turn (Aa) (fun _ h=>gG.up (Aa) h) ⟨hx.1,hx.2.1,hx.2.2.1,hx.2.2.2.1,hx.2.2.2.2.1.up (Aa) fun _ h=>h,hx.2.2.2.2.2.snoc (fun _ h=>h) ⟨hz1,k5,k4⟩⟩,GU.last.2.2.2⟩⟩⟩ ⟨BO.ss.r,BO.ss.c,(fun _=>by simp),(fun _ _=>⟨fr,_,br,_,rfl,rfl⟩),fun _ _=>⟨fr,_,br,_,cr,_,rfl,rfl,rfl⟩⟩ hk;have J9:=(Za.trans (GZ.mono ZC)).trans Bp;have cw:=E8.cw;have f5:=E8.Bw 5;have TN:=E8.setW 8 ⟨by omega,(fun h=>absurd h (by decide)),(fun _=>by simp),(fun _ _=>⟨fr,_,br,_,rfl,rfl⟩),fun _ _=>⟨fr,_,br,_,cr,_,rfl,rfl,rfl⟩⟩;have Wt:=J9.trans (E8.low (.int .i64 8) 5);go_wp2;go_ret2;exact⟨⟨_,_,rfl,(fun _ _=>⟨_,_,_,_,TN⟩),fun h=>by cases h⟩,Wt⟩
 all_goals
  have hE:=fI h0 IK hB hk hl hz hp hq.out hbq.out hL3;go_wp2_with fail;refine hE.mono ?_;rintro e w4 ⟨⟨why,rfl,hy⟩,hb4⟩;go_wp2;go_ret2;exact⟨⟨_,_,rfl,(fun _ h=>hy h),fun h=>by cases h⟩,LX.trans hb4⟩
end
section
open Word Num Dp
theorem Ct.ADM(h:Ct w B N R q wh lg k):Ct (w.setCell ⟨R,0,none⟩ (.bool true)) B N R {q with ssa:=true} wh lg k:=by
 have s0:=h.own.spot;unfold IL at s0;have s1:=s0.nth 0 rfl rfl;unfold Qk at s1;have s2:=s1.nth 0 rfl rfl;obtain⟨cur,ht⟩:=h.typ;exact⟨s2.set1 (v1:=.bool true) rfl,Ew ht _ _,h.qq,⟨h.ss.r,h.ss.c,h.ss.f,h.ss.b,h.ss.i⟩,h.kk,h.ll⟩
theorem QF{w':World}{why:Int}(hk:k+2<=5000000)(hy:why=0->∃N q wh lg,Ct w' B N R q wh lg (k+1)):Wy B R (k+1) (.returned (.int .i64 why)) w':=⟨_,rfl,fun h=>by
 obtain⟨N,q,wh,lg,h⟩:=hy h
 exact⟨N,q,wh,lg,h.up hk⟩⟩
theorem dh{w0:World}(h0:AA6 w0 w)(hW:Words w0)(hR:Ct w B N R q wh lg k)(hB:w0.heap.size<=B)(hk:k+2<=5000000){u:Value}{l:List ByteArray}(hl:Row DL 1 w0 u l)(hz:Wz l)(hp:0<l.length)(fi:Bool):Calls prog 168 #[.pointer (some ⟨R,0,none⟩),u,.bool fi] w fun e w'=>Wy B R (k+1) e w'/\Below B w w':=by
 obtain⟨p,c,rfl⟩:=hl.slice;obtain⟨a,rfl,-⟩:=CV hl hp;have hBw:B<=w.heap.size:=by have:=hR.own.ge;have:=hR.lt;omega
 have PV:(0:Int)<l.length:=by omega
 have d0:=AA h0 (Bg hl hp);have hC:∀W,AA6 w W->Calls prog 212 #[.pointer (some ⟨R,0,none⟩),.slice (some a) l.length c] W fun e w'=>Wy B R (k+1) e w'/\Below B W w':=fun W hb=>Xl (AB h0 hb) hW (hR.kp hb) hB hk hl hz hp;go_enter func168,ntmps168;go_upto_region 1 with fail;go_cut[17]from 9 to 16 (fun v wx=>∃r:Bool,v=.bool r/\wx=w)
 ·cases h2:decide ((2:Int)<(l.length:Int))with
  |false=>
   have Qj:=CJ h2;have LQ:¬2<l.length:=(by omega);go_wp2;go_meet
   exact⟨_,rfl,rfl⟩
  |true=>
   have Qj:=BK h2;have LQ:2<l.length:=(by omega);have C8:0+1<l.length:=(by omega);have Fw:(1:Int)<l.length:=(by omega);obtain⟨a1,e1,d1⟩:=BQ hl (q:=0) C8;obtain rfl:a=a1:=(by simpa using e1);replace d1:=AA h0 d1;simp only[Nat.zero_add]at d1;generalize l[1]=s1 at*
   cases hs:(s1.toList==[61])with
   |false=>
    go_wp2;go_meet
    exact⟨_,rfl,rfl⟩
   |true=>
    go_wp2;go_meet;exact⟨_,rfl,rfl⟩
 obtain⟨r,rfl,rfl⟩:=hcut;obtain⟨w,rfl⟩:∃w1:World,w1=wc:=⟨_,rfl⟩;cases r;rotate_left
 ·have iL:=hC _ (AL);go_wp2_with fail;refine iL.mono ?_;rintro e w2 ⟨⟨why,rfl,hy⟩,hb2⟩;replace hy:=hidden hy;go_wp2;go_ret;exact⟨⟨_,rfl,hy.out⟩,hb2⟩
 cases hs:(l[0].toList==[115,115,97])with
 |true=>
  have c0:=hR.ssa;have f0:=hR.Bw 0;have hT:=hR.ADM;have hbT:=hR.low (.bool true) 0;generalize l[0]=s0 at*;go_upto_region 4 with fail;go_cut[31]from 25 to 30 (fun v wx=>∃r:Bool,v=.bool r/\wx=w)
  ·cases fi
   ·go_wp2;go_meet;exact⟨_,rfl,rfl⟩
   ·cases h1:((l.length:Int) !=1)with
    |true=>
     go_wp2;go_meet
     exact⟨_,rfl,rfl⟩
    |false=>
     go_wp2;go_meet;exact⟨_,rfl,rfl⟩
  obtain⟨r,rfl,rfl⟩:=hcut;obtain⟨w,rfl⟩:∃w1:World,w1=wc:=⟨_,rfl⟩;cases r;rotate_left
  ·go_wp2;go_ret;exact⟨⟨_,rfl,fun h=>absurd h (by decide)⟩,AL⟩
  go_wp2;go_ret
  exact⟨⟨_,rfl,fun _=>⟨_,_,_,_,(hT.up (by omega)).up hk⟩⟩,hbT⟩
 |false=>
 have hH:=eX h0 hR hB (by omega) hl hz hp;have hP:∀W,AA6 w W->Calls prog 214 #[.pointer (some ⟨R,0,none⟩),.slice (some a) l.length c] W fun e w'=>Gb W B R k e w'/\Below B W w':=fun W hb=>dH (AB h0 hb) (hR.kp hb) hB (by omega) hl hz hp;have hS:∀W,AA6 w W->Calls prog 215 #[.pointer (some ⟨R,0,none⟩),.slice (some a) l.length c] W fun e w'=>Gb W B R k e w'/\Below B W w':=fun W hb=>XR (AB h0 hb) (hR.kp hb) hB (by omega) hl hz hp;generalize l[0]=s0 at*;go_wp2_with fail;refine hH.mono ?_;rintro e w2 ⟨⟨b,why,rfl,hy,hn⟩,hb2⟩;cases b;rotate_left
 ·replace hy:=hidden (hy rfl);go_wp2;go_ret;exact⟨QF hk hy.out,hb2⟩
 have hn2:=hn rfl;have hP1:=hP _ hn2;go_wp2_with fail;refine hP1.mono ?_;rintro e w3 ⟨⟨b,AJA,rfl,hy,hn⟩,hb3⟩;have Db:=hn2.mono hBw;cases b;rotate_left
 ·replace hy:=hidden (hy rfl);go_wp2;go_ret;exact⟨QF hk hy.out,Db.trans hb3⟩
 have QY:=AB hn2 (hn rfl);have hS1:=hS _ QY;go_wp2_with fail;refine hS1.mono ?_;rintro e w4 ⟨⟨b,AI9,rfl,hy,hn⟩,hb4⟩;have Db:=QY.mono hBw;cases b;rotate_left
 ·replace hy:=hidden (hy rfl);go_wp2;go_ret;exact⟨QF hk hy.out,Db.trans hb4⟩
 have iH:=AB QY (hn rfl);have iL:=hC _ iH;go_wp2_with fail;refine iL.mono ?_;rintro e w5 ⟨⟨AI8,rfl,hy⟩,hb5⟩;replace hy:=hidden hy;go_wp2;go_ret;exact⟨⟨_,rfl,hy.out⟩,(iH.mono hBw).trans hb5⟩
end
end Go.Proofs.YtlffomedflegdaaGreatDoor
