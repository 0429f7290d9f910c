/- Part 33 of 49 of the proof: Ow. -/
import Derived.Test.YtlffomedflegdaaGreatDoorPz00
import Derived.Test.YtlffomedflegdaaGreatDoorPz32
set_option linter.all false
set_option maxHeartbeats 16000000
set_option maxRecDepth 100000
namespace Go.Proofs.YtlffomedflegdaaGreatDoor
open Go.Proofs.Tryz
open Go.RowKit
variable {w w1:World}
open Word Num Dp
theorem ABD{n:Nat}(e:w.heap.size=n)(h:Below n w w1):AA6 w w1:=by subst e;exact h
theorem ABE{n:Nat}(e:w.heap.size=n)(h:AA6 w w1):Below n w w1:=by subst e;exact h
theorem YX{op:Int}{e:Ending}(h:aA (BH op) e):∃(s:ByteArray) (d nn:Bool) (l m:Int) (ok:Bool),e=.returned (.tuple #[.agg #[.string s,.bool d,.bool nn,.int .i64 l,.int .i64 m],.bool ok])/\∀fm,BH op=some fm->fm.d=d:=by
 cases hf:BH op with
 |none=>rw[hf]at h;exact⟨_,_,_,_,_,_,h,fun _ e=>by cases e⟩
 |some f=>
  rw[hf]at h;obtain⟨s,hs,h⟩:=h;exact⟨_,_,_,_,_,_,h,fun fm e=>by cases e;rfl⟩
theorem oL{d:ByteArray}(h:d.toList.isEmpty=true):decide (d≠Bv)=false:=by
 have e:d=Bv:=VQ (l:=[]) (by rw[List.isEmpty_iff.1 h];rfl) rfl;simp[e]
theorem tY{d:ByteArray}(h:d.toList.isEmpty=false):decide (d≠Bv)=true:=by
 have e:d≠Bv:=fun e=>by
  rw[e,ByteArray.toList_eq]at h;cases h
 simp[e]
theorem rowIs:(prog.info? 133).map (fun i=>(i.zero,i.size,i.bytes))=some (some (.agg #[.int .i64 0,.string .empty,.string .empty,.slice none 0 0,.slice none 0 0,.slice none 0 0]),6,112):=by kernel_rfl
theorem Ct.wC{B N R:Nat}{q:Pg}{wh lg:Int}{k:Nat}(h:Ct w B N R q wh lg k)(hb:Below N w w1):Ct w1 B N R q wh lg k:=by
 obtain⟨cur,ht⟩:=h.typ;exact⟨h.own.kp hb,⟨cur,(hb.block R h.own.lt).trans ht⟩,h.qq,h.ss,h.kk,h.ll⟩
theorem Xl{w0:World}(h0:AA6 w0 w)(hW:Words w0){B N R:Nat}{q:Pg}{wh lg:Int}{k:Nat}(hR:Ct w B N R q wh lg k)(hB:w0.heap.size<=B)(hk:k+2<=5000000){u:Value}{l:List ByteArray}(hl:Row DL 1 w0 u l)(hz:Wz l)(hp:0<l.length):Calls prog 212 #[.pointer (some ⟨R,0,none⟩),u] w fun e w'=>Wy B R (k+1) e w'/\Below B w w':=by
 obtain⟨p,c,rfl⟩:=hl.slice;obtain⟨a,rfl,-⟩:=CV hl hp;have hlc:l.length<=c:=by
  obtain⟨_,_,e,-,⟨-,h⟩,-⟩:=hl;obtain⟨-,-,rfl⟩:=Value.slice.inj e;exact h
 have d0:=AA h0 (Bg hl hp);have PV:(0:Int)<l.length:=by omega
 have hBw:B<=w.heap.size:=by have:=hR.own.ge;have:=hR.lt;omega
 go_enter func212,ntmps212;go_upto_region 2 with fail;have hX:=Ae.alloc w [.int .i64 0,.string ⟨#[]⟩,.string ⟨#[]⟩,.slice none 0 0,.slice none 0 0,.slice none 0 0] 133;have hal:=AJ w (.cells #[.int .i64 0,.string ⟨#[]⟩,.string ⟨#[]⟩,.slice none 0 0,.slice none 0 0,.slice none 0 0] 133);generalize hW1:w.alloc _=W at*;replace d0:=AA hal d0;obtain⟨xb,hxb⟩:∃xb,w.heap.size=xb:=⟨_,rfl⟩;have yN:=hal;rw[hxb]at yN hX⊢;go_cut[24]from 16 to 23 (fun v wx=>∃r:Bool,v=.bool r/\(r=true->2<l.length)/\wx=W)
 ·cases hg:decide ((2:Int)<(l.length:Int))with
  |false=>
   have QZ:=CJ hg;have hgN:¬2<l.length:=(by omega);go_wp2;go_meet
   exact⟨_,rfl,(fun h=>by cases h),rfl⟩
  |true=>
   have QZ:=BK hg;have hgN:2<l.length:=(by omega);have C8:1<l.length:=(by omega);have Fw:(1:Int)<l.length:=(by omega);obtain⟨s1,hg1,hz1,d1⟩:=EN hl C8 hz;replace d1:=AA hal (AA h0 d1)
   cases hs:(s1.toList==[61])with
   |false=>
    go_wp2;go_meet
    exact⟨_,rfl,(fun h=>by cases h),rfl⟩
   |true=>
    go_wp2;go_meet;exact⟨_,rfl,(fun _=>hgN),rfl⟩
 obtain⟨r,rfl,hr,rfl⟩:=hcut;obtain⟨W,rfl⟩:∃W:World,W=wc:=⟨_,rfl⟩;go_upto_if 24 with fail;go_cut[1]from 25 to 36 (fun v wx=>∃(l':List ByteArray) (a':Addr) (c':Nat) (d:ByteArray),v=.slice (some a') l'.length c'/\Row DL 1 w0 (.slice (some a') l'.length c') l'/\Wz l'/\0<l'.length/\Tz d/\Ae wx xb [.int .i64 0,.string d,.string ⟨#[]⟩,.slice none 0 0,.slice none 0 0,.slice none 0 0]/\Below xb w wx)
 ·cases r
  ·go_wp2;go_meet;exact⟨l,a,c,⟨#[]⟩,rfl,hl,hz,hp,AY,hX,yN⟩
  have hgN:=hr rfl;have QZ:(2:Int)<=l.length:=by omega
  have qX:(l.length:Int)<=c:=by omega
  have hz0:=Dl hz hp;have hT:=hl.tail (k:=2) (m:=c-2) (b:=⟨a.block,a.off+2,none⟩) (by omega) (by omega) (fun _=>by simp[Addr.add]);have hb2:=AJ W (.cells #[.string l[0]] 9);have hN:=Bn (Below.refl (W.alloc (.cells #[.string l[0]] 9)).heap.size _) (DN (l:=[l[0]]) (Ae.alloc W [.string l[0]] 9) ⟨show 1<=10000000 by decide,by simpa using hz0⟩);simp only[List.length_cons,List.length_nil,Nat.zero_add,List.all_cons,List.all_nil,Bool.and_true]at hN;have hX2:=hX.nx hb2;have d2:=AA hb2 d0;have hbx:=AB hal hb2;generalize l[0]=s0 at*;generalize nm s0=v at*;go_wp2_with fail;refine hN.mono ?_;rintro e w3 ⟨rfl,rfl⟩;generalize hW2:W.alloc _=W2 at*;cases v
  ·go_wp2;go_ret;exact⟨⟨_,rfl,fun h=>absurd h (by decide)⟩,hbx.mono hBw⟩
  have c1:=hX2.c 1 _ rfl;have f1:=hX2.f 1 (by decide);have Y7:=hX2.set (i:=1) (by decide) (.string s0);go_wp2;go_meet;exact⟨l.drop 2,⟨a.block,a.off+2,none⟩,c-2,s0,by rw[List.length_drop],by rw[List.length_drop];exact hT,hz.drop 2,by simp;omega,hz0,Y7,(ABE hxb hbx).setCell (p:=⟨xb,1,none⟩) (AQ) _⟩
 obtain⟨l',a',c',d,rfl,hl',hz',hp',hd,hX,hbx⟩:=hcut;obtain⟨w1,rfl⟩:∃w1:World,w1=wc:=⟨_,rfl⟩;have hbw:AA6 w w1:=ABD hxb hbx;have h01:=AB h0 hbw;have hW1:=hW.kp h01;have Db:=hbw.mono hBw;have d0:=AA h01 (Bg hl' hp');have PV:(0:Int)<l'.length:=by omega
 generalize l'[0]=s0 at d0;have hOp:=jw s0 w1 hW1;go_wp2_with fail;refine hOp.mono ?_;rintro e w2 ⟨⟨op,ok,rfl,hop⟩,rfl⟩;have vO:=JV op w1 hW1;replace hop:=hidden hop;go_wp2_with fail;refine vO.mono ?_;rintro e w2 ⟨hb2,hOut⟩;obtain⟨fs,fd,fn,fl,fm,fok,rfl,FJ⟩:=YX hOut;replace FJ:=hidden FJ;have J8:=AJ w2 (.cells #[.string fs,.bool fd,.bool fn,.int .i64 fl,.int .i64 fm] 261);have hF:=Ae.alloc w2 [.string fs,.bool fd,.bool fn,.int .i64 fl,.int .i64 fm] 261;have hb3:=AB hb2 J8;go_upto_region 9 with fail;generalize hW3:w2.alloc _=w3 at*;obtain⟨gb,hgb⟩:∃gb,w2.heap.size=gb:=⟨_,rfl⟩;have AD4:w1.heap.size<=gb:=by rw[<-hgb];exact hb2.size
 rw[hgb]at hF⊢;have hxg:xb<gb:=A9 hX.lt AD4;have Y7:=hX.nx hb3;have jF:=AB hbw hb3;have IK:=hR.kp jF;have gN:=AB h01 hb3;have yH:Below xb w w3:=ABE hxb jF;replace Db:=jF.mono hBw;have b1:=hF.c 1 _ rfl;have x1:=Y7.c 1 _ rfl;clear hX hW1 h01 hb3 hbw hb2 hbx d0;go_cut[63]from 49 to 62 (fun v wx=>∃r:Bool,v=.bool r/\(r=false->(5<=wh/\wh<=8)/\ok=true/\fd=decide (d≠Bv))/\wx=w3)
 ·have hI:=Hu IK;go_wp2_with fail;refine hI.mono ?_;rintro e w4 ⟨⟨b,rfl,hb0⟩,rfl⟩;replace hb0:=hidden hb0;cases b
  ·go_wp2;go_meet;exact⟨_,rfl,(fun h=>by cases h),rfl⟩
  cases ok
  ·go_wp2;go_meet;exact⟨_,rfl,(fun h=>by cases h),rfl⟩
  cases hem:d.toList.isEmpty with
  |true=>
   have AEA:(d.toList==[])=true:=(by rw[List.isEmpty_iff.1 hem];rfl);have hdd:=hidden (oL hem);cases fd
   ·go_wp2;go_meet;exact⟨_,rfl,(fun _=>⟨hb0.out (by trivial),by trivial,hdd.out.symm⟩),rfl⟩
   ·go_wp2;go_meet
    exact⟨_,rfl,(fun h=>by cases h),rfl⟩
  |false=>
   have AEA:(d.toList==[])=false:=by
    cases h:d.toList with
    |nil=>rw[h]at hem;cases hem
    |cons x y=>rfl
   have hdd:=hidden (tY hem);cases fd
   ·go_wp2;go_meet;exact⟨_,rfl,(fun h=>by cases h),rfl⟩
   ·go_wp2;go_meet;exact⟨_,rfl,(fun _=>⟨hb0.out (by trivial),by trivial,hdd.out.symm⟩),rfl⟩
 obtain⟨r,rfl,hr,rfl⟩:=hcut;obtain⟨w3,rfl⟩:∃w3:World,w3=wc:=⟨_,rfl⟩;cases r;rotate_left
 ·clear hr;go_wp2;go_ret;exact⟨⟨_,rfl,fun h=>absurd h (by decide)⟩,Db⟩
 obtain⟨WJ,rfl,ql⟩:=hr rfl;clear hr b1 x1;replace hop:=hop.out rfl;replace ql:=hidden ql;have x0:=Y7.c 0 _ rfl;have y0:=Y7.f 0 (by simp);have Qa:=Y7.set (i:=0) (by simp) (.int .i64 op);have gM:=hF.far (q:=⟨xb,0,none⟩) (show xb≠gb by omega) (.int .i64 op);have ZW:=yH.setCell (p:=⟨xb,0,none⟩) (AQ) (.int .i64 op);clear jF IK gN Y7 yH Db hF;go_upto_region 13 with fail;generalize w3.setCell ⟨xb,0,none⟩ (.int .i64 op)=w4 at*;replace Qa:Ae w4 xb [.int .i64 op,.string d,.string ⟨#[]⟩,.slice none 0 0,.slice none 0 0,.slice none 0 0]:=Qa;go_cut[71]from 66 to 70 (fun v wx=>∃r:Bool,v=.bool r/\wx=w4)
 ·cases h6:((op:Int)==26)with
  |true=>
   go_wp2;go_meet
   exact⟨_,rfl,rfl⟩
  |false=>
   cases h7:((op:Int)==27)with
   |true=>
    go_wp2;go_meet
    exact⟨_,rfl,rfl⟩
   |false=>
    go_wp2;go_meet;exact⟨_,rfl,rfl⟩
 obtain⟨r,rfl,rfl⟩:=hcut;obtain⟨w4,rfl⟩:∃w4:World,w4=wc:=⟨_,rfl⟩;have yI:AA6 w w4:=ABD hxb ZW;have TB:=AB h0 yI;have Po:=yI.mono hBw;have x2:=Qa.c 2 _ rfl;have y2:=Qa.f 2 (by simp);have b2:=gM.c 2 _ rfl;have hlc:l'.length<=c':=by
  obtain⟨_,_,e,-,⟨-,h⟩,-⟩:=hl';obtain⟨-,-,rfl⟩:=Value.slice.inj e;exact h
 have qX:(l'.length:Int)<=c':=by omega
 go_upto_if 71 with fail;go_cut[10]from 72 to 101 (fun v wx=>∃(m:List ByteArray) (pm:Option Addr) (cm:Nat) (n:ByteArray),v=.slice pm m.length cm/\Row DL 1 wx (.slice pm m.length cm) m/\Wz m/\Tz n/\Ae wx xb [.int .i64 op,.string d,.string n,.slice none 0 0,.slice none 0 0,.slice none 0 0]/\Ae wx gb [.string fs,.bool fd,.bool fn,.int .i64 fl,.int .i64 fm]/\Below xb w wx)
 ·cases r;rotate_left
  ·cases hg:decide ((l'.length:Int)<3)with
   |true=>
    have QZ:=BK hg;have hgN:l'.length<3:=(by omega);go_wp2;go_ret
    exact⟨⟨_,rfl,fun h=>absurd h (by decide)⟩,Po⟩
   |false=>
    have QZ:=CJ hg;have hgN:¬l'.length<3:=(by omega);have C8:1<l'.length:=(by omega);have Fw:(1:Int)<l'.length:=(by omega);have LQ:2<l'.length:=(by omega);have Qj:(2:Int)<l'.length:=(by omega);have h3I:(3:Int)<=l'.length:=(by omega);obtain⟨s1,hg1,hz1,d1⟩:=EN hl' C8 hz';obtain⟨a2,e2,d2⟩:=BQ hl' (q:=1) LQ;obtain rfl:a'=a2:=(by simpa using e2);have hz2:=Dl hz' LQ;have d10:=d1;replace d1:=AA TB d1;replace d2:=AA TB d2;simp only[Nat.reduceAdd]at d2 hz2;generalize l'[2]=s2 at*;have WO:=Qa.set (i:=2) (by simp) (.string s2);have wX:=gM.far (q:=⟨xb,2,none⟩) (show xb≠gb by omega) (.string s2);have Tn:=ZW.setCell (p:=⟨xb,2,none⟩) (AQ) (.string s2);have jE:AA6 w (w4.setCell ⟨xb,2,none⟩ (.string s2)):=ABD hxb Tn;have hd5:=AA (AB h0 jE) d10;clear hg1 e2 d10;have hl4:l'.length<=10000000:=hz'.1;go_upto_region 17 with fail;generalize w4.setCell ⟨xb,2,none⟩ (.string s2)=w5 at*;(go_upto_region 18 with(at_builtin;refine Tv rfl _ _ rfl rfl (MC.nil _ w5.heap.size) rfl (DN (l:=[s1]) (Ae.alloc w5 _ _) ⟨show 1<=10000000 by decide,by simpa using hz1⟩) (show 0+1<=100000000 by decide) (by simp) ?_;intro v6 w6 hv6 wJ;obtain⟨p6,c6,rfl⟩:=hv6.sl));have ZR:AA6 w5 w6:=(AJ w5 _).trans wJ.b;have Ng:=WO.nx ZR;have nL:=wX.nx ZR;have hxl:=WO.lt;have hgl:=wX.lt;have qK:=Nat.le_of_lt hxl;have xg:=ZR.size;have ZV:=Tn.trans (ZR.mono qK);have PX:AA6 w0 w6:=AB (AB h0 jE) ZR
    have hwz:Wz ([]++[s1]++l'.drop 3):=⟨by simp;omega,fun x hx=>by
     rcases List.mem_append.1 hx with h|h
     ·have h:x∈ [s1]:=h;rw[List.mem_singleton.1 h];exact hz1
     ·exact(hz'.drop 3).2 x h⟩
    clear wJ Tn jE;by_cases hc1:c'=3
    ·subst hc1;have hT:=hl'.tail (k:=3) (m:=0) (b:=a') (by omega) (by omega) (fun _=>by omega);have vL:=hT.map fun a x h=>DL.kp PX h;rw[show l'.length-3=0 by omega]at vL;(go_wp2_with(at_builtin;refine Tv rfl _ _ rfl rfl hv6 rfl vL (by simp;omega) xg ?_;intro v7 w7 hv7 JH;obtain⟨p7,c7,rfl⟩:=hv7.sl;obtain⟨m7,WM⟩:∃m7,m7=[]++[s1]++l'.drop 3:=⟨_,rfl⟩;rw[<-WM]at hv7⊢;replace WM:=hidden WM));go_meet;exact⟨m7,p7,c7,s2,rfl,hv7.row (WM.out▸hwz),WM.out▸hwz,hz2,Ng.below hxl JH.b,nL.below hgl JH.b,ZV.trans (JH.b.mono qK)⟩
    ·skip
     have hT:=hl'.tail (k:=3) (m:=c'-3) (b:=⟨a'.block,a'.off+3,none⟩) (by omega) (by omega) (fun _=>by simp[Addr.add]);have vL:=hT.map fun a x h=>DL.kp PX h
     skip
     (go_wp2_with(at_builtin;refine Tv rfl _ _ rfl rfl hv6 rfl vL (by simp;omega) xg ?_;intro v7 w7 hv7 JH;obtain⟨p7,c7,rfl⟩:=hv7.sl;obtain⟨m7,WM⟩:∃m7,m7=[]++[s1]++l'.drop 3:=⟨_,rfl⟩;rw[<-WM]at hv7⊢;replace WM:=hidden WM));go_meet;exact⟨m7,p7,c7,s2,rfl,hv7.row (WM.out▸hwz),WM.out▸hwz,hz2,Ng.below hxl JH.b,nL.below hgl JH.b,ZV.trans (JH.b.mono qK)⟩
  ·cases fn
   ·have Fw:(1:Int)<=l'.length:=(by omega);by_cases hc1:c'=1
    ·subst hc1;have hT:=hl'.tail (k:=1) (m:=0) (b:=a') (by omega) (by omega) (fun _=>by omega);go_wp2;go_meet;exact⟨l'.drop 1,some a',0,⟨#[]⟩,by rw[List.length_drop,show l'.length-1=0 by omega],by rw[List.length_drop];exact hT.map fun a x h=>DL.kp TB h,hz'.drop 1,AY,Qa,gM,ZW⟩
    ·have hT:=hl'.tail (k:=1) (m:=c'-1) (b:=⟨a'.block,a'.off+1,none⟩) (by omega) (by omega) (fun _=>by simp[Addr.add]);go_wp2;go_meet;exact⟨l'.drop 1,some ⟨a'.block,a'.off+1,none⟩,c'-1,⟨#[]⟩,by rw[List.length_drop],by rw[List.length_drop];exact hT.map fun a x h=>DL.kp TB h,hz'.drop 1,AY,Qa,gM,ZW⟩
   ·cases hg:decide ((l'.length:Int)<2)with
    |true=>
     have QZ:=BK hg;have hgN:l'.length<2:=(by omega);go_wp2;go_ret
     exact⟨⟨_,rfl,fun h=>absurd h (by decide)⟩,Po⟩
    |false=>
     have QZ:=CJ hg;have hgN:¬l'.length<2:=(by omega);have C8:1<l'.length:=(by omega);have Fw:(1:Int)<l'.length:=(by omega);have Qj:(2:Int)<=l'.length:=(by omega);obtain⟨s1,hg1,hz1,d1⟩:=EN hl' C8 hz';replace d1:=AA TB d1;have WO:=Qa.set (i:=2) (by simp) (.string s1);have wX:=gM.far (q:=⟨xb,2,none⟩) (show xb≠gb by omega) (.string s1);have Tn:=ZW.setCell (p:=⟨xb,2,none⟩) (AQ) (.string s1);have Ku:AA6 w0 (w4.setCell ⟨xb,2,none⟩ (.string s1)):=AB h0 (ABD hxb Tn);by_cases hc1:c'=2
     ·subst hc1;have hT:=hl'.tail (k:=2) (m:=0) (b:=a') (by omega) (by omega) (fun _=>by omega);go_wp2;go_meet;exact⟨l'.drop 2,some a',0,s1,by rw[List.length_drop,show l'.length-2=0 by omega],by rw[List.length_drop];exact hT.map fun a x h=>DL.kp Ku h,hz'.drop 2,hz1,WO,wX,Tn⟩
     ·have hT:=hl'.tail (k:=2) (m:=c'-2) (b:=⟨a'.block,a'.off+2,none⟩) (by omega) (by omega) (fun _=>by simp[Addr.add]);go_wp2;go_meet;exact⟨l'.drop 2,some ⟨a'.block,a'.off+2,none⟩,c'-2,s1,by rw[List.length_drop],by rw[List.length_drop];exact hT.map fun a x h=>DL.kp Ku h,hz'.drop 2,hz1,WO,wX,Tn⟩
 obtain⟨m,pm,cm,n,rfl,hm,hmz,hn,hX,hF,hbx⟩:=hcut;obtain⟨w5,rfl⟩:∃w5:World,w5=wc:=⟨_,rfl⟩;have jE:AA6 w w5:=ABD hxb hbx;have hA:=FT (Below.refl w5.heap.size w5) hm hmz false;go_wp2_with fail;refine hA.mono ?_;rintro e w6 ⟨⟨v1,b1,al,F1,rfl,⟨uo,m1,c1,rfl⟩,h1⟩,hb6⟩;have ADc:=hX.lt;have Ng:=hX.nx hb6;have nL:=hF.nx hb6;have ZV:Below xb w w6:=hbx.trans (hb6.mono (Nat.le_of_lt hX.lt));have AJl:AA6 w w6:=ABD hxb ZV;have jH:=hb6;replace h1:=hidden h1;have x2:=Ng.c 2 _ rfl;obtain⟨-,-,b2,b3,b4⟩:=nL.c5;go_upto_region 26 with fail;go_cut[133]from 107 to 132 (fun v wx=>∃r:Bool,v=.bool r/\(r=false->b1=true)/\AA6 w6 wx)
 ·cases b1
  ·go_wp2;go_meet;exact⟨_,rfl,(fun h=>by cases h),AL⟩
  cases fn
  ·skip
   cases hg1:decide ((m1:Int)<fl)with
   |true=>
    have QZ:=BK hg1;go_wp2;go_meet
    exact⟨_,rfl,(fun h=>by cases h),AL⟩
   |false=>
    have QZ:=CJ hg1
    cases hg2:decide (fm<(m1:Int))with
    |true=>
     have pI:=BK hg2;go_wp2;go_meet
     exact⟨_,rfl,(fun h=>by cases h),AL⟩
    |false=>
     have pI:=CJ hg2;go_wp2;go_meet;exact⟨_,rfl,(fun _=>by trivial),AL⟩
  ·have J8:=AJ w6 (.cells #[.string n] 9);have hN:=Bn (Below.refl (w6.alloc (.cells #[.string n] 9)).heap.size _) (DN (l:=[n]) (Ae.alloc w6 [.string n] 9) ⟨show 1<=10000000 by decide,by simpa using hn⟩);simp only[List.length_cons,List.length_nil,Nat.zero_add,List.all_cons,List.all_nil,Bool.and_true]at hN;have b3':=AA J8 b3;have b4':=AA J8 b4;generalize nm n=nv at*;go_wp2_with fail;refine hN.mono ?_;rintro e w7 ⟨rfl,rfl⟩;generalize hW7:w6.alloc _=w7 at*;clear hN hW7;cases nv
   ·go_wp2;go_meet;exact⟨_,rfl,(fun h=>by cases h),J8⟩
   cases hg1:decide ((m1:Int)<fl)with
   |true=>
    have QZ:=BK hg1;go_wp2;go_meet
    exact⟨_,rfl,(fun h=>by cases h),J8⟩
   |false=>
    have QZ:=CJ hg1
    cases hg2:decide (fm<(m1:Int))with
    |true=>
     have pI:=BK hg2;go_wp2;go_meet
     exact⟨_,rfl,(fun h=>by cases h),J8⟩
    |false=>
     have pI:=CJ hg2;go_wp2;go_meet;exact⟨_,rfl,(fun _=>by trivial),J8⟩
 obtain⟨r,rfl,hr,BJ⟩:=hcut;obtain⟨w7,rfl⟩:∃w7:World,w7=wc:=⟨_,rfl⟩;have wR:=Ng.nx BJ;have AEC:Below xb w w7:=ZV.trans (BJ.mono (Nat.le_of_lt Ng.lt));have jD:AA6 w w7:=ABD hxb AEC;have yL:=jD.mono hBw;clear b2 b3 b4 x2 nL;cases r;rotate_left
 ·clear hr;go_wp2;go_ret;exact⟨⟨_,rfl,fun h=>absurd h (by decide)⟩,yL⟩
 obtain rfl:=hr rfl;obtain⟨k1,k2,k3,k4⟩:=h1.out rfl;replace k1:=hidden k1;obtain rfl:m1=al.length:=by
  obtain⟨_,_,e⟩:=k2.slice;rw[List.length_map]at e;exact(Value.slice.inj e).2.1
 have nJ:N<=xb:=by rw[<-hxb];exact hR.own.sz
 have hRx:R<xb:=A9 hR.own.lt nJ;have hx5:xb<w5.heap.size:=ADc;have Gy:=(hR.kp jD).up (by omega);have hll:=(hR.kp jD).ll;have cl:=Gy.cl;have f6:=Gy.Bw 6
 cases hg:decide ((1024:Int)<=lg)with
 |true=>
  have QZ:=BK hg;go_wp2;go_ret
  exact⟨⟨_,rfl,fun h=>absurd h (by decide)⟩,yL⟩
 |false=>
 have QZ:=CJ hg;have hwl:IntKind.i64.wrap (lg+1)=lg+1:=IntWalk.i64_in _ (by omega);have E8:=Gy.qH (lg+1) (by omega);have Bp:=Gy.low (.int .i64 (lg+1)) 6;have nH:=wR.far (q:=⟨R,6,none⟩) (show R≠xb by omega) (.int .i64 (lg+1));have x3:=nH.c 3 _ rfl;have y3:=nH.f 3 (by simp);have wQ:=nH.set (i:=3) (by simp) (.slice uo al.length c1);have hbN:=(Below.refl (B:=xb) (w7.setCell ⟨R,6,none⟩ (.int .i64 (lg+1)))).setCell (p:=⟨xb,3,none⟩) (AQ) (.slice uo al.length c1);have TN:=E8.wC (hbN.mono nJ);have J9:=Bp.trans (hbN.mono (AX hBw (by omega)));have k9:=k2.same (w':=(w7.setCell ⟨R,6,none⟩ (.int .i64 (lg+1))).setCell ⟨xb,3,none⟩ (.slice uo al.length c1)) fun b hb=>by
  have h1:=(k2.fp b hb);refine(Below.heap_setCell _ _ _ _ (show b≠xb by omega)).trans ((Below.heap_setCell _ _ _ _ (show b≠R by omega)).trans (BJ.block b h1.2))
 go_upto_region 32 with fail;generalize(w7.setCell ⟨R,6,none⟩ (.int .i64 (lg+1))).setCell ⟨xb,3,none⟩ (.slice uo al.length c1)=w9 at*;replace wQ:Ae w9 xb [.int .i64 op,.string d,.string n,.slice uo al.length c1,.slice none 0 0,.slice none 0 0]:=wQ;obtain⟨fr,f,br,b,hq,hbq⟩:=TN.ss.b (by omega) (by omega);obtain⟨FB,cap,hF⟩:=TN.Fy hq;obtain⟨BB,cap2,hL⟩:=TN.lastB hF hbq;obtain⟨nf,hnf⟩:∃nf,nf=fr.length+1:=⟨_,rfl⟩;obtain⟨nb,hnb⟩:∃nb,nb=br.length+1:=⟨_,rfl⟩;have lcF:w9.cell? ⟨R,4,none⟩=some (.slice (some ⟨FB,0,none⟩) nf cap):=by rw[hnf];exact hF.lc
 have gI:w9.cell? ⟨FB,fr.length*5+4,none⟩=some (.slice (some ⟨BB,0,none⟩) nb cap2):=by rw[hnb];exact hL.lc
 have Da:=TN.qq.2.2.2;rw[hq]at Da;have MF:=Da.1;rw[List.length_append,List.length_singleton]at MF;have GU:=Da.last.2.2.2.2;rw[hbq]at GU;have Jh:=GU.1;rw[List.length_append,List.length_singleton]at Jh;have hlenp:b.cs.length<=k+1:=GU.last.2.2.1.1;have hix:(nf:Int)-1=(fr.length:Int):=by omega
 have Ns:(fr.length:Int)<nf:=by omega
 have Pm:fr.length<nf:=by omega
 have hwr:IntKind.i64.wrap (fr.length:Int)=fr.length:=IntWalk.i64_in _ (by omega);have hjx:(nb:Int)-1=(br.length:Int):=by omega
 have qb:(br.length:Int)<nb:=by omega
 have qZ:br.length<nb:=by omega
 have hjr:IntKind.i64.wrap (br.length:Int)=br.length:=IntWalk.i64_in _ (by omega);have AJV:=hmz.1;have AEU:Rw 10000000 qAg al:=⟨by have:=k1.out;omega,k4⟩;have AEN:=jD.mono hBw|>.trans J9;have hB9:B<=w9.heap.size:=AX TN.own.ge (AX (Nat.le_of_lt TN.own.lt) TN.own.sz);replace hnf:=hidden hnf;replace hnb:=hidden hnb;go_wp2_with fail;refine AO (S:=fun _ v=>AA6 w9 v) rfl (by kernel_rfl) Ac ?_;iterate 14((apply Ab.z rfl;intro L w1 _ _ _ z hK;(have c1:=AA z.s lcF);go_simp;exact hK (z.s);rfl))
 refine Ab.nil fun uj yR=>?_;have cB:=AA yR gI;go_upto_region 34 with fail;have OL:AA6 w9 uj.drew:=AB yR Ac;have BO:=TN.kp OL;have hLd:=hL.up TN hq hbq OL;have hXd:=wQ.nx OL;obtain⟨F2,vc,xs,⟨hc,hox,⟨pc,cc,rfl⟩,hsp,-⟩,hF2⟩:=hLd.li;have LP:=hLd.lf.lt;have TT:=hLd.lt;have EK:(Value.slice pc b.cs.length cc).ownBlock≠some FB:=own_ne hox LP (by decide);have GY:(Value.slice pc b.cs.length cc).ownBlock≠some BB:=own_ne hox TT (by decide);have FL:(Value.slice pc b.cs.length cc).ownBlock≠some xb:=fun e=>by
  have:=hsp.JI hc e;omega
 have hsz:B<=uj.drew.heap.size:=AX hB9 OL.size;have hN5:N<=w5.heap.size:=AX nJ (Nat.le_of_lt hx5);have kd:=k9.same (w':=uj.drew) fun b hb=>OL.block b (k9.fp b hb).2;replace hq:=hidden hq;replace hbq:=hidden hbq;obtain⟨xx0,xx1,xx2,xx3,xx4,xx5⟩:=hXd.c6;go_wp2_with fail;refine AV (S:=Ad uj.drew B 133 6 14 15 18 [.int .i64 op,.string d,.string n,.slice uo al.length c1,.slice none 0 0,.slice none 0 0] b.cs.length xs (.slice pc b.cs.length cc) ⟨BB,br.length*9+2,none⟩) rfl (by kernel_rfl) (Ad.start (AL)) ?_;iterate 14((apply AU.z rfl;intro V L w1 _ _ _ z hK;(try(have hs:=z.f 18 (by kernel_rfl);(have c1:=z.s.cellOf hs (show uj.drew.cell? ⟨FB,fr.length*5+4,none⟩=some (.slice (some ⟨BB,0,none⟩) nb cap2)from cB) EK;have c2:=z.s.cellOf hs hc GY;have z0:=z.s.cellOf hs xx0 FL;have z1:=z.s.cellOf hs xx1 FL;have z2:=z.s.cellOf hs xx2 FL;have z3:=z.s.cellOf hs xx3 FL;have z4:=z.s.cellOf hs xx4 FL;have z5:=z.s.cellOf hs xx5 FL)));go_simp;exact hK (z.s.keep rfl rfl rfl);intros;rfl))
 (apply AU.w rfl;intro V L w1 _ _ _ z hK;go_simp;exact hK rfl (z.s.made (z.o 15 (by kernel_rfl)) rfl _);(try simp only[pE]));(refine AU.free (fun _=>rfl) (fun V L w1 _ _ hS hi hR hd hK=>hS.go hi (hR.out (18) _ (by kernel_rfl) hi) (hd.out (14) (by kernel_rfl)) (rowIs) (underlying75) (hox) rfl rfl rfl rfl rfl rfl (by decide) (by simp[Value.oneCell']) (by unfold maxLen;omega) fun v' w' h=>hK.out _ _ rfl h) ?_;(try simp only[pE]));iterate 2((apply AU.z rfl;intro V L w1 _ _ _ z hK;(try(have hs:=z.f 18 (by kernel_rfl);(have c1:=z.s.cellOf hs (show uj.drew.cell? ⟨FB,fr.length*5+4,none⟩=some (.slice (some ⟨BB,0,none⟩) nb cap2)from cB) EK)));go_simp;exact hK (z.s.keep rfl rfl rfl);intros;rfl))
 (apply AU.val undef (fun _=>rfl);intro V L w1 _ _ hS hi hR hd hK;have ha:=hd.out (15) (by kernel_rfl);(have cs:=hS.cellOf hi hc GY;have fs:=hS.EA hi (o:=br.length*9+2) TT.lt (TT.Bw _) GY);have hS2:=hS.stored ha hi rfl;obtain⟨pu,ku,CX⟩:=hS.val ha;rw[CX]at hS2;simp only[CX];go_simp;exact hK.out _ _ (by simp only[CX];rfl) hS2;simp only[Act.put]);refine AU.nil fun V w11 hS=>?_;obtain⟨jL,AEO⟩:=hS.Yq (d:=TD ⟨op,d,n,al,[],[]⟩) (q':={q with fs:=fr++[{f with bs:=br++[{b with cs:=b.cs++[⟨op,d,n,al,[],[]⟩]}]}]}) rfl rfl BO hsp hc hox (by simp) (by decide) (fun w1 pb hlow hx=>⟨F1++([]++([]++[])),Af.of (AP.cc (hx.c 0 _ rfl) rfl (AP.cc (hx.c 1 _ rfl) rfl (AP.cc (hx.c 2 _ rfl) rfl (AP.cr (hx.c 3 _ rfl) (AZ.mono hN5 (kd.same fun b hb=>hlow.block b (kd.fp b hb).2)) (AP.cr (l:=[]) (hx.c 4 _ rfl) AZ.nil (AP.cr (l:=[]) (hx.c 5 _ rfl) AZ.nil AP.cn)))))),by simpa using k3⟩) rfl rfl (by rw[<-hF2,List.map_append];rfl) ⟨BO.qq.1.up (Aa) fun _ h=>QW.up (Aa) h,BO.qq.2.1.up (Aa) fun _ h=>h,BO.qq.2.2.1.up (Aa) fun _ h=>h,Da.turn (Aa) (fun _ h=>QV.up (Aa) h) ⟨Da.last.1,Da.last.2.1,Da.last.2.2.1.up (Aa) fun _ h=>h,Da.last.2.2.2.1.up (Aa) fun _ h=>h,GU.turn (Aa) (fun _ h=>WI.up (Aa) h) ⟨GU.last.1,GU.last.2.1.up (Aa) fun _ h=>h,GU.last.2.2.1.snoc (fun _ h=>gG.up (Aa) h) ⟨fun fm e=>(FJ.out fm e).trans ql.out,hd,hn,AEU,Rw.nil,Rw.nil⟩,GU.last.2.2.2⟩⟩⟩ ⟨BO.ss.r,BO.ss.c,(fun _=>by simp),(fun _ _=>⟨fr,_,br,_,rfl,rfl⟩),fun _ _=>⟨fr,_,br,_,b.cs,_,rfl,rfl,rfl⟩⟩ (by omega);have AAf:=(AEN.trans (OL.mono hB9)).trans AEO;have cw:=jL.cw;have f5:=jL.Bw 5;have Zg:=jL.setW 6 ⟨by omega,(fun h=>absurd h (by decide)),(fun _=>by simp),(fun _ _=>⟨fr,_,br,_,rfl,rfl⟩),fun h=>absurd h (by decide)⟩;have yM:=AAf.trans (jL.low (.int .i64 6) 5);have cw2:=Zg.cw;have f52:=Zg.Bw 5;have ABF:=Zg.setW 7 ⟨by omega,(fun h=>absurd h (by decide)),(fun _=>by simp),(fun _ _=>⟨fr,_,br,_,rfl,rfl⟩),fun _ _=>⟨fr,_,br,_,b.cs,_,rfl,rfl,rfl⟩⟩;have FM:=yM.trans (Zg.low (.int .i64 7) 5)
 cases h31:((op:Int)==31)with
 |true=>
  go_wp2;go_ret
  exact⟨⟨_,rfl,fun _=>⟨_,_,_,_,ABF⟩⟩,FM⟩
 |false=>
  cases h34:((op:Int)==34)with
  |true=>
   go_wp2;go_ret
   exact⟨⟨_,rfl,fun _=>⟨_,_,_,_,ABF⟩⟩,FM⟩
  |false=>
   go_wp2;go_ret;exact⟨⟨_,rfl,fun _=>⟨_,_,_,_,Zg⟩⟩,yM⟩
end Go.Proofs.YtlffomedflegdaaGreatDoor
