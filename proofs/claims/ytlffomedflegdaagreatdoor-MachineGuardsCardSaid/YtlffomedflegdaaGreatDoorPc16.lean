/- Part 16 of the proof: Ow, Oz, Pa, Pb. -/
import Derived.Test.YtlffomedflegdaaGreatDoorPc15
set_option linter.all false
set_option maxHeartbeats 16000000
set_option maxRecDepth 100000
namespace Go.Proofs.YtlffomedflegdaaGreatDoor
open Go.Proofs.Tryz
open Go.RowKit
variable {B N R k:Nat}{l:List ByteArray}{lg wh:Int}{q:Pg}{u:Value}{w w' w0 w1:World}
section
open Word Num Dp
theorem ABD{n:Nat}(e:w.heap.size=n)(h:Below n w w1):AA6 w w1:=by subst e;exact h
theorem ABE{n:Nat}(e:w.heap.size=n)(h:AA6 w w1):Below n w w1:=by subst e;exact h
theorem YX{op:Int}{e:Ending}(h:aA (BH op) e):∃(s:ByteArray) (d nn:Bool) (l m:Int) (ok:Bool),e=.returned (.tuple #[.agg #[.string s,.bool d,.bool nn,.int .i64 l,.int .i64 m],.bool ok])/\∀fm,BH op=some fm->fm.d=d:=by
 cases hf:BH op with
 |none=>rw[hf]at h;exact⟨_,_,_,_,_,_,h,fun _ e=>by cases e⟩
 |some f=>
  rw[hf]at h;obtain⟨s,hs,h⟩:=h;exact⟨_,_,_,_,_,_,h,fun fm e=>by cases e;rfl⟩
theorem oL{d:ByteArray}(h:d.toList.isEmpty=true):decide (d≠Bv)=false:=by
 have e:d=Bv:=VQ (l:=[]) (by rw[List.isEmpty_iff.1 h];rfl) rfl;simp[e]
theorem tY{d:ByteArray}(h:d.toList.isEmpty=false):decide (d≠Bv)=true:=by
 have e:d≠Bv:=fun e=>by
  rw[e,ByteArray.toList_eq]at h;cases h
 simp[e]
theorem rowIs:(prog.info? 133).map (fun i=>(i.zero,i.size,i.bytes))=some (some (.agg #[.int .i64 0,.string .empty,.string .empty,.slice none 0 0,.slice none 0 0,.slice none 0 0]),6,112):=by kernel_rfl
theorem Ct.wC(h:Ct w B N R q wh lg k)(hb:Below N w w1):Ct w1 B N R q wh lg k:=by
 obtain⟨cur,ht⟩:=h.typ;exact⟨h.own.kp hb,⟨cur,(hb.block R h.own.lt).trans ht⟩,h.qq,h.ss,h.kk,h.ll⟩
theorem Xl(h0:AA6 w0 w)(hW:Words w0)(hR:Ct w B N R q wh lg k)(hB:w0.heap.size<=B)(hk:k+2<=5000000)(hl:Row DL 1 w0 u l)(hz:Wz l)(hp:0<l.length):Calls prog 212 #[.pointer (some ⟨R,0,none⟩),u] w fun e w'=>Wy B R (k+1) e w'/\Below B w w':=by
 obtain⟨p,c,rfl⟩:=hl.slice;obtain⟨a,rfl,-⟩:=CV hl hp;have hlc:l.length<=c:=by
  obtain⟨_,_,e,-,⟨-,h⟩,-⟩:=hl;obtain⟨-,-,rfl⟩:=Value.slice.inj e;exact h
 have d0:=AA h0 (Bg hl hp);have PV:(0:Int)<l.length:=by omega
 have hBw:B<=w.heap.size:=by have:=hR.own.ge;have:=hR.lt;omega
 go_enter func212,ntmps212;go_upto_region 2 with fail;generalize hW1:w.alloc _=W at*;obtain⟨hal,hX⟩:=ng hW1;replace d0:=AA hal d0;obtain⟨xb,hxb⟩:∃xb,w.heap.size=xb:=⟨_,rfl⟩;have yN:=ABE hxb hal;rw[hxb]at hX⊢;go_cut[24]from 16 to 23 (fun v wx=>∃r:Bool,v=.bool r/\(r=true->2<l.length)/\wx=W)
 ·cases hg:decide ((2:Int)<(l.length:Int))with
  |false=>
   have QZ:=CJ hg;have hgN:¬2<l.length:=(by omega);go_wp2;go_meet
   exact⟨_,rfl,(fun h=>by cases h),rfl⟩
  |true=>
   have QZ:=BK hg;have hgN:2<l.length:=(by omega);have C8:1<l.length:=(by omega);have Fw:(1:Int)<l.length:=(by omega);obtain⟨s1,hg1,hz1,d1⟩:=EN hl C8 hz;replace d1:=AA hal (AA h0 d1)
   cases hs:(s1.toList==[61])with
   |false=>
    go_wp2;go_meet
    exact⟨_,rfl,(fun h=>by cases h),rfl⟩
   |true=>
    go_wp2;go_meet;exact⟨_,rfl,(fun _=>hgN),rfl⟩
 obtain⟨r,rfl,hr,rfl⟩:=hcut;obtain⟨W,rfl⟩:=again wc;go_upto_if 24 with fail;go_cut[1]from 25 to 36 (fun v wx=>∃(l':List ByteArray) (a':Addr) (c':Nat) (d:ByteArray),v=.slice (some a') l'.length c'/\Row DL 1 w0 (.slice (some a') l'.length c') l'/\Wz l'/\0<l'.length/\Tz d/\Ae wx xb [.int .i64 0,.string d,.string ⟨#[]⟩,.slice none 0 0,.slice none 0 0,.slice none 0 0]/\Below xb w wx)
 ·cases r
  ·go_wp2;go_meet;exact⟨l,a,c,⟨#[]⟩,rfl,hl,hz,hp,AY,hX,yN⟩
  have hgN:=hr rfl;have QZ:(2:Int)<=l.length:=by omega
  have qX:(l.length:Int)<=c:=by omega
  have hz0:=Dl hz hp;have hT:=hl.tail (k:=2) (m:=c-2) (b:=⟨a.block,a.off+2,none⟩) (by omega) (by omega) (fun _=>by simp[Addr.add]);have hb2:=AJ W (.cells #[.string l[0]] 9);have hN:=Bn (Below.refl (W.alloc (.cells #[.string l[0]] 9)).heap.size _) (DN (l:=[l[0]]) (Ae.alloc W [.string l[0]] 9) ⟨show 1<=10000000 by decide,by simpa using hz0⟩);simp only[List.length_cons,List.length_nil,Nat.zero_add,List.all_cons,List.all_nil,Bool.and_true]at hN;have hX2:=hX.nx hb2;have d2:=AA hb2 d0;have hbx:=AB hal hb2;generalize l[0]=s0 at*;generalize nm s0=v at*;go_wp2_with fail;refine hN.mono ?_;rintro e w3 ⟨rfl,rfl⟩;generalize hW2:W.alloc _=W2 at*;cases v
  ·go_wp2;go_ret;exact⟨⟨_,rfl,fun h=>absurd h (by decide)⟩,hbx.mono hBw⟩
  have c1:=hX2.c 1 _ rfl;have f1:=hX2.f 1 (by decide);have Y7:=hX2.set (i:=1) (by decide) (.string s0);go_wp2;go_meet;exact⟨l.drop 2,⟨a.block,a.off+2,none⟩,c-2,s0,by rw[List.length_drop],by rw[List.length_drop];exact hT,hz.drop 2,by simp;omega,hz0,Y7,(ABE hxb hbx).setCell (p:=⟨xb,1,none⟩) (AQ) _⟩
 obtain⟨l',a',c',d,rfl,hl',hz',hp',hd,hX,hbx⟩:=hcut;obtain⟨w1,rfl⟩:=again wc;have hbw:AA6 w w1:=ABD hxb hbx;have h01:=AB h0 hbw;have hW1:=hW.kp h01;have Db:=hbw.mono hBw;have d0:=AA h01 (Bg hl' hp');have PV:(0:Int)<l'.length:=by omega
 generalize l'[0]=s0 at d0;have hOp:=jw s0 w1 hW1;go_wp2_with fail;refine hOp.mono ?_;rintro e w2 ⟨⟨op,ok,rfl,hop⟩,rfl⟩;have vO:=JV op w1 hW1;replace hop:=Wx hop;go_wp2_with fail;refine vO.mono ?_;rintro e w2 ⟨hb2,hOut⟩;obtain⟨fs,fd,fn,fl,fm,fok,rfl,FJ⟩:=YX hOut;replace FJ:=Wx FJ;have J8:=AJ w2 (.cells #[.string fs,.bool fd,.bool fn,.int .i64 fl,.int .i64 fm] 261);have hF:=Ae.alloc w2 [.string fs,.bool fd,.bool fn,.int .i64 fl,.int .i64 fm] 261;have hb3:=AB hb2 J8;go_upto_region 9 with fail;generalize hW3:w2.alloc _=w3 at*;obtain⟨gb,hgb⟩:∃gb,w2.heap.size=gb:=⟨_,rfl⟩;have AD4:w1.heap.size<=gb:=by rw[<-hgb];exact hb2.size
 rw[hgb]at hF⊢;have hxg:xb<gb:=A9 hX.lt AD4;have Y7:=hX.nx hb3;have jF:=AB hbw hb3;have IK:=hR.kp jF;have gN:=AB h01 hb3;have yH:Below xb w w3:=ABE hxb jF;replace Db:=jF.mono hBw;have b1:=hF.c 1 _ rfl;have x1:=Y7.c 1 _ rfl;clear hX hW1 h01 hb3 hbw hb2 hbx d0;go_cut[63]from 49 to 62 (fun v wx=>∃r:Bool,v=.bool r/\(r=false->(5<=wh/\wh<=8)/\ok=true/\fd=decide (d≠Bv))/\wx=w3)
 ·have hI:=Hu IK;go_wp2_with fail;refine hI.mono ?_;rintro e w4 ⟨⟨b,rfl,hb0⟩,rfl⟩;replace hb0:=Wx hb0;cases b
  ·go_wp2;go_meet;exact⟨_,rfl,(fun h=>by cases h),rfl⟩
  cases ok
  ·go_wp2;go_meet;exact⟨_,rfl,(fun h=>by cases h),rfl⟩
  cases hem:d.toList.isEmpty with
  |true=>
   have AEA:(d.toList==[])=true:=(by rw[List.isEmpty_iff.1 hem];rfl);have hdd:=Wx (oL hem);cases fd
   ·go_wp2;go_meet;exact⟨_,rfl,(fun _=>⟨hb0.out (by trivial),by trivial,hdd.out.symm⟩),rfl⟩
   ·go_wp2;go_meet
    exact⟨_,rfl,(fun h=>by cases h),rfl⟩
  |false=>
   have AEA:(d.toList==[])=false:=by
    cases h:d.toList with
    |nil=>rw[h]at hem;cases hem
    |cons x y=>rfl
   have hdd:=Wx (tY hem);cases fd
   ·go_wp2;go_meet;exact⟨_,rfl,(fun h=>by cases h),rfl⟩
   ·go_wp2;go_meet;exact⟨_,rfl,(fun _=>⟨hb0.out (by trivial),by trivial,hdd.out.symm⟩),rfl⟩
 obtain⟨r,rfl,hr,rfl⟩:=hcut;obtain⟨w3,rfl⟩:=again wc;cases r;rotate_left
 ·clear hr;go_wp2;go_ret;exact⟨⟨_,rfl,fun h=>absurd h (by decide)⟩,Db⟩
 obtain⟨WJ,rfl,ql⟩:=hr rfl;clear hr b1 x1;replace hop:=hop.out rfl;replace ql:=Wx ql;have x0:=Y7.c 0 _ rfl;have y0:=Y7.f 0 (by simp);have Qa:=Y7.set (i:=0) (by simp) (.int .i64 op);have gM:=hF.far (q:=⟨xb,0,none⟩) (show xb≠gb by omega) (.int .i64 op);have ZW:=yH.setCell (p:=⟨xb,0,none⟩) (AQ) (.int .i64 op);clear jF IK gN Y7 yH Db hF;go_upto_region 13 with fail;generalize w3.setCell ⟨xb,0,none⟩ (.int .i64 op)=w4 at*;replace Qa:Ae w4 xb [.int .i64 op,.string d,.string ⟨#[]⟩,.slice none 0 0,.slice none 0 0,.slice none 0 0]:=Qa;go_cut[71]from 66 to 70 (fun v wx=>∃r:Bool,v=.bool r/\wx=w4)
 ·cases h6:((op:Int)==26)with
  |true=>
   go_wp2;go_meet
   exact⟨_,rfl,rfl⟩
  |false=>
   cases h7:((op:Int)==27)with
   |true=>
    go_wp2;go_meet
    exact⟨_,rfl,rfl⟩
   |false=>
    go_wp2;go_meet;exact⟨_,rfl,rfl⟩
 obtain⟨r,rfl,rfl⟩:=hcut;obtain⟨w4,rfl⟩:=again wc;have yI:AA6 w w4:=ABD hxb ZW;have TB:=AB h0 yI;have Po:=yI.mono hBw;have x2:=Qa.c 2 _ rfl;have y2:=Qa.f 2 (by simp);have b2:=gM.c 2 _ rfl;have hlc:l'.length<=c':=by
  obtain⟨_,_,e,-,⟨-,h⟩,-⟩:=hl';obtain⟨-,-,rfl⟩:=Value.slice.inj e;exact h
 have qX:(l'.length:Int)<=c':=by omega
 go_upto_if 71 with fail;go_cut[10]from 72 to 101 (fun v wx=>∃(m:List ByteArray) (pm:Option Addr) (cm:Nat) (n:ByteArray),v=.slice pm m.length cm/\Row DL 1 wx (.slice pm m.length cm) m/\Wz m/\Tz n/\Ae wx xb [.int .i64 op,.string d,.string n,.slice none 0 0,.slice none 0 0,.slice none 0 0]/\Ae wx gb [.string fs,.bool fd,.bool fn,.int .i64 fl,.int .i64 fm]/\Below xb w wx)
 ·cases r;rotate_left
  ·cases hg:decide ((l'.length:Int)<3)with
   |true=>
    have QZ:=BK hg;have hgN:l'.length<3:=(by omega);go_wp2;go_ret
    exact⟨⟨_,rfl,fun h=>absurd h (by decide)⟩,Po⟩
   |false=>
    have QZ:=CJ hg;have hgN:¬l'.length<3:=(by omega);have C8:1<l'.length:=(by omega);have Fw:(1:Int)<l'.length:=(by omega);have LQ:2<l'.length:=(by omega);have Qj:(2:Int)<l'.length:=(by omega);have h3I:(3:Int)<=l'.length:=(by omega);obtain⟨s1,hg1,hz1,d1⟩:=EN hl' C8 hz';obtain⟨a2,e2,d2⟩:=BQ hl' (q:=1) LQ;obtain rfl:a'=a2:=(by simpa using e2);have hz2:=Dl hz' LQ;have d10:=d1;replace d1:=AA TB d1;replace d2:=AA TB d2;simp only[Nat.reduceAdd]at d2 hz2;generalize l'[2]=s2 at*;have WO:=Qa.set (i:=2) (by simp) (.string s2);have wX:=gM.far (q:=⟨xb,2,none⟩) (show xb≠gb by omega) (.string s2);have Tn:=ZW.setCell (p:=⟨xb,2,none⟩) (AQ) (.string s2);have jE:AA6 w (w4.setCell ⟨xb,2,none⟩ (.string s2)):=ABD hxb Tn;have hd5:=AA (AB h0 jE) d10;clear hg1 e2 d10;have hl4:l'.length<=10000000:=hz'.1;go_upto_region 17 with fail;generalize w4.setCell ⟨xb,2,none⟩ (.string s2)=w5 at*;(go_upto_region 18 with(at_builtin;refine Tv rfl _ _ rfl rfl (MC.nil _ w5.heap.size) rfl (DN (l:=[s1]) (Ae.alloc w5 _ _) ⟨show 1<=10000000 by decide,by simpa using hz1⟩) (show 0+1<=100000000 by decide) (by simp) ?_;intro v6 w6 hv6 wJ;obtain⟨p6,c6,rfl⟩:=hv6.sl));have ZR:AA6 w5 w6:=(AJ w5 _).trans wJ.b;have Ng:=WO.nx ZR;have nL:=wX.nx ZR;have hxl:=WO.lt;have hgl:=wX.lt;have qK:=Nat.le_of_lt hxl;have xg:=ZR.size;have ZV:=Tn.trans (ZR.mono qK);have PX:AA6 w0 w6:=AB (AB h0 jE) ZR
    have hwz:Wz ([]++[s1]++l'.drop 3):=⟨by simp;omega,fun x hx=>by
     rcases List.mem_append.1 hx with h|h
     ·have h:x∈ [s1]:=h;rw[List.mem_singleton.1 h];exact hz1
     ·exact(hz'.drop 3).2 x h⟩
    clear wJ Tn jE;by_cases hc1:c'=3;subst hc1;have hT:=hl'.tail (k:=3) (m:=0) (b:=a') (by omega) (by omega) (fun _=>by omega);have vL:=hT.map fun a x h=>DL.kp PX h;rw[show l'.length-3=0 by omega]at vL;rotate_left;have hT:=hl'.tail (k:=3) (m:=c'-3) (b:=⟨a'.block,a'.off+3,none⟩) (by omega) (by omega) (fun _=>by simp[Addr.add]);have vL:=hT.map fun a x h=>DL.kp PX h;all_goals
     (go_wp2_with(at_builtin;refine Tv rfl _ _ rfl rfl hv6 rfl vL (by simp;omega) xg ?_;intro v7 w7 hv7 JH;obtain⟨p7,c7,rfl⟩:=hv7.sl;obtain⟨m7,WM⟩:∃m7,m7=[]++[s1]++l'.drop 3:=⟨_,rfl⟩;rw[<-WM]at hv7⊢;replace WM:=Wx WM));go_meet;exact⟨m7,p7,c7,s2,rfl,hv7.row (WM.out▸hwz),WM.out▸hwz,hz2,Ng.below hxl JH.b,nL.below hgl JH.b,ZV.trans (JH.b.mono qK)⟩
  ·cases fn
   ·have Fw:(1:Int)<=l'.length:=(by omega);by_cases hc1:c'=1
    ·subst hc1;have hT:=hl'.tail (k:=1) (m:=0) (b:=a') (by omega) (by omega) (fun _=>by omega);go_wp2;go_meet;exact⟨l'.drop 1,some a',0,⟨#[]⟩,by rw[List.length_drop,show l'.length-1=0 by omega],by rw[List.length_drop];exact hT.map fun a x h=>DL.kp TB h,hz'.drop 1,AY,Qa,gM,ZW⟩
    ·have hT:=hl'.tail (k:=1) (m:=c'-1) (b:=⟨a'.block,a'.off+1,none⟩) (by omega) (by omega) (fun _=>by simp[Addr.add]);go_wp2;go_meet;exact⟨l'.drop 1,some ⟨a'.block,a'.off+1,none⟩,c'-1,⟨#[]⟩,by rw[List.length_drop],by rw[List.length_drop];exact hT.map fun a x h=>DL.kp TB h,hz'.drop 1,AY,Qa,gM,ZW⟩
   ·cases hg:decide ((l'.length:Int)<2)with
    |true=>
     have QZ:=BK hg;have hgN:l'.length<2:=(by omega);go_wp2;go_ret
     exact⟨⟨_,rfl,fun h=>absurd h (by decide)⟩,Po⟩
    |false=>
     have QZ:=CJ hg;have hgN:¬l'.length<2:=(by omega);have C8:1<l'.length:=(by omega);have Fw:(1:Int)<l'.length:=(by omega);have Qj:(2:Int)<=l'.length:=(by omega);obtain⟨s1,hg1,hz1,d1⟩:=EN hl' C8 hz';replace d1:=AA TB d1;have WO:=Qa.set (i:=2) (by simp) (.string s1);have wX:=gM.far (q:=⟨xb,2,none⟩) (show xb≠gb by omega) (.string s1);have Tn:=ZW.setCell (p:=⟨xb,2,none⟩) (AQ) (.string s1);have Ku:AA6 w0 (w4.setCell ⟨xb,2,none⟩ (.string s1)):=AB h0 (ABD hxb Tn);by_cases hc1:c'=2
     ·subst hc1;have hT:=hl'.tail (k:=2) (m:=0) (b:=a') (by omega) (by omega) (fun _=>by omega);go_wp2;go_meet;exact⟨l'.drop 2,some a',0,s1,by rw[List.length_drop,show l'.length-2=0 by omega],by rw[List.length_drop];exact hT.map fun a x h=>DL.kp Ku h,hz'.drop 2,hz1,WO,wX,Tn⟩
     ·have hT:=hl'.tail (k:=2) (m:=c'-2) (b:=⟨a'.block,a'.off+2,none⟩) (by omega) (by omega) (fun _=>by simp[Addr.add]);go_wp2;go_meet;exact⟨l'.drop 2,some ⟨a'.block,a'.off+2,none⟩,c'-2,s1,by rw[List.length_drop],by rw[List.length_drop];exact hT.map fun a x h=>DL.kp Ku h,hz'.drop 2,hz1,WO,wX,Tn⟩
 obtain⟨m,pm,cm,n,rfl,hm,hmz,hn,hX,hF,hbx⟩:=hcut;obtain⟨w5,rfl⟩:=again wc;have jE:AA6 w w5:=ABD hxb hbx;have hA:=FT (Below.refl w5.heap.size w5) hm hmz false;go_wp2_with fail;refine hA.mono ?_;rintro e w6 ⟨⟨v1,b1,al,F1,rfl,⟨uo,m1,c1,rfl⟩,h1⟩,hb6⟩;have ADc:=hX.lt;have Ng:=hX.nx hb6;have nL:=hF.nx hb6;have ZV:Below xb w w6:=hbx.trans (hb6.mono (Nat.le_of_lt hX.lt));have AJl:AA6 w w6:=ABD hxb ZV;have jH:=hb6;replace h1:=Wx h1;have x2:=Ng.c 2 _ rfl;obtain⟨-,-,b2,b3,b4⟩:=nL.c5;go_upto_region 26 with fail;go_cut[133]from 107 to 132 (fun v wx=>∃r:Bool,v=.bool r/\(r=false->b1=true)/\AA6 w6 wx)
 ·cases b1
  ·go_wp2;go_meet;exact⟨_,rfl,(fun h=>by cases h),AL⟩
  cases fn
  ·skip
   cases hg1:decide ((m1:Int)<fl)with
   |true=>
    have QZ:=BK hg1;go_wp2;go_meet
    exact⟨_,rfl,(fun h=>by cases h),AL⟩
   |false=>
    have QZ:=CJ hg1
    cases hg2:decide (fm<(m1:Int))with
    |true=>
     have pI:=BK hg2;go_wp2;go_meet
     exact⟨_,rfl,(fun h=>by cases h),AL⟩
    |false=>
     have pI:=CJ hg2;go_wp2;go_meet;exact⟨_,rfl,(fun _=>by trivial),AL⟩
  ·have J8:=AJ w6 (.cells #[.string n] 9);have hN:=Bn (Below.refl (w6.alloc (.cells #[.string n] 9)).heap.size _) (DN (l:=[n]) (Ae.alloc w6 [.string n] 9) ⟨show 1<=10000000 by decide,by simpa using hn⟩);simp only[List.length_cons,List.length_nil,Nat.zero_add,List.all_cons,List.all_nil,Bool.and_true]at hN;have b3':=AA J8 b3;have b4':=AA J8 b4;generalize nm n=nv at*;go_wp2_with fail;refine hN.mono ?_;rintro e w7 ⟨rfl,rfl⟩;generalize hW7:w6.alloc _=w7 at*;clear hN hW7;cases nv
   ·go_wp2;go_meet;exact⟨_,rfl,(fun h=>by cases h),J8⟩
   cases hg1:decide ((m1:Int)<fl)with
   |true=>
    have QZ:=BK hg1;go_wp2;go_meet
    exact⟨_,rfl,(fun h=>by cases h),J8⟩
   |false=>
    have QZ:=CJ hg1
    cases hg2:decide (fm<(m1:Int))with
    |true=>
     have pI:=BK hg2;go_wp2;go_meet
     exact⟨_,rfl,(fun h=>by cases h),J8⟩
    |false=>
     have pI:=CJ hg2;go_wp2;go_meet;exact⟨_,rfl,(fun _=>by trivial),J8⟩
 obtain⟨r,rfl,hr,BJ⟩:=hcut;obtain⟨w7,rfl⟩:=again wc;have wR:=Ng.nx BJ;have AEC:Below xb w w7:=ZV.trans (BJ.mono (Nat.le_of_lt Ng.lt));have jD:AA6 w w7:=ABD hxb AEC;have yL:=jD.mono hBw;clear b2 b3 b4 x2 nL;cases r;rotate_left
 ·clear hr;go_wp2;go_ret;exact⟨⟨_,rfl,fun h=>absurd h (by decide)⟩,yL⟩
 obtain rfl:=hr rfl;obtain⟨k1,k2,k3,k4⟩:=h1.out rfl;replace k1:=Wx k1;obtain rfl:m1=al.length:=by
  obtain⟨_,_,e⟩:=k2.slice;rw[List.length_map]at e;exact(Value.slice.inj e).2.1
 have nJ:N<=xb:=by rw[<-hxb];exact hR.own.sz
 have hRx:R<xb:=A9 hR.own.lt nJ;have hx5:xb<w5.heap.size:=ADc;have Gy:=(hR.kp jD).up (by omega);have hll:=(hR.kp jD).ll;have cl:=Gy.cl;have f6:=Gy.Bw 6
 cases hg:decide ((1024:Int)<=lg)with
 |true=>
  have QZ:=BK hg;go_wp2;go_ret
  exact⟨⟨_,rfl,fun h=>absurd h (by decide)⟩,yL⟩
 |false=>
 have QZ:=CJ hg;have hwl:IntKind.i64.wrap (lg+1)=lg+1:=IntWalk.i64_in _ (by omega);have E8:=Gy.qH (lg+1) (by omega);have Bp:=Gy.low (.int .i64 (lg+1)) 6;have nH:=wR.far (q:=⟨R,6,none⟩) (show R≠xb by omega) (.int .i64 (lg+1));have x3:=nH.c 3 _ rfl;have y3:=nH.f 3 (by simp);have wQ:=nH.set (i:=3) (by simp) (.slice uo al.length c1);have hbN:=(Below.refl (B:=xb) (w7.setCell ⟨R,6,none⟩ (.int .i64 (lg+1)))).setCell (p:=⟨xb,3,none⟩) (AQ) (.slice uo al.length c1);have TN:=E8.wC (hbN.mono nJ);have J9:=Bp.trans (hbN.mono (AX hBw (by omega)));have k9:=k2.same (w':=(w7.setCell ⟨R,6,none⟩ (.int .i64 (lg+1))).setCell ⟨xb,3,none⟩ (.slice uo al.length c1)) fun b hb=>by
  have h1:=(k2.fp b hb);refine(Below.heap_setCell _ _ _ _ (show b≠xb by omega)).trans ((Below.heap_setCell _ _ _ _ (show b≠R by omega)).trans (BJ.block b h1.2))
 go_upto_region 32 with fail;generalize(w7.setCell ⟨R,6,none⟩ (.int .i64 (lg+1))).setCell ⟨xb,3,none⟩ (.slice uo al.length c1)=w9 at*;replace wQ:Ae w9 xb [.int .i64 op,.string d,.string n,.slice uo al.length c1,.slice none 0 0,.slice none 0 0]:=wQ;obtain⟨fr,f,br,b,hq,hbq⟩:=TN.ss.b (by omega) (by omega);obtain⟨FB,cap,hF⟩:=TN.Fy hq;obtain⟨BB,cap2,hL⟩:=TN.lastB hF hbq;obtain⟨nf,hnf⟩:∃nf,nf=fr.length+1:=⟨_,rfl⟩;obtain⟨nb,hnb⟩:∃nb,nb=br.length+1:=⟨_,rfl⟩;have lcF:w9.cell? ⟨R,4,none⟩=some (.slice (some ⟨FB,0,none⟩) nf cap):=by rw[hnf];exact hF.lc
 have gI:w9.cell? ⟨FB,fr.length*5+4,none⟩=some (.slice (some ⟨BB,0,none⟩) nb cap2):=by rw[hnb];exact hL.lc
 have Da:=TN.qq.2.2.2;rw[hq]at Da;have MF:=Da.1;rw[List.length_append,List.length_singleton]at MF;have GU:=Da.last.2.2.2.2;rw[hbq]at GU;have Jh:=GU.1;rw[List.length_append,List.length_singleton]at Jh;have hlenp:b.cs.length<=k+1:=GU.last.2.2.1.1;have hix:(nf:Int)-1=(fr.length:Int):=by omega
 have Ns:(fr.length:Int)<nf:=by omega
 have Pm:fr.length<nf:=by omega
 have hwr:=wrN (n:=fr.length) (by omega);have hjx:(nb:Int)-1=(br.length:Int):=by omega
 have qb:(br.length:Int)<nb:=by omega
 have qZ:br.length<nb:=by omega
 have hjr:=wrN (n:=br.length) (by omega);have AJV:=hmz.1;have AEU:Rw 10000000 qAg al:=⟨by have:=k1.out;omega,k4⟩;have AEN:=jD.mono hBw|>.trans J9;have hB9:B<=w9.heap.size:=AX TN.own.ge (AX (Nat.le_of_lt TN.own.lt) TN.own.sz);replace hnf:=Wx hnf;replace hnb:=Wx hnb;go_wp2;refine AO (S:=fun _ v=>AA6 w9 v) rfl (by kernel_rfl) Ac ?_;iterate 14((apply Ab.z rfl;intro L w1 _ _ _ z hK;(have c1:=AA z.s lcF);go_simp;exact hK (z.s);rfl))
 refine Ab.nil fun uj yR=>?_;have cB:=AA yR gI;go_upto_region 34 with fail;have OL:AA6 w9 uj.drew:=AB yR Ac;have BO:=TN.kp OL;have hLd:=hL.up TN hq hbq OL;have hXd:=wQ.nx OL;obtain⟨F2,vc,xs,⟨hc,hox,⟨pc,cc,rfl⟩,hsp,-⟩,hF2⟩:=hLd.li;have LP:=hLd.lf.lt;have TT:=hLd.lt;have EK:(Value.slice pc b.cs.length cc).ownBlock≠some FB:=own_ne hox LP (by decide);have GY:(Value.slice pc b.cs.length cc).ownBlock≠some BB:=own_ne hox TT (by decide);have FL:(Value.slice pc b.cs.length cc).ownBlock≠some xb:=fun e=>by
  have:=hsp.JI hc e;omega
 have hsz:B<=uj.drew.heap.size:=AX hB9 OL.size;have hN5:N<=w5.heap.size:=AX nJ (Nat.le_of_lt hx5);have kd:=k9.same (w':=uj.drew) fun b hb=>OL.block b (k9.fp b hb).2;replace hq:=Wx hq;replace hbq:=Wx hbq;obtain⟨xx0,xx1,xx2,xx3,xx4,xx5⟩:=hXd.c6;go_wp2;refine AV (S:=Ad uj.drew B 133 6 14 15 18 [.int .i64 op,.string d,.string n,.slice uo al.length c1,.slice none 0 0,.slice none 0 0] b.cs.length xs (.slice pc b.cs.length cc) ⟨BB,br.length*9+2,none⟩) rfl (by kernel_rfl) (Ad.start (AL)) ?_;iterate 14((apply AU.z rfl;intro V L w1 _ _ _ z hK;(try(have hs:=z.f 18 (by kernel_rfl);(have c1:=z.s.cellOf hs (show uj.drew.cell? ⟨FB,fr.length*5+4,none⟩=some (.slice (some ⟨BB,0,none⟩) nb cap2)from cB) EK;have c2:=z.s.cellOf hs hc GY;have z0:=z.s.cellOf hs xx0 FL;have z1:=z.s.cellOf hs xx1 FL;have z2:=z.s.cellOf hs xx2 FL;have z3:=z.s.cellOf hs xx3 FL;have z4:=z.s.cellOf hs xx4 FL;have z5:=z.s.cellOf hs xx5 FL)));go_simp;exact hK (z.s.keep rfl rfl rfl);intros;rfl))
 (apply AU.w rfl;intro V L w1 _ _ _ z hK;go_simp;exact hK rfl (z.s.made (z.o 15 (by kernel_rfl)) rfl _);(try simp only[pE]));(refine AU.free (fun _=>rfl) (fun V L w1 _ _ hS hi hR hd hK=>hS.go hi (hR.out (18) _ (by kernel_rfl) hi) (hd.out (14) (by kernel_rfl)) (rowIs) (underlying75) (hox) rfl rfl rfl rfl rfl rfl (by decide) (by simp[Value.oneCell']) (by unfold maxLen;omega) fun v' w' h=>hK.out _ _ rfl h) ?_;(try simp only[pE]));iterate 2((apply AU.z rfl;intro V L w1 _ _ _ z hK;(try(have hs:=z.f 18 (by kernel_rfl);(have c1:=z.s.cellOf hs (show uj.drew.cell? ⟨FB,fr.length*5+4,none⟩=some (.slice (some ⟨BB,0,none⟩) nb cap2)from cB) EK)));go_simp;exact hK (z.s.keep rfl rfl rfl);intros;rfl))
 (apply AU.val undef (fun _=>rfl);intro V L w1 _ _ hS hi hR hd hK;have ha:=hd.out (15) (by kernel_rfl);(have cs:=hS.cellOf hi hc GY;have fs:=hS.EA hi (o:=br.length*9+2) TT.lt (TT.Bw _) GY);have hS2:=hS.stored ha hi rfl;obtain⟨pu,ku,CX⟩:=hS.val ha;rw[CX]at hS2;simp only[CX];go_simp;exact hK.out _ _ (by simp only[CX];rfl) hS2;simp only[Act.put]);refine AU.nil fun V w11 hS=>?_;obtain⟨jL,AEO⟩:=hS.Yq (d:=TD ⟨op,d,n,al,[],[]⟩) (q':={q with fs:=fr++[{f with bs:=br++[{b with cs:=b.cs++[⟨op,d,n,al,[],[]⟩]}]}]}) rfl rfl BO hsp hc hox (by simp) (by decide) (fun w1 pb hlow hx=>⟨F1++([]++([]++[])),Af.of (AP.cc (hx.c 0 _ rfl) rfl (AP.cc (hx.c 1 _ rfl) rfl (AP.cc (hx.c 2 _ rfl) rfl (AP.cr (hx.c 3 _ rfl) (AZ.mono hN5 (kd.same fun b hb=>hlow.block b (kd.fp b hb).2)) (AP.cr (l:=[]) (hx.c 4 _ rfl) AZ.nil (AP.cr (l:=[]) (hx.c 5 _ rfl) AZ.nil AP.cn)))))),by simpa using k3⟩) rfl rfl (by rw[<-hF2,List.map_append];rfl) ⟨BO.qq.1.up (Aa) fun _ h=>QW.up (Aa) h,BO.qq.2.1.up (Aa) fun _ h=>h,BO.qq.2.2.1.up (Aa) fun _ h=>h,Da.turn (Aa) (fun _ h=>QV.up (Aa) h) ⟨Da.last.1,Da.last.2.1,Da.last.2.2.1.up (Aa) fun _ h=>h,Da.last.2.2.2.1.up (Aa) fun _ h=>h,GU.turn (Aa) (fun _ h=>WI.up (Aa) h) ⟨GU.last.1,GU.last.2.1.up (Aa) fun _ h=>h,GU.last.2.2.1.snoc (fun _ h=>gG.up (Aa) h) ⟨fun fm e=>(FJ.out fm e).trans ql.out,hd,hn,AEU,Rw.nil,Rw.nil⟩,GU.last.2.2.2⟩⟩⟩ ⟨BO.ss.r,BO.ss.c,(fun _=>by simp),(fun _ _=>⟨fr,_,br,_,rfl,rfl⟩),fun _ _=>⟨fr,_,br,_,b.cs,_,rfl,rfl,rfl⟩⟩ (by omega);have AAf:=(AEN.trans (OL.mono hB9)).trans AEO;have cw:=jL.cw;have f5:=jL.Bw 5;have Zg:=jL.setW 6 ⟨by omega,(fun h=>absurd h (by decide)),(fun _=>by simp),(fun _ _=>⟨fr,_,br,_,rfl,rfl⟩),fun h=>absurd h (by decide)⟩;have yM:=AAf.trans (jL.low (.int .i64 6) 5);have cw2:=Zg.cw;have f52:=Zg.Bw 5;have ABF:=Zg.setW 7 ⟨by omega,(fun h=>absurd h (by decide)),(fun _=>by simp),(fun _ _=>⟨fr,_,br,_,rfl,rfl⟩),fun _ _=>⟨fr,_,br,_,b.cs,_,rfl,rfl,rfl⟩⟩;have FM:=yM.trans (Zg.low (.int .i64 7) 5)
 cases h31:((op:Int)==31)with
 |true=>
  go_wp2;go_ret
  exact⟨⟨_,rfl,fun _=>⟨_,_,_,_,ABF⟩⟩,FM⟩
 |false=>
  cases h34:((op:Int)==34)with
  |true=>
   go_wp2;go_ret
   exact⟨⟨_,rfl,fun _=>⟨_,_,_,_,ABF⟩⟩,FM⟩
  |false=>
   go_wp2;go_ret;exact⟨⟨_,rfl,fun _=>⟨_,_,_,_,Zg⟩⟩,yM⟩
end
section
open Word Num Dp
theorem AAB:(prog.info? 238).map (fun i=>(i.zero,i.size,i.bytes))=some (some (.agg #[.string .empty,.slice none 0 0]),2,40):=by kernel_rfl
theorem AAF:(prog.info? 232).map (fun i=>(i.zero,i.size,i.bytes))=some (some (.agg #[.string .empty,.string .empty,.int .i64 0,.slice none 0 0]),4,64):=by kernel_rfl
theorem GC.call'{K:World->Prop}{w2:World}{R:Rs}{cl:Nat}{Y:Value->World->Prop}{V:Nat->Value}{L:Nat->Bool}(hy:∀v,Y v w2):GC K R cl Y V (upd L cl) w2:=by simp_all[Rs,GC,upd]
theorem XR(h0:AA6 w0 w)(hR:Ct w B N R q wh lg k)(hB:w0.heap.size<=B)(hk:k+1<=5000000)(hl:Row DL 1 w0 u l)(hz:Wz l)(hp:0<l.length):Calls prog 215 #[.pointer (some ⟨R,0,none⟩),u] w fun e w'=>Gb w B R k e w'/\Below B w w':=by
 obtain⟨p,c,rfl⟩:=hl.slice;obtain⟨a,rfl,-⟩:=CV hl hp;have d0:=AA h0 (Bg hl hp);have PV:(0:Int)<l.length:=by omega
 by_cases hw:l[0]=⟨#[97,116]⟩\/l[0]=⟨#[111,98,106]⟩\/l[0]=⟨#[106,117,109,112]⟩\/l[0]=⟨#[98,114,97,110,99,104]⟩\/l[0]=⟨#[114,101,116]⟩\/l[0]=⟨#[116,114,97,112]⟩;rotate_left
 ·simp only[not_or]at hw;obtain⟨e1,e2,e3,e4,e5,e6⟩:=hw;replace e1:=Fa e1 rfl;replace e2:=Fa e2 rfl;replace e3:=Fa e3 rfl;replace e4:=Fa e4 rfl;replace e5:=Fa e5 rfl;replace e6:=Fa e6 rfl;generalize l[0]=s at*;go_enter func215,ntmps215;go_wp2;go_ret2;exact⟨⟨_,_,rfl,(fun h=>by cases h),fun _=>AL⟩,AL⟩
 have hBw:B<=w.heap.size:=by have:=hR.own.ge;have:=hR.lt;omega
 have hI:=Hu hR
 rcases hw with hw|hw|hw|hw|hw|hw<;>(
  rw[hw]at d0;go_enter func215,ntmps215;go_wp2_with fail;refine hI.mono ?_;rintro e w1 ⟨⟨b,rfl,hb0⟩,rfl⟩;cases b
  ·go_wp2;go_ret2;exact⟨ABJ (by decide),AL⟩
  have WJ:=hb0 rfl;obtain⟨fr,f,br,b,hq,hbq⟩:=hR.ss.b (by omega) (by omega);obtain⟨FB,cap,hF⟩:=hR.Fy hq;obtain⟨BB,cap2,hL⟩:=hR.lastB hF hbq;obtain⟨nf,hnf⟩:∃nf,nf=fr.length+1:=⟨_,rfl⟩;obtain⟨nb,hnb⟩:∃nb,nb=br.length+1:=⟨_,rfl⟩;have lcF:w.cell? ⟨R,4,none⟩=some (.slice (some ⟨FB,0,none⟩) nf cap):=by rw[hnf];exact hF.lc
  have gI:w.cell? ⟨FB,fr.length*5+4,none⟩=some (.slice (some ⟨BB,0,none⟩) nb cap2):=by rw[hnb];exact hL.lc
  have Da:=hR.qq.2.2.2;rw[hq]at Da;have MF:=Da.1;rw[List.length_append,List.length_singleton]at MF;have GU:=Da.last.2.2.2.2;rw[hbq]at GU;have Jh:=GU.1;rw[List.length_append,List.length_singleton]at Jh;have hix:(nf:Int)-1=(fr.length:Int):=by omega
  have Ns:(fr.length:Int)<nf:=by omega
  have Pm:fr.length<nf:=by omega
  have hwr:=wrN (n:=fr.length) (by omega);have hjx:(nb:Int)-1=(br.length:Int):=by omega
  have qb:(br.length:Int)<nb:=by omega
  have qZ:br.length<nb:=by omega
  have hjr:=wrN (n:=br.length) (by omega);replace hnf:=Wx hnf;replace hnb:=Wx hnb;go_wp2;refine AO (S:=fun _ v=>AA6 w v) rfl (by kernel_rfl) Ac ?_;iterate 14((apply Ab.z rfl;intro L w1 _ _ _ z hK;(have c1:=AA z.s lcF);go_simp;exact hK (z.s);rfl))
  refine Ab.nil fun w2 hS2=>?_;have cB:=AA hS2 gI;go_wp2;refine AO (S:=fun _ v=>AA6 w2 v) rfl (by kernel_rfl) Ac ?_;iterate 12((apply Ab.z rfl;intro L w1 _ _ _ z hK;(have c1:=AA z.s cB);go_simp;exact hK (z.s);rfl))
  refine Ab.nil fun w3 WQ=>?_;have hb3:=AB hS2 WQ;replace d0:=AA hb3 d0;replace h0:=AB h0 hb3;have IK:=hR.kp hb3;have hL3:=hL.up hR hq hbq hb3;have LX:=hb3.mono hBw;have hB3:B<=w3.heap.size:=AX hBw hb3.size;have hlc:l.length<=c:=by
   obtain⟨_,_,e,-,⟨-,h⟩,-⟩:=hl;obtain⟨-,-,rfl⟩:=Value.slice.inj e;exact h
  have qX:(l.length:Int)<=c:=by omega
  replace hq:=Wx hq
  replace hbq:=Wx hbq)
 ·have hP:Calls prog 237 #[.slice (some a) l.length c,.int .i64 4,.bool true] w3 fun e w'=>VY w3 w' 4 l.length e/\AA6 w3 w':=Oi h0 hl hz 4 (by decide) true;go_wp2_with fail;refine hP.mono ?_;rintro e w4 ⟨⟨vb,b1,bl,F1,rfl,⟨ps0,mb,cb,rfl⟩,h1⟩,hb4⟩;replace h1:=Wx h1;have Dc:=IK.kp hb4;have hL4:=hL3.up IK hq.out hbq.out hb4;have Po:=LX.trans (hb4.mono hB3);have TB:=AB h0 hb4;have hB4:B<=w4.heap.size:=AX hB3 hb4.size;have gK:N<=w3.heap.size:=IK.own.sz;go_upto_region 16 with fail;go_cut[83]from 64 to 82 (fun v wx=>∃r:Bool,v=.bool r/\(r=false->wh=7/\b1=true)/\AA6 w4 wx)
  ·have cw:=Dc.cw;have hbd:=(Below.refl w4.heap.size w4).drew
   cases h7:((wh:Int) !=7)with
   |true=>
    go_wp2;refine AO (S:=fun _ v=>AA6 w4 v) rfl (by kernel_rfl) hbd ?_;(iterate 20(first|(apply Ab.z rfl;intro L w1 _ _ _ z hK;(have e0:=AA z.s cw);go_simp;exact hK (z.s);rfl)|(refine Ab.skip rfl (fun L w1 hS hi=>(hS)) ?_;(try simp only[pE]))));refine Ab.nil fun w5 hS5=>?_;go_wp2;go_meet
    exact⟨_,rfl,(fun h=>by cases h),hS5⟩
   |false=>
    have hw7:wh=7:=(by simpa using h7);replace hw7:=Wx hw7;cases b1
    ·go_wp2;refine AO (S:=fun _ v=>AA6 w4 v) rfl (by kernel_rfl) hbd ?_;(iterate 20(first|(apply Ab.z rfl;intro L w1 _ _ _ z hK;(have e0:=AA z.s cw);go_simp;exact hK (z.s);rfl)|(refine Ab.skip rfl (fun L w1 hS hi=>(hS)) ?_;(try simp only[pE]))));refine Ab.nil fun w5 hS5=>?_;go_wp2;go_meet;exact⟨_,rfl,(fun h=>by cases h),hS5⟩
    ·obtain⟨k1,-⟩:=h1.out rfl;have C8:0+1<l.length:=(by omega);have Fw:(1:Int)<l.length:=(by omega);have LQ:1+1<l.length:=(by omega);have Qj:(2:Int)<l.length:=(by omega);obtain⟨a1,e1,d1⟩:=BQ hl (q:=0) C8;obtain rfl:a=a1:=(by simpa using e1);obtain⟨a2,e2,d2⟩:=BQ hl (q:=1) LQ;obtain rfl:a=a2:=(by simpa using e2);have hz1:=Dl hz C8;have hz2:=Dl hz LQ;replace d1:=AA TB d1;replace d2:=AA TB d2;simp only[Nat.zero_add,Nat.reduceAdd]at d1 d2 hz1 hz2;generalize l[1]=s1 at*;generalize l[2]=s2 at*;obtain⟨nv,nC⟩:∃nv,nv=[s1,s2].all nm:=⟨_,rfl⟩;replace nC:=Wx nC;go_wp2;refine AV (S:=GC (fun v1=>AA6 w4 v1) (R1 16 17 (fun v v1=>∃pb,v=.slice (some ⟨pb,0,none⟩) 2 2/\Ae v1 pb [.string s1,.string s2])) 17 (fun _ v1=>AA6 w4 v1)) rfl (by kernel_rfl) (GC.start hbd) ?_;(iterate 16((apply AU.z rfl;intro V L w1 _ _ _ z hK;(try(have hc:=z.f 17 (by kernel_rfl);have hI:=z.s.k hc;(have e0:=AA hI cw;have e1:=AA hI d1;have e2:=AA hI d2)));go_simp;exact hK (z.s.keep rfl rfl);intros;rfl)));refine AU.free (fun _=>rfl) (fun V L w2 K' Q' hS hi hR hd hK=>?_) ?_
     ·have hc:=hR.out 17 16 (by kernel_rfl) hi;have hI:=hS.k hc;have hb:=AJ w2 (.cells #[.string s1,.string s2] 9);go_simp;(try simp only[pE]);exact hK.out _ _ rfl (hS.made (Cv fun h=>absurd rfl h) (AB hI hb) hc rfl ⟨_,rfl,Ae.alloc _ _ _⟩ rfl)
     (try simp only[pE]);refine AU.val (.bool nv) (fun _=>rfl) (fun V L w2 K' Q' hS hi hR hd hK=>?_) ?_
     ·obtain⟨pb,hp,hx⟩:=hS.val hi rfl (hd.out 16 (by kernel_rfl)) hi;have hI:=hS.k hi;have hN:=Bn (Below.refl w2.heap.size _) (DN (l:=[s1,s2]) hx ⟨show 2<=10000000 by decide,by simpa using⟨hz1,hz2⟩⟩);rw[<-nC.out]at hN;simp only[hp];go_simp;(go_wp2_with(refine hN.mono ?_;rintro e w3 ⟨rfl,rfl⟩));exact hK.out _ _ (by simp only[hp];rfl) (GC.call' fun _=>hI)
     (try simp only[pE]);(iterate 2((apply AU.z rfl;intro V L w1 _ _ _ z hK;go_simp;exact hK (z.s.keep rfl rfl);intros;rfl)));refine AU.nil fun V w5 hS=>?_;have hb5:=hS.done rfl;go_wp2;go_meet;exact⟨_,rfl,(fun _=>⟨hw7.out,trivial⟩),hb5⟩
  obtain⟨r,rfl,hr,hb5⟩:=hcut;obtain⟨w5,rfl⟩:=again wc;have CS:=Dc.kp hb5;have hL5:=hL4.up Dc hq.out hbq.out hb5;have Za:=Po.trans (hb5.mono hB4);have Ku:=AB TB hb5;have ZC:B<=w5.heap.size:=AX hB4 hb5.size;cases r;rotate_left
  ·go_wp2;go_ret2;exact⟨ABJ (by decide),Za⟩
  obtain⟨ZJ,rfl⟩:=hr rfl;replace ZJ:=Wx ZJ;obtain⟨k1,kn,k2,k3,k4⟩:=h1.out rfl;replace k2:=k2.same (w':=w5) fun b hb=>hb5.block b (k2.fp b hb).2;obtain rfl:mb=bl.length:=by
   obtain⟨_,_,e⟩:=k2.slice;rw[List.length_map]at e;exact(Value.slice.inj e).2.1
  have nN:2+1<l.length:=by omega
  have h3I:(3:Int)<l.length:=by omega
  obtain⟨a3,e3,d3⟩:=BQ hl (q:=2) nN;obtain rfl:a=a3:=by simpa using e3
  have hz3:=Dl hz nN;replace d3:=AA Ku d3;simp only[Nat.reduceAdd]at d3 hz3;have hG:=fun w=>JU l[3] hz3 w;generalize l[3]=s3 at*;go_wp2_with fail;refine(hG _).mono ?_;rintro e w6 ⟨⟨n,is,rfl,-⟩,hb6⟩;have ES:=CS.kp hb6;have hL6:=hL5.up CS hq.out hbq.out hb6;have qw:=Za.trans (hb6.mono ZC);have PX:=AB Ku hb6;have nM:B<=w6.heap.size:=AX ZC hb6.size;replace k2:=k2.same (w':=w6) fun b hb=>hb6.block b (A9 (k2.fp b hb).2 (AQ));go_upto_region 19 with fail;go_cut[100]from 91 to 99 (fun v wx=>∃r:Bool,v=.bool r/\wx=w6)
  ·cases is
   ·go_wp2;go_meet;exact⟨_,rfl,rfl⟩
   ·cases hn0:decide (n<0)with
    |true=>
     have xq:=BK hn0;go_wp2;go_meet
     exact⟨_,rfl,rfl⟩
    |false=>
     have xq:=CJ hn0
     cases hn1:decide ((1024:Int)<n)with
     |true=>
      have ADo:=BK hn1;go_wp2;go_meet
      exact⟨_,rfl,rfl⟩
     |false=>
      have ADo:=CJ hn1;go_wp2;go_meet;exact⟨_,rfl,rfl⟩
  obtain⟨r,rfl,rfl⟩:=hcut;obtain⟨w6,rfl⟩:=again wc;cases r;rotate_left
  ·go_wp2;go_ret2;exact⟨ABJ (by decide),qw⟩
  obtain⟨cr,x,hcs⟩:∃cr x,b.cs=cr++[x]:=by
   obtain⟨fr',f',br',b',cr,x,e1,e2,e3⟩:=ES.ss.i (by have:=ZJ.out;omega) (by omega);rw[hq.out]at e1;obtain⟨rfl,h⟩:=List.append_inj' e1 rfl;obtain rfl:f=f':=(by simpa using h);rw[hbq.out]at e2;obtain⟨rfl,h⟩:=List.append_inj' e2 rfl;obtain rfl:b=b':=(by simpa using h);exact⟨cr,x,e3⟩
  obtain⟨IB,Nv,pY⟩:=hL6.oH hcs;obtain⟨ni,hni⟩:∃ni,ni=cr.length+1:=⟨_,rfl⟩;have lcI:w6.cell? ⟨BB,br.length*9+2,none⟩=some (.slice (some ⟨IB,0,none⟩) ni Nv):=by rw[hni];exact pY.lc
  have hqc:=GU.last.2.2.1;rw[hcs]at hqc;have Z0:=hqc.1;rw[List.length_append,List.length_singleton]at Z0;have hmx:(ni:Int)-1=(cr.length:Int):=by omega
  have ADq:(cr.length:Int)<ni:=by omega
  have ADp:cr.length<ni:=by omega
  have hmr:=wrN (n:=cr.length) (by omega);obtain⟨F2,vc,xs,⟨hc,hox,⟨pc,cc,rfl⟩,hsp,-⟩,hF2⟩:=pY.lf;replace hni:=Wx hni;replace hcs:=Wx hcs;go_wp2;refine AO (S:=fun _ v=>AA6 w6 v) rfl (by kernel_rfl) Ac ?_;iterate 12((apply Ab.z rfl;intro L w1 _ _ _ z hK;(have c1:=AA z.s lcI);go_simp;exact hK (z.s);rfl))
  refine Ab.nil fun w7 iK=>?_;have cV:=AA iK hc;have AAb:x.fr.length<=k:=hqc.last.2.2.2.2.1.1;have hkk:=ES.kk;have hln:=hz.1;go_upto_region 22 with fail;go_cut[122]from 112 to 121 (fun v wx=>∃r:Bool,v=.bool r/\wx=w7)
  ·cases hg1:decide ((16:Int)<(bl.length:Int))with
   |true=>
    have QZ:=BK hg1;have hgN:16<bl.length:=(by omega);go_wp2;go_meet
    exact⟨_,rfl,rfl⟩
   |false=>
    have QZ:=CJ hg1;have hgN:¬16<bl.length:=by omega
    cases hg2:decide ((16:Int)<=(x.fr.length:Int))with
    |true=>
     have pI:=BK hg2;have hgM:16<=x.fr.length:=(by omega);go_wp2;go_meet
     exact⟨_,rfl,rfl⟩
    |false=>
     have pI:=CJ hg2;have hgM:¬16<=x.fr.length:=(by omega);go_wp2;go_meet;exact⟨_,rfl,rfl⟩
  obtain⟨r,rfl,rfl⟩:=hcut;obtain⟨w7,rfl⟩:=again wc;cases r;rotate_left
  ·go_wp2;go_ret2;exact⟨ABJ (by decide),qw.trans (iK.mono nM)⟩
  have GZ:AA6 w6 w7.drew:=AB iK Ac;have BO:=ES.kp GZ;have hc6:=AA GZ hc;have Pj:=Dh hox GZ (AQ);have qO:=hsp.kp (GZ.mono ES.own.sz);have hIT:=DC.nx pY.lt GZ;have C8:0+1<l.length:=by omega
  have Fw:(1:Int)<l.length:=by omega
  have LQ:1+1<l.length:=by omega
  have Qj:(2:Int)<l.length:=by omega
  obtain⟨a1,e1,d1⟩:=BQ hl (q:=0) C8;obtain rfl:a=a1:=by simpa using e1
  obtain⟨a2,e2,d2⟩:=BQ hl (q:=1) LQ;obtain rfl:a=a2:=by simpa using e2
  have hz1:=Dl hz C8;have hz2:=Dl hz LQ;simp only[Nat.zero_add,Nat.reduceAdd]at d1 d2 hz1 hz2;have hag:a.block<B:=A9 (World.block_lt_of_cell? _ ⟨a.block,a.off+1,none⟩ d1) hB;replace d1:=AA (AB PX GZ) d1;replace d2:=AA (AB PX GZ) d2;generalize l[1]=s1 at*;generalize l[2]=s2 at*;have Qo:=own_ne Pj hIT (by decide);have DT:=Ed Pj hag;have hsz:B<=w7.drew.heap.size:=AX nM GZ.size;have kd:=k2.same (w':=w7.drew) fun b hb=>GZ.block b (k2.fp b hb).2;have hx:=hqc.last;go_wp2;refine AV (S:=Ad w7.drew B 232 4 14 15 18 [.string s1,.string s2,.int .i64 n,.slice ps0 bl.length cb] x.fr.length xs (.slice pc x.fr.length cc) ⟨IB,cr.length*6+4,none⟩) rfl (by kernel_rfl) (Ad.start (AL)) ?_;iterate 14((apply AU.z rfl;intro V L w1 _ _ _ z hK;(try(have hs:=z.f 18 (by kernel_rfl);(have c1:=z.s.cellOf hs hc6 Qo;have c2:=z.s.cellOf hs (show w7.drew.cell? ⟨a.block,a.off+1,none⟩=some (.string s1)from d1) DT;have c3:=z.s.cellOf hs (show w7.drew.cell? ⟨a.block,a.off+2,none⟩=some (.string s2)from d2) DT)));go_simp;exact hK (z.s.keep rfl rfl rfl);intros;rfl))
  (apply AU.w rfl;intro V L w1 _ _ _ z hK;go_simp;exact hK rfl (z.s.made (z.o 15 (by kernel_rfl)) rfl _);(try simp only[pE]));(refine AU.free (fun _=>rfl) (fun V L w1 _ _ hS hi hR hd hK=>hS.go hi (hR.out (18) _ (by kernel_rfl) hi) (hd.out (14) (by kernel_rfl)) (AAF) (underlying130) (Pj) rfl rfl rfl rfl rfl rfl (by decide) (by simp[Value.oneCell']) (by unfold maxLen;omega) fun v' w' h=>hK.out _ _ rfl h) ?_;(try simp only[pE]));iterate 2((apply AU.z rfl;intro V L w1 _ _ _ z hK;(try(have hs:=z.f 18 (by kernel_rfl);(skip)));go_simp;exact hK (z.s.keep rfl rfl rfl);intros;rfl))
  (apply AU.val undef (fun _=>rfl);intro V L w1 _ _ hS hi hR hd hK;have ha:=hd.out (15) (by kernel_rfl);(have cs:=hS.cellOf hi hc6 Qo;have fs:=hS.EA hi (o:=cr.length*6+4) hIT.lt (hIT.Bw _) Qo);have hS2:=hS.stored ha hi rfl;obtain⟨pu,ku,CX⟩:=hS.val ha;rw[CX]at hS2;simp only[CX];go_simp;exact hK.out _ _ (by simp only[CX];rfl) hS2;simp only[Act.put]);refine AU.nil fun V w8 hS=>?_;obtain⟨E8,Bp⟩:=hS.Yq (d:=nR ⟨s1,s2,n,bl⟩) (q':={q with fs:=fr++[{f with bs:=br++[{b with cs:=cr++[{x with fr:=x.fr++[⟨s1,s2,n,bl⟩]}]}]}]}) rfl rfl BO qO hc6 Pj (by simp) (by decide) (fun w1 pb hlow hx=>⟨F1++[],Af.of (AP.cc (hx.c 0 _ rfl) rfl (AP.cc (hx.c 1 _ rfl) rfl (AP.cc (hx.c 2 _ rfl) rfl (AP.cr (hx.c 3 _ rfl) (AZ.mono gK (kd.same fun b hb=>hlow.block b (kd.fp b hb).2)) AP.cn)))),by simpa using k3⟩) rfl rfl (by rw[<-hF2,List.map_append];rfl) ⟨BO.qq.1.up (Aa) fun _ h=>QW.up (Aa) h,BO.qq.2.1.up (Aa) fun _ h=>h,BO.qq.2.2.1.up (Aa) fun _ h=>h,Da.turn (Aa) (fun _ h=>QV.up (Aa) h) ⟨Da.last.1,Da.last.2.1,Da.last.2.2.1.up (Aa) fun _ h=>h,Da.last.2.2.2.1.up (Aa) fun _ h=>h,GU.turn (Aa) (fun _ h=>WI.up (Aa) h) ⟨GU.last.1,GU.last.2.1.up (Aa) fun _ h=>h,hqc.turn (Aa) (fun _ h=>gG.up (Aa) h) ⟨hx.1,hx.2.1,hx.2.2.1,hx.2.2.2.1,hx.2.2.2.2.1.snoc (fun _ h=>h) ⟨hz1,hz2,AX kn hln,k4⟩,hx.2.2.2.2.2.up (Aa) fun _ h=>h⟩,GU.last.2.2.2⟩⟩⟩ ⟨BO.ss.r,BO.ss.c,(fun _=>by simp),(fun _ _=>⟨fr,_,br,_,rfl,rfl⟩),fun _ _=>⟨fr,_,br,_,cr,_,rfl,rfl,rfl⟩⟩ hk;have J9:=(qw.trans (GZ.mono nM)).trans Bp;go_wp2;go_ret2;exact⟨⟨_,_,rfl,(fun _ _=>⟨_,_,_,_,E8⟩),fun h=>by cases h⟩,J9⟩
 ·go_upto_region 27 with fail;go_cut[165]from 143 to 164 (fun v wx=>∃r:Bool,v=.bool r/\(r=false->7<=wh/\2<=l.length/\nm (l.getD 1 Bv)=true)/\AA6 w3 wx)
  ·have cw:=IK.cw
   cases h7:decide (wh<7)with
   |true=>
    have QZ:=BK h7;go_wp2;go_meet
    exact⟨_,rfl,(fun h=>by cases h),AL⟩
   |false=>
    have QZ:=CJ h7
    cases h2:decide ((l.length:Int)<2)with
    |true=>
     have pI:=BK h2;have hgN:l.length<2:=(by omega);go_wp2;go_meet
     exact⟨_,rfl,(fun h=>by cases h),AL⟩
    |false=>
     have pI:=CJ h2;have hgN:¬l.length<2:=by omega
     cases h10:decide ((10:Int)<(l.length:Int))with
     |true=>
      have hgK:=BK h10;have hgM:10<l.length:=(by omega);go_wp2;go_meet
      exact⟨_,rfl,(fun h=>by cases h),AL⟩
     |false=>
      have hgK:=CJ h10;have hgM:¬10<l.length:=(by omega);have C8:1<l.length:=(by omega);have Fw:(1:Int)<l.length:=(by omega);obtain⟨_,rfl,hz1,d1⟩:=EN hl C8 hz;replace d1:=AA h0 d1;generalize l.getD 1 Bv=s1 at*;have J8:=AJ w3 (.cells #[.string s1] 9);have hN:=Bn (Below.refl (w3.alloc (.cells #[.string s1] 9)).heap.size _) (DN (l:=[s1]) (Ae.alloc w3 [.string s1] 9) ⟨show 1<=10000000 by decide,by simpa using hz1⟩);simp only[List.length_cons,List.length_nil,Nat.zero_add,List.all_cons,List.all_nil,Bool.and_true]at hN;generalize nm s1=nv at*;have hx7:7<=wh/\2<=l.length:=(by omega);go_wp2_with fail;refine hN.mono ?_;rintro e w4 ⟨rfl,rfl⟩;cases nv
      ·go_wp2;go_meet;exact⟨_,rfl,(fun h=>by cases h),J8⟩
      ·go_wp2;go_meet;exact⟨_,rfl,(fun _=>⟨hx7.1,hx7.2,by trivial⟩),J8⟩
  obtain⟨r,rfl,hr,hb4⟩:=hcut;obtain⟨w4,rfl⟩:=again wc;have Dc:=IK.kp hb4;have hL4:=hL3.up IK hq.out hbq.out hb4;have Po:=LX.trans (hb4.mono hB3);have TB:=AB h0 hb4;have hB4:B<=w4.heap.size:=AX hB3 hb4.size;cases r;rotate_left
  ·go_wp2;go_ret2;exact⟨ABJ (by decide),Po⟩
  obtain⟨ZJ,hl2,hnm⟩:=hr rfl;replace hnm:=Wx hnm;have Qj:(2:Int)<=l.length:=by omega
  go_upto_region 29 with fail;go_cut[13,14]from 166 to 171 (fun v x wx=>∃(al:List Ag) (F1:List Nat) (pa:Option Addr) (m1 ca:Nat) (b1:Bool),v=.slice pa m1 ca/\x=.bool b1/\Hid (b1=true->AZ wx w4.heap.size 77 3 (al.map Ls) (.slice pa m1 ca) F1/\F1.Nodup/\Az al/\al.length<=10000000)/\AA6 w4 wx)
  ·by_cases hc2:c=2;subst hc2;have hT:=hl.tail (k:=2) (m:=0) (b:=a) (by omega) (by omega) (fun _=>by omega);rw[show l.length-2=0 by omega]at hT;rotate_left;have hT:=hl.tail (k:=2) (m:=c-2) (b:=⟨a.block,a.off+2,none⟩) (by omega) (by omega) (fun _=>by simp[Addr.add]);all_goals
    have hA:=FT TB hT (hz.drop 2) true;go_wp2_with fail;refine hA.mono ?_;rintro e w5 ⟨⟨v1,b1,al,F1,rfl,⟨pa,m1,ca,rfl⟩,h1⟩,hb5⟩;replace h1:=Wx h1;go_wp2;go_meet
    ·exact⟨al,F1,pa,m1,ca,b1,rfl,rfl,Wx fun e=>by
     obtain⟨k1,k2,k3,k4⟩:=h1.out e
     exact⟨k2,k3,k4,by rw[k1];have:=(hz.drop 2).1;exact this⟩,hb5⟩
  obtain⟨al,F1,pa,m1,ca,b1,rfl,rfl,h1,hb5⟩:=hcut;obtain⟨w5,rfl⟩:=again wc;have CS:=Dc.kp hb5;have hL5:=hL4.up Dc hq.out hbq.out hb5;have Za:=Po.trans (hb5.mono hB4);have Ku:=AB TB hb5;have ZC:B<=w5.heap.size:=AX hB4 hb5.size;have hN4:N<=w4.heap.size:=Dc.own.sz;cases b1
  ·go_wp2;go_ret2;exact⟨ABJ (by decide),Za⟩
  obtain⟨k2,k3,k4,k5⟩:=h1.out rfl;obtain rfl:m1=al.length:=by
   obtain⟨_,_,e⟩:=k2.slice;rw[List.length_map]at e;exact(Value.slice.inj e).2.1
  obtain⟨cr,x,hcs⟩:∃cr x,b.cs=cr++[x]:=by
   obtain⟨fr',f',br',b',cr,x,e1,e2,e3⟩:=CS.ss.i ZJ (by omega);rw[hq.out]at e1;obtain⟨rfl,h⟩:=List.append_inj' e1 rfl;obtain rfl:f=f':=(by simpa using h);rw[hbq.out]at e2;obtain⟨rfl,h⟩:=List.append_inj' e2 rfl;obtain rfl:b=b':=(by simpa using h);exact⟨cr,x,e3⟩
  obtain⟨IB,Nv,pY⟩:=hL5.oH hcs;obtain⟨ni,hni⟩:∃ni,ni=cr.length+1:=⟨_,rfl⟩;have lcI:w5.cell? ⟨BB,br.length*9+2,none⟩=some (.slice (some ⟨IB,0,none⟩) ni Nv):=by rw[hni];exact pY.lc
  have hqc:=GU.last.2.2.1;rw[hcs]at hqc;have Z0:=hqc.1;rw[List.length_append,List.length_singleton]at Z0;have hmx:(ni:Int)-1=(cr.length:Int):=by omega
  have ADq:(cr.length:Int)<ni:=by omega
  have ADp:cr.length<ni:=by omega
  have hmr:=wrN (n:=cr.length) (by omega);obtain⟨F2,vc,xs,⟨hc,hox,⟨pc,cc,rfl⟩,hsp,-⟩,hF2⟩:=pY.lo;replace hni:=Wx hni;replace hcs:=Wx hcs;go_wp2;refine AO (S:=fun _ v=>AA6 w5 v) rfl (by kernel_rfl) Ac ?_;iterate 12((apply Ab.z rfl;intro L w1 _ _ _ z hK;(have c1:=AA z.s lcI);go_simp;exact hK (z.s);rfl))
  refine Ab.nil fun w6 H6=>?_;have cV:=AA H6 hc;have Qi:=D8 (x.ob.length:Int) 99 w6;go_wp2_with fail;refine Qi.mono ?_;rintro e w7 ⟨⟨lim,rfl,-⟩,rfl⟩;have GZ:AA6 w5 w6.drew:=AB H6 Ac;have BO:=CS.kp GZ;have hc6:=AA GZ hc;have Pj:=Dh hox GZ (AQ);have qO:=hsp.kp (GZ.mono CS.own.sz);have hIT:=DC.nx pY.lt GZ;have C8:1<l.length:=by omega
  have Fw:(1:Int)<l.length:=by omega
  obtain⟨s1,hg,hz1,d1⟩:=EN hl C8 hz;have hag:a.block<B:=A9 (World.block_lt_of_cell? _ ⟨a.block,a.off+1,none⟩ d1) hB;replace d1:=AA (AB Ku GZ) d1;have Qo:=own_ne Pj hIT (by decide);have DT:=Ed Pj hag;have hsz:B<=w6.drew.heap.size:=AX ZC GZ.size;have AAb:x.ob.length<=k:=hqc.last.2.2.2.2.2.1;have hkk:=BO.kk;have kd:=k2.same (w':=w6.drew) fun b hb=>GZ.block b (k2.fp b hb).2;have hx:=hqc.last;go_wp2;refine AV (S:=Ad w6.drew B 238 2 10 11 14 [.string s1,.slice pa al.length ca] x.ob.length xs (.slice pc x.ob.length cc) ⟨IB,cr.length*6+5,none⟩) rfl (by kernel_rfl) (Ad.start (AL)) ?_;iterate 10((apply AU.z rfl;intro V L w1 _ _ _ z hK;(try(have hs:=z.f 14 (by kernel_rfl);(have c1:=z.s.cellOf hs hc6 Qo;have c2:=z.s.cellOf hs (show w6.drew.cell? ⟨a.block,a.off+1,none⟩=some (.string s1)from d1) DT)));go_simp;exact hK (z.s.keep rfl rfl rfl);intros;rfl))
  (apply AU.w rfl;intro V L w1 _ _ _ z hK;go_simp;exact hK rfl (z.s.made (z.o 11 (by kernel_rfl)) rfl _);(try simp only[pE]));(refine AU.free (fun _=>rfl) (fun V L w1 _ _ hS hi hR hd hK=>hS.go hi (hR.out (14) _ (by kernel_rfl) hi) (hd.out (10) (by kernel_rfl)) (AAB) (underlying131) (Pj) rfl rfl rfl rfl rfl rfl (by decide) (by simp[Value.oneCell']) (by unfold maxLen;omega) fun v' w' h=>hK.out _ _ rfl h) ?_;(try simp only[pE]));iterate 2((apply AU.z rfl;intro V L w1 _ _ _ z hK;(try(have hs:=z.f 14 (by kernel_rfl);(have c1:=z.s.cellOf hs hc6 Qo;have c2:=z.s.cellOf hs (show w6.drew.cell? ⟨a.block,a.off+1,none⟩=some (.string s1)from d1) DT)));go_simp;exact hK (z.s.keep rfl rfl rfl);intros;rfl))
  (apply AU.val undef (fun _=>rfl);intro V L w1 _ _ hS hi hR hd hK;have ha:=hd.out (11) (by kernel_rfl);(have cs:=hS.cellOf hi hc6 Qo;have fs:=hS.EA hi (o:=cr.length*6+5) hIT.lt (hIT.Bw _) Qo);have hS2:=hS.stored ha hi rfl;obtain⟨pu,ku,CX⟩:=hS.val ha;rw[CX]at hS2;simp only[CX];go_simp;exact hK.out _ _ (by simp only[CX];rfl) hS2;simp only[Act.put]);refine AU.nil fun V w8 hS=>?_;obtain⟨E8,Bp⟩:=hS.Yq (d:=nQ ⟨s1,al⟩) (q':={q with fs:=fr++[{f with bs:=br++[{b with cs:=cr++[{x with ob:=x.ob++[⟨s1,al⟩]}]}]}]}) rfl rfl BO qO hc6 Pj (by simp) (by decide) (fun w1 pb hlow hx=>⟨F1++[],Af.of (AP.cc (hx.c 0 _ rfl) rfl (AP.cr (hx.c 1 _ rfl) (AZ.mono hN4 (kd.same fun b hb=>hlow.block b (kd.fp b hb).2)) AP.cn)),by simpa using k3⟩) rfl rfl (by rw[<-hF2,List.map_append];rfl) ⟨BO.qq.1.up (Aa) fun _ h=>QW.up (Aa) h,BO.qq.2.1.up (Aa) fun _ h=>h,BO.qq.2.2.1.up (Aa) fun _ h=>h,Da.turn (Aa) (fun _ h=>QV.up (Aa) h) ⟨Da.last.1,Da.last.2.1,Da.last.2.2.1.up (Aa) fun _ h=>h,Da.last.2.2.2.1.up (Aa) fun _ h=>h,GU.turn (Aa) (fun _ h=>WI.up (Aa) h) ⟨GU.last.1,GU.last.2.1.up (Aa) fun _ h=>h,hqc.turn (Aa) (fun _ h=>gG.up (Aa) h) ⟨hx.1,hx.2.1,hx.2.2.1,hx.2.2.2.1,hx.2.2.2.2.1.up (Aa) fun _ h=>h,hx.2.2.2.2.2.snoc (fun _ h=>h) ⟨hz1,k5,k4⟩⟩,GU.last.2.2.2⟩⟩⟩ ⟨BO.ss.r,BO.ss.c,(fun _=>by simp),(fun _ _=>⟨fr,_,br,_,rfl,rfl⟩),fun _ _=>⟨fr,_,br,_,cr,_,rfl,rfl,rfl⟩⟩ hk;have J9:=(Za.trans (GZ.mono ZC)).trans Bp;have cw:=E8.cw;have f5:=E8.Bw 5;have TN:=E8.setW 8 ⟨by omega,(fun h=>absurd h (by decide)),(fun _=>by simp),(fun _ _=>⟨fr,_,br,_,rfl,rfl⟩),fun _ _=>⟨fr,_,br,_,cr,_,rfl,rfl,rfl⟩⟩;have Wt:=J9.trans (E8.low (.int .i64 8) 5);go_wp2;go_ret2;exact⟨⟨_,_,rfl,(fun _ _=>⟨_,_,_,_,TN⟩),fun h=>by cases h⟩,Wt⟩
 all_goals
  have hE:=fI h0 IK hB hk hl hz hp hq.out hbq.out hL3;go_wp2_with fail;refine hE.mono ?_;rintro e w4 ⟨⟨why,rfl,hy⟩,hb4⟩;go_wp2;go_ret2;exact⟨⟨_,_,rfl,(fun _ h=>hy h),fun h=>by cases h⟩,LX.trans hb4⟩
end
section
open Word Num Dp
theorem Ct.ADM(h:Ct w B N R q wh lg k):Ct (w.setCell ⟨R,0,none⟩ (.bool true)) B N R {q with ssa:=true} wh lg k:=by
 have s0:=h.own.spot;unfold IL at s0;have s1:=s0.nth 0 rfl rfl;unfold Qk at s1;have s2:=s1.nth 0 rfl rfl;obtain⟨cur,ht⟩:=h.typ;exact⟨s2.set1 (v1:=.bool true) rfl,Ew ht _ _,h.qq,⟨h.ss.r,h.ss.c,h.ss.f,h.ss.b,h.ss.i⟩,h.kk,h.ll⟩
theorem QF{why:Int}(hk:k+2<=5000000)(hy:why=0->∃N q wh lg,Ct w' B N R q wh lg (k+1)):Wy B R (k+1) (.returned (.int .i64 why)) w':=⟨_,rfl,fun h=>by
 obtain⟨N,q,wh,lg,h⟩:=hy h
 exact⟨N,q,wh,lg,h.up hk⟩⟩
theorem dh(h0:AA6 w0 w)(hW:Words w0)(hR:Ct w B N R q wh lg k)(hB:w0.heap.size<=B)(hk:k+2<=5000000)(hl:Row DL 1 w0 u l)(hz:Wz l)(hp:0<l.length)(fi:Bool):Calls prog 168 #[.pointer (some ⟨R,0,none⟩),u,.bool fi] w fun e w'=>Wy B R (k+1) e w'/\Below B w w':=by
 obtain⟨p,c,rfl⟩:=hl.slice;obtain⟨a,rfl,-⟩:=CV hl hp;have hBw:B<=w.heap.size:=by have:=hR.own.ge;have:=hR.lt;omega
 have PV:(0:Int)<l.length:=by omega
 have d0:=AA h0 (Bg hl hp);have hC:∀W,AA6 w W->Calls prog 212 #[.pointer (some ⟨R,0,none⟩),.slice (some a) l.length c] W fun e w'=>Wy B R (k+1) e w'/\Below B W w':=fun W hb=>Xl (AB h0 hb) hW (hR.kp hb) hB hk hl hz hp;go_enter func168,ntmps168;go_upto_region 1 with fail;go_cut[17]from 9 to 16 (fun v wx=>∃r:Bool,v=.bool r/\wx=w)
 ·cases h2:decide ((2:Int)<(l.length:Int))with
  |false=>
   have Qj:=CJ h2;have LQ:¬2<l.length:=(by omega);go_wp2;go_meet
   exact⟨_,rfl,rfl⟩
  |true=>
   have Qj:=BK h2;have LQ:2<l.length:=(by omega);have C8:0+1<l.length:=(by omega);have Fw:(1:Int)<l.length:=(by omega);obtain⟨a1,e1,d1⟩:=BQ hl (q:=0) C8;obtain rfl:a=a1:=(by simpa using e1);replace d1:=AA h0 d1;simp only[Nat.zero_add]at d1;generalize l[1]=s1 at*
   cases hs:(s1.toList==[61])with
   |false=>
    go_wp2;go_meet
    exact⟨_,rfl,rfl⟩
   |true=>
    go_wp2;go_meet;exact⟨_,rfl,rfl⟩
 obtain⟨r,rfl,rfl⟩:=hcut;obtain⟨w,rfl⟩:=again wc;cases r;rotate_left
 ·have iL:=hC _ (AL);go_wp2_with fail;refine iL.mono ?_;rintro e w2 ⟨⟨why,rfl,hy⟩,hb2⟩;replace hy:=Wx hy;go_wp2;go_ret;exact⟨⟨_,rfl,hy.out⟩,hb2⟩
 cases hs:(l[0].toList==[115,115,97])with
 |true=>
  have c0:=hR.ssa;have f0:=hR.Bw 0;have hT:=hR.ADM;have hbT:=hR.low (.bool true) 0;generalize l[0]=s0 at*;go_upto_region 4 with fail;go_cut[31]from 25 to 30 (fun v wx=>∃r:Bool,v=.bool r/\wx=w)
  ·cases fi
   ·go_wp2;go_meet;exact⟨_,rfl,rfl⟩
   ·cases h1:((l.length:Int) !=1)with
    |true=>
     go_wp2;go_meet
     exact⟨_,rfl,rfl⟩
    |false=>
     go_wp2;go_meet;exact⟨_,rfl,rfl⟩
  obtain⟨r,rfl,rfl⟩:=hcut;obtain⟨w,rfl⟩:=again wc;cases r;rotate_left
  ·go_wp2;go_ret;exact⟨⟨_,rfl,fun h=>absurd h (by decide)⟩,AL⟩
  go_wp2;go_ret
  exact⟨⟨_,rfl,fun _=>⟨_,_,_,_,(hT.up (by omega)).up hk⟩⟩,hbT⟩
 |false=>
 have hH:=eX h0 hR hB (by omega) hl hz hp;have hP:∀W,AA6 w W->Calls prog 214 #[.pointer (some ⟨R,0,none⟩),.slice (some a) l.length c] W fun e w'=>Gb W B R k e w'/\Below B W w':=fun W hb=>dH (AB h0 hb) (hR.kp hb) hB (by omega) hl hz hp;have hS:∀W,AA6 w W->Calls prog 215 #[.pointer (some ⟨R,0,none⟩),.slice (some a) l.length c] W fun e w'=>Gb W B R k e w'/\Below B W w':=fun W hb=>XR (AB h0 hb) (hR.kp hb) hB (by omega) hl hz hp;generalize l[0]=s0 at*;go_wp2_with fail;refine hH.mono ?_;rintro e w2 ⟨⟨b,why,rfl,hy,hn⟩,hb2⟩;cases b;rotate_left
 ·replace hy:=Wx (hy rfl);go_wp2;go_ret;exact⟨QF hk hy.out,hb2⟩
 have hn2:=hn rfl;have hP1:=hP _ hn2;go_wp2_with fail;refine hP1.mono ?_;rintro e w3 ⟨⟨b,AJA,rfl,hy,hn⟩,hb3⟩;have Db:=hn2.mono hBw;cases b;rotate_left
 ·replace hy:=Wx (hy rfl);go_wp2;go_ret;exact⟨QF hk hy.out,Db.trans hb3⟩
 have QY:=AB hn2 (hn rfl);have hS1:=hS _ QY;go_wp2_with fail;refine hS1.mono ?_;rintro e w4 ⟨⟨b,AI9,rfl,hy,hn⟩,hb4⟩;have Db:=QY.mono hBw;cases b;rotate_left
 ·replace hy:=Wx (hy rfl);go_wp2;go_ret;exact⟨QF hk hy.out,Db.trans hb4⟩
 have iH:=AB QY (hn rfl);have iL:=hC _ iH;go_wp2_with fail;refine iL.mono ?_;rintro e w5 ⟨⟨AI8,rfl,hy⟩,hb5⟩;replace hy:=Wx hy;go_wp2;go_ret;exact⟨⟨_,rfl,hy.out⟩,(iH.mono hBw).trans hb5⟩
end
section
open Word Num Dp
theorem GA{fn:Func}{p t u:Tmp}{ty:TypeId}(h:fn.results=#[.cell p ty,.tmp t,.tmp u])(tmps:Array Value)(P:Program)(w:World):(results fn tmps).run P w=((asAddr (tmps.getD p undef)).run P w).andThen fun a w₁=>((loadVar ty a).run P w₁).andThen fun v w₂=> .ok (.tuple #[v,tmps.getD t undef,tmps.getD u undef]) w₂:=by
 simp only[results,h];simp
structure FI(W:World)(p i:Nat)(zp cp:List Value)(L:Nat->Bool)(w:World):Prop where
 b:Below p W w
 k:∀r:Nat,r≠p->w.heap[r]? =W.heap[r]?
 x:Ae w p (if L i=true then cp else zp)
section
variable {W w w' : World} {p i : Nat} {zp cp : List Value} {L : Nat -> Bool}
theorem FI.start(b:Below p W w)(k:∀r:Nat,w.heap[r]? =W.heap[r]?)(hx:Ae w p zp):FI W p i zp cp (fun _=>false) w:=⟨b,fun r _=>k r,hx⟩
theorem FI.keep(h:FI W p i zp cp L w){m:Nat}(h1:(i==m)=false):FI W p i zp cp (upd L m) w:=⟨h.b,h.k,by rw[upd_ne h1];exact h.x⟩
theorem FI.cell(h:FI W p i zp cp L w){a:Addr}{v:Value}(hc:W.cell? a=some v)(h1:a.block≠p):w.cell? a=some v:=by
 rw[World.cell?_of_block (w:=W) (w':=w) (a:=a) (h.k a.block h1)];exact hc
theorem FI.px(h:FI W p i zp cp L w)(hi:L i=false):Ae w p zp:=by have:=h.x;rw[hi]at this;exact this
theorem FI.fill(h:FI W p i zp cp L w)(hb:Below p w w')(hk:∀r:Nat,r≠p->w'.heap[r]? =w.heap[r]?)(hx:Ae w' p cp):FI W p i zp cp (upd L i) w':=
 ⟨h.b.trans hb,fun r h1=>(hk r h1).trans (h.k r h1),by rw[Cc];exact hx⟩
theorem FI.done(h:FI W p i zp cp L w)(hi:L i=true):Ae w p cp:=by
 have h1:=h.x;grind
end
def oO(w':World)(e:Ending):Prop:=∃(v:Value) (n why:Int),e=.returned (.tuple #[v,.int .i64 n,.int .i64 why])/\
 (∃(b:Bool) (p1 p2 p3 p4:Option Addr) (n1 c1 n2 c2 n3 c3 n4 c4:Nat),v=.agg #[.bool b,.slice p1 n1 c1,.slice p2 n2 c2,.slice p3 n3 c3,.slice p4 n4 c4])/\
 (why=0->∃(q:Pg) (u1 u2 u3 u4:Value),Cj w' v q u1 u2 u3 u4/\WH 5000000 q)
theorem Mq{n why:Int}(h:why≠0):oO w' (.returned (.tuple #[.agg #[.bool false,.slice none 0 0,.slice none 0 0,.slice none 0 0,.slice none 0 0],.int .i64 n,.int .i64 why])):=
 ⟨_,_,_,rfl,⟨_,_,_,_,_,_,_,_,_,_,_,_,_,rfl⟩,fun e=>absurd e h⟩
theorem kD(w:World):Ct (w.alloc (Obj.cells #[.bool false,.slice none 0 0,.slice none 0 0,.slice none 0 0,.slice none 0 0,.int .i64 0,.int .i64 0] 247)) w.heap.size (w.alloc (Obj.cells #[.bool false,.slice none 0 0,.slice none 0 0,.slice none 0 0,.slice none 0 0,.int .i64 0,.int .i64 0] 247)).heap.size w.heap.size ⟨false,[],[],[],[]⟩ 0 0 0:=
 have hx:=Ae.alloc w [.bool false,.slice none 0 0,.slice none 0 0,.slice none 0 0,.slice none 0 0,.int .i64 0,.int .i64 0] 247
 ⟨⟨AQ,by simp,AQ,_,Af.of (AP.ca (l:=[.cell (.bool false),.row 153 2 [],.row 71 2 [],.row 155 2 [],.row 66 5 []]) (AP.cc (hx.c 0 _ rfl) rfl (AP.cr (l:=[]) (hx.c 1 _ rfl) AZ.nil (AP.cr (l:=[]) (hx.c 2 _ rfl) AZ.nil (AP.cr (l:=[]) (hx.c 3 _ rfl) AZ.nil (AP.cr (l:=[]) (hx.c 4 _ rfl) AZ.nil AP.cn))))) (AP.cc (hx.c 5 _ rfl) rfl (AP.cc (hx.c 6 _ rfl) rfl AP.cn))),by simp,by simp⟩,
  ⟨_,heap_alloc_new w _⟩,⟨Rw.nil,Rw.nil,Rw.nil,Rw.nil⟩,⟨⟨by decide,by decide⟩,(fun h=>absurd h (by decide)),(fun h=>absurd h (by decide)),(fun h=>absurd h (by decide)),fun h=>absurd h (by decide)⟩,by decide,⟨by decide,by decide⟩⟩
theorem Ct.prog(h:Ct w B N R q wh lg k)(hk:∀b,B<=b->w'.heap[b]? =w.heap[b]?):∃u1 u2 u3 u4,w.cell? ⟨R,0,none⟩=some (.bool q.ssa)/\w.cell? ⟨R,1,none⟩=some u1/\w.cell? ⟨R,2,none⟩=some u2/\w.cell? ⟨R,3,none⟩=some u3/\w.cell? ⟨R,4,none⟩=some u4/\Cj w' (.agg #[.bool q.ssa,u1,u2,u3,u4]) q u1 u2 u3 u4:=by
 obtain⟨fp,hL,-,-⟩:=h.own.t
 have hL':=hL.far (w1:=w') fun b hb=>hk b (by
  rcases hb with rfl|hb
  ·exact h.own.ge
  ·exact(hL.fp b hb).1)
 unfold IL at hL';obtain⟨_,_,h1,-⟩:=hL'.l.hd;obtain⟨u1,u2,u3,u4,c0,c1,c2,c3,c4,hv⟩:=vP (h.qq.o (AX h.kk (by decide))) h1;simp only[Nat.zero_add]at c1 c2 c3 c4;have e:∀i,w'.cell? ⟨R,i,none⟩=w.cell? ⟨R,i,none⟩:=fun i=>World.cell?_of_block (w:=w) (w':=w') (a:=⟨R,i,none⟩) (hk R h.own.ge);grind
theorem sM{rb:Nat}{b:Bool}{t:TypeId}(h:w.heap[rb]? =some (.cells #[.bool b,.slice none 0 0,.slice none 0 0,.slice none 0 0,.slice none 0 0] t (0,0))){a:Addr}{n:Int}(hc:w.cell? a=some (.int .i64 n)):a.block≠rb:=fun e=>by
 unfold World.cell? at hc;rw[e,h]at hc;dsimp only at hc;split at hc
 ·cases hc
 ·have:=Array.mem_of_getElem? hc;simp at this
theorem Xv(s:ByteArray)(hs:s.size<=1000000)(hW:Words w):Calls prog 122 #[.string s] w fun e w'=>oO w' e/\AA6 w w':=by
 have hal:=AJ w (.cells #[.bool false,.slice none 0 0,.slice none 0 0,.slice none 0 0,.slice none 0 0] 27);have hX:=Ae.alloc w [.bool false,.slice none 0 0,.slice none 0 0,.slice none 0 0,.slice none 0 0] 27;have hW1:=hW.kp hal;have hH:=heap_alloc_new w (.cells #[.bool false,.slice none 0 0,.slice none 0 0,.slice none 0 0,.slice none 0 0] 27);go_enter func122,ntmps122;go_upto_region 1 with fail;obtain⟨rb,hrb⟩:∃rb,w.heap.size=rb:=⟨_,rfl⟩;rw[hrb]at hal hX hH⊢;generalize Cr:w.alloc _=W1 at*;have hS:=Uc s hs W1;go_wp2_with fail;refine hS.mono ?_;rintro e w2 ⟨hb2,v,n,why,rfl,hy⟩;have hX2:=hX.nx hb2;have hW2:=hW1.kp hb2;have hlt2:=hX2.lt;have hH2:=(hb2.block rb hX.lt).trans hH;have hb:=hal.trans (hb2.mono (Nat.le_of_lt hX.lt))
 cases VK:(why !=0)with
 |true=>
  have hne:why≠0:=by simpa using VK
  obtain⟨x0,x1,x2,x3,x4⟩:=hX2.c5;obtain⟨f0,f1,f2,f3,f4⟩:=hX2.f5;have hbe:=hb.trans (Ay (Nat.le_refl rb) [.bool false,.slice none 0 0,.slice none 0 0,.slice none 0 0,.slice none 0 0] 0 w2);replace hne:=Wx hne;go_wp2;((try simp only[Exit.inBlock,Exit.then]);refine bodyPost_ret_by (v:=(.tuple #[.agg #[.bool false,.slice none 0 0,.slice none 0 0,.slice none 0 0,.slice none 0 0],.int .i64 n,.int .i64 why])) ((GA rfl _ _ _).trans (by go_simp;try rfl)) rfl ?_)
  exact⟨Mq hne.out,ABD hrb hbe⟩
 |false=>
 obtain rfl:why=0:=by simpa using VK
 obtain⟨L,hL,hLn,hLx⟩:=hy rfl;obtain⟨p,c,rfl⟩:=hL.slice;have hR:=kD w2;go_wp2;generalize Cr:w2.alloc _=W3 at*;obtain⟨hal,-⟩:=ng Cr;go_loopw[7,9] (fun y i wr=>∃(j:Nat) (y0:Int) (N:Nat) (q:Pg) (wh lg:Int),j<=L.length/\i=.int .i64 (j:Int)/\y=.int .i64 y0/\Ct wr w2.heap.size N w2.heap.size q wh lg (2*j)/\AA6 w2 wr) (fun _ i _=>L.length-(intOf i).toNat);exact⟨0,_,_,_,_,_,AY,rfl,rfl,hR,hal⟩;obtain⟨j,y0,N,q,wh,lg,hj,rfl,rfl,hR,hbr⟩:=hrel;have hXr:=hX2.below hlt2 hbr;have hb4:=hb.trans (hbr.mono (Nat.le_of_lt hlt2));by_cases hend:j=L.length
 ·subst hend;have hO:=Ey hR;obtain⟨x0,x1,x2,x3,x4⟩:=hXr.c5;obtain⟨f0,f1,f2,f3,f4⟩:=hXr.f5;go_wp2_with fail;refine hO.mono ?_;rintro e w5 ⟨⟨b,rfl,-⟩,rfl⟩;cases b
  ·have hbe:=hb4.trans (Ay (Nat.le_refl rb) [.bool false,.slice none 0 0,.slice none 0 0,.slice none 0 0,.slice none 0 0] 0 wr);go_wp2;((try simp only[Exit.inBlock,Exit.then]);refine bodyPost_ret_by (v:=(.tuple #[.agg #[.bool false,.slice none 0 0,.slice none 0 0,.slice none 0 0,.slice none 0 0],.int .i64 0,.int .i64 3])) ((GA rfl _ _ _).trans (by go_simp;try rfl)) rfl ?_);exact⟨Mq (by decide),ABD hrb hbe⟩
  ·obtain⟨v1,v2,v3,v4,c0,c1,c2,c3,c4,hv⟩:=hR.prog (w':=wr) fun _ _=>rfl;obtain⟨_,hv1,hv2,hv3,hv4⟩:=hv;obtain⟨p1,k1,rfl⟩:=hv1.slice;obtain⟨p2,k2,rfl⟩:=hv2.slice;obtain⟨p3,k3,rfl⟩:=hv3.slice;obtain⟨p4,k4,rfl⟩:=hv4.slice;have hbe:=hb4.trans (Ay (Nat.le_refl rb) [.bool q.ssa,.slice p1 q.cs.length k1,.slice p2 q.gs.length k2,.slice p3 q.xs.length k3,.slice p4 q.fs.length k4] 0 wr);obtain⟨u1,u2,u3,u4,d0,d1,d2,d3,d4,hu⟩:=hR.prog (w':=BZ wr rb 0 [.bool q.ssa,.slice p1 q.cs.length k1,.slice p2 q.gs.length k2,.slice p3 q.xs.length k3,.slice p4 q.fs.length k4]) fun b hb=>Bu (by omega) _ _ _;obtain rfl:u1=.slice p1 q.cs.length k1:=(by rw[c1]at d1;exact(Option.some.inj d1).symm);obtain rfl:u2=.slice p2 q.gs.length k2:=(by rw[c2]at d2;exact(Option.some.inj d2).symm);obtain rfl:u3=.slice p3 q.xs.length k3:=(by rw[c3]at d3;exact(Option.some.inj d3).symm);obtain rfl:u4=.slice p4 q.fs.length k4:=(by rw[c4]at d4;exact(Option.some.inj d4).symm);have hq:WH 5000000 q:=WH.up hR.kk hR.qq;go_wp2;((try simp only[Exit.inBlock,Exit.then]);refine bodyPost_ret_by (v:=(.tuple #[.agg #[.bool q.ssa,.slice p1 q.cs.length k1,.slice p2 q.gs.length k2,.slice p3 q.xs.length k3,.slice p4 q.fs.length k4],.int .i64 0,.int .i64 0])) ((GA rfl _ _ _).trans (by go_simp;try rfl)) rfl ?_);exact⟨⟨_,_,_,rfl,⟨_,_,_,_,_,_,_,_,_,_,_,_,_,rfl⟩,fun _=>⟨q,_,_,_,_,hu,hq⟩⟩,ABD hrb hbe⟩
 ·have hlt:j<L.length:=by omega
  have A8:(j:Int)<L.length:=by omega
  obtain⟨_,_,e,-,⟨hn1,-⟩,hat⟩:=hL;obtain⟨rfl,-,rfl⟩:=Value.slice.inj e;obtain⟨a,rfl,g0,u,g1,hu⟩:=hat j L[j] (by simp[hlt]);obtain⟨hx1,hx2⟩:=hLx L[j] (List.getElem_mem hlt);have AEc:∀fi,Calls prog 168 #[.pointer (some ⟨w2.heap.size,0,none⟩),u,.bool fi] wr fun e w'=>Wy w2.heap.size w2.heap.size (2*j+1) e w'/\Below w2.heap.size wr w':=fun fi=>
   dh hbr hW2 hR (AQ) (by omega) hu hx2 (List.length_pos_iff.2 hx1) fi
  have hna:=sM hH2 g0;have g2:=g0;replace g0:=AA hbr g0;replace g1:=AA hbr g1;generalize L[j].n=ln at*;go_wp2_with fail;refine(AEc _).mono ?_;rintro e w5 ⟨⟨why,rfl,hy⟩,hb5⟩;have jG:AA6 w2 w5:=hbr.trans hb5
  cases VK:(why !=0)with
  |true=>
   have hne:why≠0:=(by simpa using VK);have WO:=hX2.below hlt2 jG;have hb5:=hb.trans (jG.mono (Nat.le_of_lt hlt2));replace g2:=AA jG g2;replace hne:=Wx hne;go_wp2;refine AO (S:=FI w5 rb 7 [.bool false,.slice none 0 0,.slice none 0 0,.slice none 0 0,.slice none 0 0] [.bool false,.slice none 0 0,.slice none 0 0,.slice none 0 0,.slice none 0 0]) rfl (by kernel_rfl) (FI.start Ac (fun _=>rfl) WO.drew) ?_;(iterate 7((apply Ab.z rfl;intro L w1 _ _ _ z hK;(have e0:=z.s.cell g2 hna);go_simp;exact hK (z.s.keep rfl);rfl)));(refine Ab.step (a1:=?_) rfl (fun L w1 K' Q' hS hi hR hd hK=>?_) ?_ ?_;rotate_left)
   ·have hx:=hS.px hi;obtain⟨k0,k1,k2,k3,k4⟩:=hx.c5;obtain⟨z0,z1,z2,z3,z4⟩:=hx.f5;go_simp;exact hK.out _ (hS.fill (Ay (AQ) [.bool false,.slice none 0 0,.slice none 0 0,.slice none 0 0,.slice none 0 0] 0 w1) (fun r hr=>Bu hr [.bool false,.slice none 0 0,.slice none 0 0,.slice none 0 0,.slice none 0 0] 0 w1) (CK [.bool false,.slice none 0 0,.slice none 0 0,.slice none 0 0,.slice none 0 0] _ 0 w1 hx rfl))
   ·rfl
   (iterate 2((apply Ab.z rfl;intro L w1 _ _ _ z hK;go_simp;exact hK (z.s.keep rfl);rfl)));refine Ab.nil fun w6 hS=>?_;have Ng:=hS.done rfl;have hbe:=hb5.trans hS.b;obtain⟨x0,x1,x2,x3,x4⟩:=Ng.c5;go_wp2;((try simp only[Exit.inBlock,Exit.then]);refine bodyPost_ret_by (v:=(.tuple #[.agg #[.bool false,.slice none 0 0,.slice none 0 0,.slice none 0 0,.slice none 0 0],.int .i64 ln,.int .i64 why])) ((GA rfl _ _ _).trans (by go_simp;try rfl)) rfl ?_)
   exact⟨Mq hne.out,ABD hrb hbe⟩
  |false=>
   obtain rfl:why=0:=(by simpa using VK);obtain⟨N5,q5,wh5,lg5,CS⟩:=hy rfl;go_wp2;go_roundw;exact⟨j+1,_,_,_,_,_,hlt,by go_num,rfl,by rw[show 2*(j+1)=2*j+1+1 by omega];exact CS,jG⟩;simp[intOf];omega
end
end Go.Proofs.YtlffomedflegdaaGreatDoor
