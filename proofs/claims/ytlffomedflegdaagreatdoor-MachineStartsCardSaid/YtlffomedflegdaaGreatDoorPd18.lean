/- Part 18 of the proof: Si, Rjb, Rjs, Rjy. -/
import Derived.Test.YtlffomedflegdaaGreatDoorPd17
set_option linter.all false
set_option maxHeartbeats 16000000
set_option maxRecDepth 100000
namespace Go.Proofs.YtlffomedflegdaaGreatDoor
open Go.Proofs.Tryz
open Go.RowKit
open Go.Value renaming int→cI,string→cS,slice→cY,bool→cE
open Go.IntKind renaming i64→cJ
open Option renaming some→cP,none→cX
open Bool renaming false→cA,true→cC
variable {f:Fn}{fm:Fm}{l:List ByteArray}{op:Int}{p:Pg}{q:Nat}{u1 u2 u3 v:Value}{w w0:World}{x:Is}{α:Type}
def jU(b:Bk):Prop:=b.ps=[]/\∀x∈b.cs,x.fr=[]/\x.ob=[]
def iP(f:Fn):Prop:=∀(j:Nat) b,f.bs[j]? =cP b->jU b
def AAy(P:Prop)(e:Ending):Prop:=∃b:Bool,e=.returned (cE b)/\(b=cA->P)
theorem Xz(h0:AA6 w0 w)(hf:EL w0 v f u1 u2 u3):Calls prog 68 #[v] w λe w'=>AAy (iP f) e/\AA6 w w':=by
 obtain⟨rfl,-,hp,hv,hb⟩:=hf;obtain⟨p1,k1,rfl⟩:=hp.slice;obtain⟨p2,k2,rfl⟩:=hv.slice;obtain⟨p3,k3,rfl,-,⟨hn0,-⟩,hl⟩:=hb;go_enter func68,ntmps68;go_wp2;generalize Cr:w.alloc _=W at*;obtain⟨hb1,hX⟩:=ng Cr;go_loopw[3] (λi wr=>∃q:Nat,q<=f.bs.length/\i=cI cJ (q:Int)/\Hid (∀(j:Nat) b,j<q->f.bs[j]? =cP b->jU b)/\AA6 W wr) (λi _=>f.bs.length-(intOf i).toNat);exact⟨0,AY,rfl,Wx (λj b h=>absurd h (Nat.not_lt_zero _)),AL⟩;obtain⟨q,hq,rfl,hS,hb⟩:=hrel;have hX1:=hX.nx hb;have hbb:=AB hb1 hb;have x4:=hX1.c 4 _ rfl;by_cases hend:q=f.bs.length
 ·subst hend;have TL:iP f:=λj b h=>hS.out j b (List.getElem?_eq_some_iff.1 h).1 h;replace TL:=Wx TL;go_wp2;go_ret;exact⟨⟨_,rfl,λ_=>TL.out⟩,hbb⟩
 ·have hlt:q<f.bs.length:=by omega
  have A8:(q:Int)<f.bs.length:=by omega
  obtain⟨a,rfl,hA⟩:=hl q f.bs[q] (by simp[hlt]);obtain⟨t1,t2,t3,hI,-,c1,c2,-⟩:=hA.val;obtain⟨-,-,hip,hic,-⟩:=hI;obtain⟨p5,k5,rfl⟩:=hip.slice;obtain⟨p6,k6,rfl,-,⟨hn6,-⟩,hic⟩:=hic;have hk:=AB h0 hbb;replace c1:=AA hk c1;replace c2:=AA hk c2;have hget:f.bs[q]? =cP f.bs[q]:=by simp[hlt]
  have hN:jU f.bs[q]->∀(j:Nat) b,j<q+1->f.bs[j]? =cP b->jU b:=λhs j b hj hjb=>by
   by_cases e:j=q
   ·subst e;rw[hget]at hjb;obtain rfl:=Option.some.inj hjb;exact hs
   ·exact hS.out j b (by omega) hjb
  replace hN:=Wx hN;generalize f.bs[q]=b at*
  cases hd:decide ((0:Int)<(b.ps.length:Int))with
  |true=>
   have pK:=BK hd;have hdN:0<b.ps.length:=(by omega);go_wp2;go_ret
   exact⟨⟨_,rfl,λh=>by cases h⟩,hbb⟩
  |false=>
   have pK:=CJ hd;have hdN:¬0<b.ps.length:=(by omega);have hps:b.ps=[]:=List.length_eq_zero_iff.1 (by omega);replace hps:=Wx hps;obtain⟨wo,rfl⟩:=again wr;go_wp2;go_loopw[4] (λi wr=>∃k:Nat,k<=b.cs.length/\i=cI cJ (k:Int)/\Hid (∀x∈b.cs.take k,x.fr=[]/\x.ob=[])/\AA6 wo wr) (λi _=>b.cs.length-(intOf i).toNat);exact⟨0,AY,rfl,Wx (by simp),AL⟩;obtain⟨k,hkn,rfl,hT,hb2⟩:=hrel;have x4:=AA hb2 x4;have c2:=AA hb2 c2;have hbn:=AB hb hb2;have hbf:=AB hbb hb2;by_cases hend:k=b.cs.length
   ·subst hend;have hSn:=hN.out ⟨hps.out,by have:=hT.out;rw[List.take_length]at this;exact this⟩;replace hSn:=Wx hSn;go_wp2;go_roundw;exact⟨q+1,hlt,by go_num,hSn,hbn⟩;simp[intOf];omega
   ·have hkl:k<b.cs.length:=(by omega);have jB:(k:Int)<b.cs.length:=(by omega);obtain⟨a6,rfl,-,-,-,-,⟨g1,d4,hr4⟩,g2,d5,vD⟩:=hic k b.cs[k] (by simp[hkl]);have hk3:=AB h0 hbf;replace d4:=AA hk3 d4;replace d5:=AA hk3 d5;obtain⟨pf,kf,rfl,-,⟨hnf,-⟩,-⟩:=hr4;obtain⟨po,ko,rfl,-,⟨hno,-⟩,-⟩:=vD;have VL:b.cs[k].fr=[]->b.cs[k].ob=[]->∀x∈b.cs.take (k+1),x.fr=[]/\x.ob=[]:=λh1 h2 x hx=>by
     rw[List.take_succ_eq_append_getElem hkl]at hx;rcases List.mem_append.1 hx with h|h
     ·exact hT.out x h
     ·rw[List.mem_singleton.1 h];exact⟨h1,h2⟩
    replace VL:=Wx VL;generalize b.cs[k].fr=fr at*;generalize b.cs[k].ob=ob at*;have hwr:IntKind.i64.wrap ((fr.length:Int)+(ob.length:Int))=(fr.length:Int)+(ob.length:Int):=IntWalk.i64_in _ (by omega)
    cases hd:decide ((0:Int)<(fr.length:Int)+(ob.length:Int))with
    |true=>
     have pK:=BK hd;go_wp2;refine ALQ (S:=λ_ v=>v=wr.drew) rfl ?_;(iterate 24((apply Ab.z rfl;intro L w1 _ _ _ z hK;have hS:=z.s;(subst hS);go_simp;exact hK (rfl);rfl)));refine Ab.nil λw8 iJ=>?_;subst iJ;go_wp2;go_ret
     exact⟨⟨_,rfl,λh=>by cases h⟩,hbf.drew⟩
    |false=>
     have pK:=CJ hd;have hTk:=VL.out (List.length_eq_zero_iff.1 (by omega)) (List.length_eq_zero_iff.1 (by omega));replace hTk:=Wx hTk;have hb3:=hb2.drew;go_wp2;refine ALQ (S:=λ_ v=>v=wr.drew) rfl ?_;(iterate 24((apply Ab.z rfl;intro L w1 _ _ _ z hK;have hS:=z.s;(subst hS);go_simp;exact hK (rfl);rfl)));refine Ab.nil λw8 iJ=>?_;subst iJ;go_wp2;go_roundw;exact⟨k+1,hkl,by go_num,hTk,hb3⟩;simp[intOf];omega
def uV(e:Ending):Prop:=∃n:Int,e=.returned (cI cJ n)
theorem bQ(h0:AA6 w0 w)(hf:EL w0 v f u1 u2 u3):Calls prog 69 #[v] w λe w'=>uV e/\AA6 w w':=by
 obtain⟨rfl,-,hp,hv,hb⟩:=hf;obtain⟨p1,k1,rfl⟩:=hp.slice;obtain⟨p2,k2,rfl⟩:=hv.slice;obtain⟨p3,k3,rfl,-,⟨hn0,-⟩,hl⟩:=hb;have hb1:=AJ w (.cells #[cS f.n,cS f.r,cY p1 f.ps.length k1,cY p2 f.vs.length k2,cY p3 f.bs.length k3] 66);have hX:=Ae.alloc w [cS f.n,cS f.r,cY p1 f.ps.length k1,cY p2 f.vs.length k2,cY p3 f.bs.length k3] 66;have x4:=hX.c 4 _ rfl;go_enter func69,ntmps69;go_wp2;generalize Cr:w.alloc _=W at*;go_loopw[3,4] (λn i wr=>∃(q:Nat) (k:Int),q<=f.bs.length/\i=cI cJ (q:Int)/\n=cI cJ k/\wr=W) (λ_ i _=>f.bs.length-(intOf i).toNat);exact⟨0,_,AY,rfl,rfl,rfl⟩;obtain⟨q,k,hq,rfl,rfl,rfl⟩:=hrel;by_cases hend:q=f.bs.length
 ·subst hend;go_wp2;go_ret;exact⟨⟨_,rfl⟩,hb1⟩
 ·have hlt:q<f.bs.length:=by omega
  have A8:(q:Int)<f.bs.length:=by omega
  obtain⟨a,rfl,hA⟩:=hl q f.bs[q] (by simp[hlt]);obtain⟨t1,t2,t3,hI,-,-,c2,-⟩:=hA.val;obtain⟨p6,k6,rfl⟩:=hI.c.slice;replace c2:=AA (AB h0 hb1) c2;generalize f.bs[q].cs.length=m at*;go_wp2;go_roundw;exact⟨q+1,_,hlt,by go_num,rfl,trivial⟩;simp[intOf];omega
section
def sN:Option ByteArray->ByteArray
 |some c=>c
 |none=>⟨#[]⟩
def rQ.form{r:Option ByteArray}{e:Ending}(h:rQ r e):e=.returned (.tuple #[cS (sN r),cE r.isSome]):=by
 cases r with
 |none=>exact h
 |some c=>exact h.1
def LD(h:BH op=cP fm):fm.m<=8:=by
 unfold BH at h;by_cases c:1<=op/\op<=21
 ·rw[if_pos c]at h;injection h with h;subst h;decide
 rw[if_neg c]at h;by_cases c:22<=op/\op<=24
 ·rw[if_pos c]at h;injection h with h;subst h;decide
 rw[if_neg c]at h;by_cases c:op=25
 ·rw[if_pos c]at h;injection h with h;subst h;decide
 rw[if_neg c]at h;by_cases c:op=26
 ·rw[if_pos c]at h;injection h with h;subst h;decide
 rw[if_neg c]at h;by_cases c:op=27
 ·rw[if_pos c]at h;injection h with h;subst h;decide
 rw[if_neg c]at h;by_cases c:op=28
 ·rw[if_pos c]at h;injection h with h;subst h;decide
 rw[if_neg c]at h;by_cases c:op=29
 ·rw[if_pos c]at h;injection h with h;subst h;decide
 rw[if_neg c]at h;by_cases c:op=30
 ·rw[if_pos c]at h;injection h with h;subst h;decide
 rw[if_neg c]at h;by_cases c:op=31
 ·rw[if_pos c]at h;injection h with h;subst h;decide
 rw[if_neg c]at h;by_cases c:op=32
 ·rw[if_pos c]at h;injection h with h;subst h;decide
 rw[if_neg c]at h;by_cases c:op=33
 ·rw[if_pos c]at h;injection h with h;subst h;decide
 rw[if_neg c]at h;by_cases c:op=34
 ·rw[if_pos c]at h;injection h with h;subst h;decide
 rw[if_neg c]at h;cases h
def Xx{w':World}{B:Nat}{e:TypeId}{s:Nat}{n:Nat}{xs:List Value}{C:Nat}(h:w.ownsRow B e s v n xs)(hb:Below C w w')(hC:w.heap.size<=C):w'.ownsRow B e s v n xs:=World.ownsRow.kept h (Ez hb hC) (by cases v.ownBlock<;>simp)
def Kj{nm:α->ByteArray}{x:ByteArray}{c:α}:∀{l:List α},Ai nm x l=cP c->c∈l
 | [],h=>by cases h
 |y::r,h=>by
  unfold Ai at h;split at h
  ·injection h with h;subst h;exact List.mem_cons_self
  ·exact List.mem_cons_of_mem _ (Kj h)
theorem jg{vf g1 g2 g3:Value}(hf:EL w vf f g1 g2 g3){a:Ag}{t:ByteArray}(h:GJ f a=cP t):Sz t:=by
 unfold GJ at h;split at h
 ·cases hv:varOf f a.s with
  |none=>rw[hv]at h;cases h
  |some v=>
   rw[hv]at h;injection h with h;subst h;unfold varOf at hv;split at hv
   ·rename_i v' h2
    injection hv with hv;subst hv;exact(hf.p.sz _ (Kj h2)).2
   ·exact(hf.v.sz _ (Kj hv)).2
 ·split at h
  ·injection h with h;subst h;decide
  ·split at h
   ·injection h with h;subst h;decide
   ·split at h
    ·injection h with h;subst h;decide
    ·cases h
theorem Gp{a:ByteArray}(hq:q<l.length)(h:l[q]≠a)(d e:ByteArray):FP l a d e=cA:=by
 unfold FP;rw[Bool.and_eq_false_iff];left;rw[List.all_eq_false];exact⟨l[q],by simp,by simpa using h⟩
theorem Gn{a:ByteArray}(h:∀q,(hq:q<l.length)->l[q]=a)(d e:ByteArray):FP l a d e=decide (d=e):=by
 unfold FP
 rw[List.all_eq_true.2 (λt ht=>by
  obtain⟨q,hq,rfl⟩:=List.getElem_of_mem ht
  simpa using h q hq),Bool.true_and]
def NP{nm:α->ByteArray}{x:ByteArray}{c:α}:∀{l:List α},Ai nm x l=cP c->nm c=x
 | [],h=>by cases h
 |y::r,h=>by
  unfold Ai at h;split at h
  ·rename_i e
   injection h with h;subst h;exact e
  ·exact NP h
def Zv{s:ByteArray}{l:List UInt8}:(s.toList==l)=decide (s=⟨l.toArray⟩):=by
 by_cases h:s=⟨l.toArray⟩
 ·rw[decide_eq_true h,FE h]
 ·rw[decide_eq_false h,D9 h]
def zV{s t:ByteArray}:(s.toList==t.toList)=decide (s=t):=by
 by_cases h:s=t
 ·rw[decide_eq_true h,EZ h]
 ·rw[decide_eq_false h,Ea h]
def dP(h:BH op=cP fm):(1<=op/\op<=14)\/(15<=op/\op<=18)\/(19<=op/\op<=21)\/op=22\/op=23\/op=24\/op=25\/op=26\/op=27\/op=28\/op=29\/op=30\/op=31\/op=32\/op=33\/op=34:=by
 have h1:¬(op<1\/34<op):=λh1=>by rw[JZ h1]at h;cases h
 omega
theorem JY(h:BH op=cP fm)(h1:1<=op)(h2:op<=21):fm=⟨cC,cA,2,2⟩:=by
 unfold BH at h;rw[if_pos ⟨h1,h2⟩]at h;exact(Option.some.inj h).symm
theorem Bh{k:Int}{fm2:Fm}(hk:op=k)(h:BH op=cP fm)(h2:BH k=cP fm2):fm=fm2:=by
 rw[hk,h2]at h;exact(Option.some.inj h).symm
section
variable {p : Pg} {x : Is} {d : ByteArray} {l : List ByteArray}
theorem ADS(h:1<=x.op/\x.op<=14):Av p x d l=FP l BA d BA:=by
 unfold Av BX;rw[if_pos h.2]
theorem AAA(h:15<=x.op/\x.op<=18):Av p x d l=FP l Ao d Ao:=by
 unfold Av BX;rw[if_neg (by omega),if_pos h.2]
theorem zy(h:19<=x.op/\x.op<=21):Av p x d l=FP l Ao d BA:=by
 unfold Av BX;rw[if_neg (by omega),if_neg (by omega),if_pos h.2]
theorem zx(h:x.op=22):Av p x d l=FP l BA d Ao:=by
 unfold Av BX;iterate 3 rw[if_neg (by omega)]
 rw[if_pos h]
theorem zw(h:x.op=23):Av p x d l=FP l Ao d BA:=by
 unfold Av BX;iterate 4 rw[if_neg (by omega)]
 rw[if_pos h]
theorem zu(h:x.op=24):Av p x d l=Du (l[0]?.getD ⟨#[]⟩) d:=by
 unfold Av BX;iterate 5 rw[if_neg (by omega)]
 rw[if_pos h]
def zo(h:x.op=25):Av p x d l=Kz p x d l:=by
 unfold Av BX;iterate 6 rw[if_neg (by omega)]
 rw[if_pos h]
theorem zn(h:x.op=26):Av p x d l=Ql d (GN p x (x.as[0]?.getD xI) (l[0]?.getD ⟨#[]⟩)):=by
 unfold Av BX;iterate 7 rw[if_neg (by omega)]
 rw[if_pos h]
theorem zm(h:x.op=27):Av p x d l=Td (l[1]?.getD ⟨#[]⟩) (GN p x (x.as[0]?.getD xI) (l[0]?.getD ⟨#[]⟩)):=by
 unfold Av BX;iterate 8 rw[if_neg (by omega)]
 rw[if_pos h]
theorem zl(h:x.op=28):Av p x d l=(decide (d=BA)&&nk (l[0]?.getD ⟨#[]⟩) (l[1]?.getD ⟨#[]⟩)):=by
 unfold Av BX;iterate 9 rw[if_neg (by omega)]
 rw[if_pos h]
def zi(h:x.op=29):Av p x d l=Ia p x d (l[0]?.getD ⟨#[]⟩):=by
 unfold Av BX;iterate 10 rw[if_neg (by omega)]
 rw[if_pos (by omega)]
def zh(h:x.op=30):Av p x d l=Ia p x d (l[0]?.getD ⟨#[]⟩):=by
 unfold Av BX;iterate 10 rw[if_neg (by omega)]
 rw[if_pos (by omega)]
def zf(h:x.op=31):Av p x d l=K5 p x d l:=by
 unfold Av BX;iterate 11 rw[if_neg (by omega)]
 rw[if_pos h]
def ze(h:x.op=32):Av p x d l=Qr p x d l:=by
 unfold Av BX;iterate 12 rw[if_neg (by omega)]
 rw[if_pos h]
theorem za(h:x.op=33):Av p x d l=(!Dq (l[0]?.getD ⟨#[]⟩)):=by
 unfold Av BX;iterate 13 rw[if_neg (by omega)]
 rw[if_pos h]
def zZ(h:x.op=34):Av p x d l=cC:=by
 unfold Av BX;iterate 14 rw[if_neg (by omega)]
end
theorem LB(h:BH x.op=cX):Di p f x=cA:=by
 unfold Di RL;rw[h]
theorem LA(h:BH x.op=cP fm):Di p f x=if(x.as.length:Int)<fm.l\/fm.m<x.as.length then cA else match Ib f x fm with
  |none=>cA
  |some d=>match DU f x.as with
   |none=>cA
   |some l=>Av p x d l:=by
 unfold Di RL;rw[h];dsimp only;by_cases c:(x.as.length:Int)<fm.l\/fm.m<x.as.length
 ·rw[if_pos c,if_pos c]
 ·rw[if_neg c,if_neg c]
  cases Ib f x fm with
  |none=>rfl
  |some d=>
   dsimp only
   cases DU f x.as with
   |none=>rfl
   |some l=>rfl
def wS(op:Int):ByteArray:=if(decide (15<=op)&&decide (op<=21))||(op==23)then Ao else BA
def sS(op:Int):ByteArray:=if(decide (15<=op)&&decide (op<=18))||(op==22)then Ao else BA
def AA8{d:ByteArray}(hO:(1<=x.op/\x.op<=14)\/(15<=x.op/\x.op<=18)\/(19<=x.op/\x.op<=21)\/x.op=22\/x.op=23\/x.op=24\/x.op=25\/x.op=26\/x.op=27\/x.op=28\/x.op=29\/x.op=30\/x.op=31\/x.op=32\/x.op=33\/x.op=34)(h:x.op<24):Av p x d l=FP l (wS x.op) d (sS x.op):=by
 unfold wS sS;rcases(show(1<=x.op/\x.op<=14)\/(15<=x.op/\x.op<=18)\/(19<=x.op/\x.op<=21)\/x.op=22\/x.op=23 by omega)with c|c|c|c|c
 ·rw[ADS c,if_neg (by simp;omega),if_neg (by simp;omega)]
 ·rw[AAA c,if_pos (by simp;omega),if_pos (by simp;omega)]
 ·rw[zy c,if_pos (by simp;omega),if_neg (by simp;omega)]
 ·rw[zx c,if_neg (by simp;omega),if_pos (by simp;omega)]
 ·rw[zw c,if_pos (by simp;omega),if_neg (by simp;omega)]
def ABB(hf:BH op=cP fm)(h:op<24):fm.d=cC:=by
 rcases(show(1<=op/\op<=21)\/op=22\/op=23 by have:=dP hf;omega)with c|c|c
 ·rw[JY hf c.1 c.2]
 ·rw[show fm=⟨cC,cA,1,1⟩from Bh c hf rfl]
 ·rw[show fm=⟨cC,cA,1,1⟩from Bh c hf rfl]
def ABA{x:Int}(h:x<24):(x==24)=cA/\(x==25)=cA/\(x==26)=cA/\(x==27)=cA/\(x==28)=cA/\(x==29)=cA/\(x==30)=cA/\(x==31)=cA/\(x==32)=cA/\(x==33)=cA/\(x==34)=cA:=by simp;omega
def AA9{x:Int}(h:x<24):¬x=24/\¬x=25/\¬x=26/\¬x=27/\¬x=28/\¬x=29/\¬x=30/\¬x=31/\¬x=32/\¬x=33/\¬x=34:=by omega
theorem Ug(h0:AA6 w0 w)(hW:Words w0){vp u4:Value}(hp:Cj w0 vp p u1 u2 u3 u4){vf g1 g2 g3:Value}(hf:EL w0 vf f g1 g2 g3){vx y1 y2 y3:Value}(hx:Pv w0 vx x y1 y2 y3):Calls prog 128 #[vp,vf,vx] w λe w'=>e=.returned (cE (Di p f x))/\AA6 w w':=by
 obtain⟨iS,hjS,hy0,hy1,hy2⟩:=info_parts kr;have hpv:=hp;have J6:=hf;have e1:=hp.e;have e2:=hf.e;have e3:=hx.e;subst e1;subst e2;subst e3;obtain⟨i1,j1,rfl⟩:=hx.a.slice;have hxa:=hx.a;clear hp hf hx;obtain⟨hP,hF,hX,hb⟩:=aY (w:=w) (c1:=[cE p.ssa,u1,u2,u3,u4]) (c2:=[cS f.n,cS f.r,g1,g2,g3]) (c3:=[cI cJ x.op,cS x.d,cS x.n,cY i1 x.as.length j1,y2,y3]) (t1:=27) (t2:=66) (t3:=133) (AL);have hO:=JV x.op _ (hW.kp (AB h0 hb));obtain⟨R,hR⟩:∃R:Bool,R=Di p f x:=⟨_,rfl⟩;rw[<-hR];replace hR:=Wx hR;go_enter func128,ntmps128;go_wp2_with fail;refine hO.mono ?_;rintro e w1 ⟨hd,ho⟩;replace hb:=AB hb hd;replace hP:=hP.nx hd;replace hF:=hF.nx hd;replace hX:=hX.nx hd;clear hO hd hW;have vK:=λW (hW:AA6 w W)=>Rb (AB h0 hW) J6 x.d
 cases hfm:BH x.op with
 |none=>
  rw[hfm]at ho;obtain rfl:e=_:=ho;have hR2:Hid (R=cA):=Wx (hR.out.trans (LB hfm));have J8:=hb.alloc hb.size (.cells #[cS ⟨#[]⟩,cE cA,cE cA,cI cJ 0,cI cJ 0] 261);have vQ:=hF.al (.cells #[cS ⟨#[]⟩,cE cA,cE cA,cI cJ 0,cI cJ 0] 261);have hXA:=hX.al (.cells #[cS ⟨#[]⟩,cE cA,cE cA,cI cJ 0,cI cJ 0] 261);obtain⟨a0,a1,a2,a3,a4⟩:=vQ.c5;have b1:=hXA.c 1 _ rfl;clear hP hF hX hb hR hfm;go_wp2_with fail;refine(vK _ J8).mono ?_;rintro e w2 ⟨hd,ho⟩;replace ho:=ho.eq;subst ho;have hb3:=AB J8 hd;have hb4:=hb3.alloc hb3.size (.cells #[cS (vN (varOf f x.d)),cS (vT (varOf f x.d))] 71);clear vK vQ hXA a0 a1 a2 a3 a4 b1 hd hb3 J8;go_wp2;go_ret
  exact⟨by rw[hR2.out];rfl,hb4⟩
 |some fm=>
  rw[hfm]at ho;obtain⟨tw,-,rfl⟩:=ho;have hM:=Ae.alloc w1 [cS tw,cE fm.d,cE fm.n,cI cJ fm.l,cI cJ fm.m] 261;replace hb:=hb.alloc hb.size (.cells #[cS tw,cE fm.d,cE fm.n,cI cJ fm.l,cI cJ fm.m] 261);replace hP:=hP.al (.cells #[cS tw,cE fm.d,cE fm.n,cI cJ fm.l,cI cJ fm.m] 261);replace hF:=hF.al (.cells #[cS tw,cE fm.d,cE fm.n,cI cJ fm.l,cI cJ fm.m] 261);replace hX:=hX.al (.cells #[cS tw,cE fm.d,cE fm.n,cI cJ fm.l,cI cJ fm.m] 261);have IK:=hR.out.trans (LA hfm);replace IK:=Wx IK;replace hfm:=Wx hfm;clear hR;obtain⟨a0,a1,a2,a3,a4⟩:=hF.c5;have b1:=hX.c 1 _ rfl;go_wp2_with fail;refine(vK _ hb).mono ?_;rintro e w2 ⟨hd,ho⟩;replace ho:=ho.eq;subst ho;clear vK a0 a1 a2 a3 a4 b1;have hdst:Ib f x fm=if fm.d then(varOf f x.d).map Vr.t else cP ⟨#[]⟩:=rfl;replace hdst:=Wx hdst;obtain⟨r,hr⟩:∃r,r=varOf f x.d:=⟨_,rfl⟩;rw[<-hr];have MG:Ib f x fm=if fm.d then r.map Vr.t else cP ⟨#[]⟩:=by rw[hdst.out,hr]
  replace MG:=Wx MG;clear hdst hr;have hV:=Ae.alloc w2 [cS (vN r),cS (vT r)] 71;replace hb:=(AB hb hd).alloc (AB hb hd).size (.cells #[cS (vN r),cS (vT r)] 71);replace hP:=(hP.nx hd).al (.cells #[cS (vN r),cS (vT r)] 71);replace hF:=(hF.nx hd).al (.cells #[cS (vN r),cS (vT r)] 71);replace hX:=(hX.nx hd).al (.cells #[cS (vN r),cS (vT r)] 71);replace hM:=(hM.nx hd).al (.cells #[cS (vN r),cS (vT r)] 71);clear hd;obtain⟨b0,-,-,b3⟩:=hX.c4;obtain⟨-,m1,-,m3,m4⟩:=hM.c5;go_upto_region 3 with fail;generalize(w2.alloc (.cells #[cS (vN r),cS (vT r)] 71))=W at*;obtain⟨C,hC⟩:∃C:Bool,C=(decide ((x.as.length:Int)<fm.l)||decide (fm.m<(x.as.length:Int))||(fm.d&& !r.isSome)):=⟨_,rfl⟩;replace hC:=Wx hC;go_cut[70]from 45 to 69 (λv wx=>v=cE C/\wx=W)
  ·clear hP hF hX hM hV IK hfm MG hb;by_cases hl1:(x.as.length:Int)<fm.l
   ·have hC2:C=cC:=(by rw[hC.out,decide_eq_true hl1];simp);replace hC2:=Wx hC2;go_wp2;go_meet;exact⟨by rw[hC2.out],rfl⟩
   by_cases hl2:fm.m<(x.as.length:Int)
   ·have hC2:C=cC:=(by rw[hC.out,decide_eq_true hl2];simp);replace hC2:=Wx hC2;go_wp2;go_meet;exact⟨by rw[hC2.out],rfl⟩
   rcases Bool.eq_false_or_eq_true fm.d with FJ|FJ
   ·rw[FJ]at m1;have hC2:C= !r.isSome:=(by rw[hC.out,decide_eq_false hl1,decide_eq_false hl2,FJ];simp);replace hC2:=Wx hC2;replace FJ:=Wx FJ;go_wp2;go_meet;exact⟨by rw[hC2.out];cases r<;>rfl,rfl⟩
   ·rw[FJ]at m1;have hC2:C=cA:=(by rw[hC.out,decide_eq_false hl1,decide_eq_false hl2,FJ];simp);replace hC2:=Wx hC2;replace FJ:=Wx FJ;go_wp2;go_meet;exact⟨by rw[hC2.out],rfl⟩
  obtain⟨rfl,rfl⟩:=hcut;obtain⟨W,rfl⟩:=again wc;clear b0 m1 m3 m4 hM
  cases ZB:C with
  |true=>
   have hR2:Hid (R=cA):=Wx (by
    rw[IK.out];by_cases hl:(x.as.length:Int)<fm.l\/fm.m<x.as.length
    ·rw[if_pos hl]
    ·rw[if_neg hl,MG.out];rw[hC.out,decide_eq_false (λh=>hl (.inl h)),decide_eq_false (λh=>hl (.inr h))]at ZB;simp only[Bool.false_or,Bool.and_eq_true,Bool.not_eq_true']at ZB;rw[if_pos ZB.1]
     cases r with
     |none=>rfl
     |some v=>cases ZB.2)
   clear hP hF hX hV IK hfm MG hC ZB;go_wp2;go_ret
   exact⟨by rw[hR2.out];rfl,hb⟩
  |false=>
  have hpre:¬((x.as.length:Int)<fm.l\/fm.m<x.as.length)/\(fm.d=cC->r.isSome=cC):=by
   rw[hC.out]at ZB;simp only[Bool.or_eq_false_iff,decide_eq_false_iff_not,Bool.and_eq_false_iff,Bool.not_eq_false']at ZB;refine⟨λh=>h.elim ZB.1.1 ZB.1.2,λh=>ZB.2.elim (λe=>?_) id⟩;rw[h]at e;cases e
  have hds:∃d,Ib f x fm=cP d/\(fm.d=cC->d=vT r):=by
   rw[MG.out]
   cases hd1:fm.d with
   |false=>exact⟨_,rfl,λh=>by cases h⟩
   |true=>
    cases r with
    |none=>exact absurd (hpre.2 hd1) (by simp)
    |some v=>exact⟨_,rfl,λ_=>rfl⟩
  obtain⟨d,hd1,hd2⟩:=hds
  have Dc:R=match DU f x.as with
    |none=>cA
    |some l=>Av p x d l:=by
   rw[IK.out,if_neg hpre.1,hd1]
  have hlen:=hpre.1;clear IK MG hd1 hC ZB hpre;replace hd2:=Wx hd2;replace Dc:=Wx Dc;have AGl:x.as.length<=8:=by have:=LD hfm.out;omega
  replace hlen:=Wx hlen;go_upto_region 6 with fail;obtain⟨ia,ja,hia,-,hna,Kq⟩:=id hxa;injection hia with e1 _ e3;subst e1;subst e3;go_wp2
  go_loopw[11,12,13,14] (λv i _ _ wr=>∃(q:Nat) (BG:List ByteArray) (po:Option Addr) (ko:Nat),q<=x.as.length/\i=cI cJ (q:Int)/\v=cY po BG.length ko/\AA6 W wr/\wr.ownsRow W.heap.size 9 1 (cY po BG.length ko) BG.length (BG.map .string)/\Hid (BG.length=q)/\(∀s∈BG,Sz s)/\Hid (R=match DU f (x.as.drop q)with
   |none=>cA
   |some l=>Av p x d (BG++l))) (λ_ i _ _ _=>x.as.length-(intOf i).toNat)
  exact⟨0,[],cX,0,AY,rfl,rfl,AL,World.ownsRow_nil _ _ _ _,Wx rfl,(λs hs=>by cases hs),Wx (by rw[Dc.out,List.drop_zero];cases DU f x.as<;>rfl)⟩;clear Dc;obtain⟨q,BG,po,ko,hq,rfl,rfl,hb2,hown,hll,hsz,hR⟩:=hrel;replace hP:=hP.nx hb2;replace hF:=hF.nx hb2;replace hX:=hX.nx hb2;replace hV:=hV.nx hb2;have hb3:=AB hb hb2;have b3:=hX.c 3 _ rfl;by_cases hend:q=x.as.length
  ·subst hend;rw[List.drop_length]at hR;have CS:Hid (R=Av p x d BG):=Wx (by rw[hR.out];show Av p x d (BG++[])=_;rw[List.append_nil]);clear hR;have hLr:=dL hown hsz (by have:=hll.out;omega);have hlr:=hLr;obtain⟨po',ko',e4,-,-,hrow⟩:=hLr;injection e4 with e5 _ e6;subst e5;subst e6;have AJc:BG.length<=8:=(by have:=hll.out;omega);have hOp:=dP hfm.out;have hlow:x.op<24->fm.d=cC/\R=FP BG (wS x.op) d (sS x.op):=λh=>⟨ABB hfm.out h,CS.out.trans (AA8 hOp h)⟩;obtain⟨ta,u7⟩:∃t,wS x.op=t:=⟨_,rfl⟩;obtain⟨tb,htb⟩:∃t,sS x.op=t:=⟨_,rfl⟩;rw[u7,htb]at hlow;replace hlow:=Wx hlow;have h32:x.op=32->ta=BA/\tb=BA:=λh=>by
    rw[<-u7,<-htb,h];exact⟨rfl,rfl⟩
   replace h32:=Wx h32;have b0:=hX.c 0 _ rfl;go_upto_region 15 with fail;obtain⟨C,hC⟩:∃C:Bool,((decide (15<=x.op)&&decide (x.op<=21))||(x.op==23))=C:=⟨_,rfl⟩;go_cut[106]from 94 to 105 (λa wx=>a=cE C/\wx=wr)
   ·clear hlow u7 htb CS hP hF hV hrow Kq hOp hfm hd2 hlr;by_cases d15:15<=x.op<;>by_cases d21:x.op<=21<;>by_cases n23:x.op=23<;>first|(exfalso;omega)|skip;all_goals
     have e15:decide (15<=x.op)=decide (15<=x.op):=rfl;have e21:decide (x.op<=21)=decide (x.op<=21):=rfl;have e23:(x.op==23)=(x.op==23):=rfl
     first|rw(occs:=.pos [2]) [decide_eq_true d15]at e15|rw(occs:=.pos [2]) [decide_eq_false d15]at e15
     first|rw(occs:=.pos [2]) [decide_eq_true d21]at e21|rw(occs:=.pos [2]) [decide_eq_false d21]at e21
     first|rw(occs:=.pos [2]) [beq_false_of_ne n23]at e23|rw(occs:=.pos [2]) [beq_iff_eq.2 n23]at e23
     rw[e15,e21,e23]at hC;replace n23:=Wx n23;replace hC:=Wx hC;go_wp2;go_meet;exact⟨by rw[<-hC.out];rfl,rfl⟩
   obtain⟨rfl,rfl⟩:=hcut;obtain⟨wr,rfl⟩:=again wc;replace u7:(if C then Ao else BA)=ta:=(by rw[<-hC];exact u7);clear hC;go_upto_if 106 with fail;go_cut[15]from 106 to 106 (λa wx=>a=cS ta/\wx=wr)
   ·clear hlow htb CS hP hF hV hrow Kq hOp hfm hd2 hlr;subst u7;cases C
    ·go_wp2;go_meet;exact⟨rfl,rfl⟩
    ·go_wp2;go_meet;exact⟨rfl,rfl⟩
   obtain⟨rfl,rfl⟩:=hcut;obtain⟨wr,rfl⟩:=again wc;clear u7;go_upto_region 17 with fail;obtain⟨C,hC⟩:∃C:Bool,((decide (15<=x.op)&&decide (x.op<=18))||(x.op==22))=C:=⟨_,rfl⟩;go_cut[119]from 107 to 118 (λa wx=>a=cE C/\wx=wr)
   ·clear hlow htb CS hP hF hV hrow Kq hOp hfm hd2 hlr;by_cases d15:15<=x.op<;>by_cases d21:x.op<=18<;>by_cases n23:x.op=22<;>first|(exfalso;omega)|skip;all_goals
     have e15:decide (15<=x.op)=decide (15<=x.op):=rfl;have e21:decide (x.op<=18)=decide (x.op<=18):=rfl;have e23:(x.op==22)=(x.op==22):=rfl
     first|rw(occs:=.pos [2]) [decide_eq_true d15]at e15|rw(occs:=.pos [2]) [decide_eq_false d15]at e15
     first|rw(occs:=.pos [2]) [decide_eq_true d21]at e21|rw(occs:=.pos [2]) [decide_eq_false d21]at e21
     first|rw(occs:=.pos [2]) [beq_false_of_ne n23]at e23|rw(occs:=.pos [2]) [beq_iff_eq.2 n23]at e23
     rw[e15,e21,e23]at hC;replace n23:=Wx n23;replace hC:=Wx hC;go_wp2;go_meet;exact⟨by rw[<-hC.out];rfl,rfl⟩
   obtain⟨rfl,rfl⟩:=hcut;obtain⟨wr,rfl⟩:=again wc;replace htb:(if C then Ao else BA)=tb:=(by rw[<-hC];exact htb);clear hC;go_upto_if 119 with fail;go_cut[16]from 119 to 119 (λa wx=>a=cS tb/\wx=wr)
   ·clear hlow CS hP hF hV hrow Kq hOp hfm hd2 hlr;subst htb;cases C
    ·go_wp2;go_meet;exact⟨rfl,rfl⟩
    ·go_wp2;go_meet;exact⟨rfl,rfl⟩
   obtain⟨rfl,rfl⟩:=hcut;obtain⟨wr,rfl⟩:=again wc;clear htb;clear b0;rcases(show x.op<24\/x.op=24\/x.op=25\/x.op=26\/x.op=27\/x.op=28\/x.op=29\/x.op=30\/x.op=31\/x.op=32\/x.op=33\/x.op=34 by omega)with hop|hop|hop|hop|hop|hop|hop|hop|hop|hop|hop|hop
   ·obtain⟨FJ,ES⟩:=hlow.out hop;replace ES:=Wx ES;have hdv:Hid (d=vT r):=Wx (hd2.out FJ);have b0:=hX.c 0 _ rfl;obtain⟨n24,n25,n26,n27,n28,n29,n30,n31,n32,n33,n34⟩:=ABA hop;obtain⟨m24,m25,m26,m27,m28,m29,m30,m31,m32,m33,m34⟩:=AA9 hop;clear hlow CS hfm hd2 FJ Kq J6 hpv hlen hop hown hOp;go_wp2_with fail;obtain⟨wo,rfl⟩:=again wr;go_loopw[31] (λi wr=>∃q:Nat,q<=BG.length/\i=cI cJ (q:Int)/\AA6 wo wr/\∀k,(h:k<BG.length)->k<q->BG[k]=ta) (λi _=>BG.length-(intOf i).toNat);exact⟨0,AY,rfl,AL,λk _ h=>by omega⟩;obtain⟨q,hq,rfl,hb6,hal⟩:=hrel;have BJ:=AB hb3 hb6;have v1:=(hV.nx hb6).c 1 _ rfl;by_cases hend:q=BG.length
    ·subst hend;have Gy:R=decide (d=tb):=(by rw[ES.out,Gn λq hq=>hal q hq hq]);clear hrow hal;by_cases hde:d=tb
     ·rw[<-hdv.out,hde]at v1;have E8:Hid (R=cC):=Wx (by rw[Gy,decide_eq_true hde]);clear Gy hde ES;go_wp2;go_ret;exact⟨by rw[E8.out];rfl,BJ⟩
     ·rw[<-hdv.out]at v1;have E8:Hid (R=cA):=Wx (by rw[Gy,decide_eq_false hde]);have e9:=Ea hde;clear Gy hde ES;go_wp2;go_ret;exact⟨by rw[E8.out];rfl,BJ⟩
    ·have hlt:q<BG.length:=(by omega);have A8:(q:Int)<(BG.length:Int):=(by omega);obtain⟨la,rfl,c0,-⟩:=hrow q BG[q] (by simp[hlt]);rw[Nat.mul_one]at c0;replace c0:=AA hb6 c0;by_cases hsa:BG[q]=ta
     ·have FW:∀k,(h:k<BG.length)->k<q+1->BG[k]=ta:=λk h h2=>by
       rcases Nat.lt_or_ge k q with h3|h3
       ·exact hal k h h3
       ·obtain rfl:k=q:=(by omega);exact hsa
      have e9:=EZ hsa;replace FW:=Wx FW;clear hrow hal hsa ES;generalize hss:BG[q]=s at*;clear hss;go_wp2;go_roundw;exact⟨q+1,by omega,by go_num,hb6,FW.out⟩;simp[intOf];omega
     ·have e9:=Ea hsa;have E8:Hid (R=cA):=Wx (by rw[ES.out,Gp hlt hsa]);clear hrow hal hsa ES;generalize hss:BG[q]=s at*;clear hss;go_wp2;go_ret;exact⟨by rw[E8.out];rfl,BJ⟩
   ·have hfe:fm=⟨cC,cA,1,1⟩:=Bh hop hfm.out rfl;have EU:BG.length=1:=(by have:=hlen.out;have h9:=hll.out;rw[hfe]at this;dsimp only at this;omega);have hdv:d=vT r:=hd2.out (by rw[hfe]);have b0:=hX.c 0 _ rfl;rw[hop]at b0;obtain⟨s0,hs0⟩:∃s,BG[0]? =cP s:=⟨BG[0]'(by omega),List.getElem?_eq_getElem (by omega)⟩;obtain⟨la,rfl,c0,-⟩:=hrow 0 s0 hs0;replace c0:wr.cell? la=cP (cS s0):=c0;have ZQ:(0:Int)<(BG.length:Int):=(by omega);have ZP:0<BG.length:=(by omega);have FV:Hid (R=Du s0 (vT r)):=Wx (by rw[CS.out,zu hop,hs0,hdv];rfl);have v1:=hV.c 1 _ rfl;have nK:=λv=>Gt s0 (vT r) v;clear CS hfm hd2 Kq J6 hpv hlen hop hown hfe hrow hs0 hdv EU;generalize BG.length=nl at*;generalize Du s0 (vT r)=kk at*;have hdr:=(Below.refl wr.heap.size wr).drew;go_wp2;refine ALQ (S:=λ_ v=>AA6 wr v) hdr ?_;(iterate 7(first|(refine Ab.q (λz=>z.s) ?_)|(refine Ab.f (λz=>z.s) (λz=>ALS (AA z.s c0) (AA z.s v1)) ?_)|(apply Ab.y rfl;intro L w1 _ _ z hK;go_simp;go_wp2_with((refine(nK _).mono ?_;rintro e w2 ⟨rfl,rfl⟩));(try simp only[pE]);exact hK.out _ (z.s);rfl)));refine Ab.nil λw4 Bb=>?_;have hb5:=AB hb3 Bb;clear c0 v1 hdr nK;go_wp2;go_ret;exact⟨by rw[FV.out];rfl,hb5⟩
   ·have hfe:fm=⟨cC,cC,0,8⟩:=Bh hop hfm.out rfl;have EU:BG.length<=8:=(by have:=hlen.out;have h9:=hll.out;rw[hfe]at this;dsimp only at this;omega);have hdv:d=vT r:=hd2.out (by rw[hfe]);have b0:=hX.c 0 _ rfl;rw[hop]at b0;have Nl:R=Kz p x d BG:=CS.out.trans (zo hop);unfold Kz at Nl;have hCl:=Hq (AB h0 hb3) hpv x.n;have b2:=hX.c 2 _ rfl;obtain⟨q0,q1,q2,q3,q4⟩:=hP.c5;clear CS hfm hd2 Kq J6 hlen hop hown hfe hrow;go_wp2_with fail;refine hCl.mono ?_;rintro e w5 ⟨hd,ho⟩;have hb5:=AB hb3 hd;clear q0 q1 q2 q3 q4 hCl
    cases hcl:Ai Cl.n x.n p.cs with
    |none=>
     rw[hcl]at Nl ho;obtain rfl:e=_:=ho;have FV:Hid (R=cA):=Wx Nl;have hb6:=hb5.alloc hb5.size (.cells #[cS ⟨#[]⟩,cY cX 0 0] 153);clear Nl hcl hP hX hV hlr;go_wp2;go_ret
     exact⟨by rw[FV.out];rfl,hb6⟩
    |some c=>
     rw[hcl]at Nl ho;obtain⟨v,u,rfl,Sw⟩:=ho;have hcn:=NP hcl;replace Nl:R=(decide (d=c.n)&& (decide (BG.length=0)||FZ BG c.fs)):=Nl;rw[hcn,hdv]at Nl;replace Nl:=Wx Nl;clear hcn hdv hcl;have e7:=Sw.e;subst e7;obtain⟨q7,c7,rfl⟩:=Sw.f.slice;have hb6:=hb5.alloc hb5.size (.cells #[cS c.n,cY q7 c.fs.length c7] 153);have hK:=Ae.alloc w5 [cS c.n,cY q7 c.fs.length c7] 153;have hVa:=(hV.nx hd).al (.cells #[cS c.n,cY q7 c.fs.length c7] 153);have hXa:=(hX.nx hd).al (.cells #[cS c.n,cY q7 c.fs.length c7] 153);have hda:=hd.alloc hd.size (.cells #[cS c.n,cY q7 c.fs.length c7] 153);have b2':=(hX.nx hd).c 2 _ rfl;go_upto_region 24 with fail;clear b2';generalize(w5.alloc (.cells #[cS c.n,cY q7 c.fs.length c7] 153))=W5 at*;have hEa:=R6 (AB hda (AL)) (AB h0 hb6) hlr Sw.f;have v1:=hVa.c 1 _ rfl;have b2':=hXa.c 2 _ rfl;have k1:=hK.c 1 _ rfl;replace Nl:=Nl.out;clear Sw hlr hb5 hP hX hV hpv hda hd b2;by_cases hne:vT r=x.n
     ·have e9:=EZ hne;rw[decide_eq_true hne,Bool.true_and]at Nl;by_cases hl0:BG.length=0
      ·have FV:Hid (R=cC):=Wx (by rw[Nl,decide_eq_true hl0];rfl);have hl2:((BG.length:Int)==0)=cC:=(by simpa using hl0);have hl3:BG=[]:=List.length_eq_zero_iff.1 hl0;clear Nl hEa hne hl0;go_wp2;go_ret;exact⟨by rw[FV.out];rfl,hb6⟩
      ·rw[decide_eq_false hl0,Bool.false_or]at Nl;have hl2:((BG.length:Int)==0)=cA:=(by simpa using hl0);have hl3:¬BG=[]:=λh=>hl0 (by rw[h];rfl);replace Nl:=Wx Nl;clear hne;go_wp2_with fail;refine hEa.mono ?_;rintro e w6 ⟨rfl,hd⟩;have BJ:=AB hb6 hd;clear hEa;go_wp2;go_ret;exact⟨by rw[Nl.out];rfl,BJ⟩
     ·have e9:=Ea hne;have FV:Hid (R=cA):=Wx (by rw[Nl,decide_eq_false hne];rfl);clear Nl hEa hne;go_wp2;go_ret;exact⟨by rw[FV.out];rfl,hb6⟩
   ·have hfe:fm=⟨cC,cC,1,1⟩:=Bh hop hfm.out rfl;have EU:BG.length=1:=(by have:=hlen.out;have h9:=hll.out;rw[hfe]at this;dsimp only at this;omega);have hdv:d=vT r:=hd2.out (by rw[hfe]);have b0:=hX.c 0 _ rfl;rw[hop]at b0;obtain⟨s0,hs0⟩:∃s,BG[0]? =cP s:=⟨BG[0]'(by omega),List.getElem?_eq_getElem (by omega)⟩;obtain⟨la,rfl,c0,-⟩:=hrow 0 s0 hs0;replace c0:wr.cell? la=cP (cS s0):=c0;have ZQ:(0:Int)<(BG.length:Int):=(by omega);have ZP:0<BG.length:=(by omega);obtain⟨a0,ha0⟩:∃g,x.as[0]? =cP g:=⟨x.as[0]'(by have:=hll.out;omega),List.getElem?_eq_getElem (by have:=hll.out;omega)⟩;obtain⟨ia',qh,e0,-,-⟩:=Kq 0 a0 ha0;subst qh;replace e0:w0.cell? ia'=cP (cI cJ a0.k):=e0;replace e0:=AA (AB h0 hb3) e0;have wW:=λW (hW:AA6 wr W)=>Ri (AB h0 (AB hb3 hW)) hpv s0 x.n;have hx0:x.as[0]?.getD xI=a0:=(by rw[ha0];rfl);have ADy:(0:Int)<(x.as.length:Int):=(by have:=hll.out;omega);have ADx:0<x.as.length:=(by omega);obtain⟨-,-,b2,b3⟩:=hX.c4;have v1:=hV.c 1 _ rfl;have EI:R=Ql (vT r) (if a0.k=1 then EH p s0 x.n else cX):=(by rw[CS.out,zn hop,hs0,hx0,hdv];rfl);replace EI:=Wx EI;obtain⟨fr,hfr⟩:∃fr,Hid (EH p s0 x.n=fr):=⟨_,Wx rfl⟩;have FY:Hid (R=Ql (vT r) (if a0.k=1 then fr else cX)):=Wx (by rw[EI.out,hfr.out]);clear CS hfm hd2 Kq J6 hlen hop hown hfe hrow hlr hx0 ha0 EI hs0 hdv EU hll;generalize BG.length=nl at*;have hdr:=(Below.refl wr.heap.size wr).drew;go_wp2;refine ALR (S:=Ck wr 10 11 [cS ⟨#[]⟩,cS ⟨#[]⟩] [cS (vN fr),cS (vT fr)]) (Ck.start hdr) ?_;(refine AU.f (λz=>z.s.keep rfl rfl) (λz=>have hB:=hP.nx z.s.1;ALS (hB.c 0 _ rfl) (ALS (hB.c 1 _ rfl) (ALS (hB.c 2 _ rfl) (ALS (hB.c 3 _ rfl) (hB.c 4 _ rfl))))) ?_);(iterate 2((refine AU.q (λz=>z.s.keep rfl rfl) ?_)));(refine AU.f (λz=>z.s.keep rfl rfl) (λz=>AA z.s.1 c0) ?_);(refine AU.q (λz=>z.s.keep rfl rfl) ?_);(refine AU.f (λz=>z.s.keep rfl rfl) (λz=>AA z.s.1 b2) ?_);(apply AU.y rfl;intro V L w1 _ _ z hK;go_simp;go_wp2_with((go_at_call 184;refine(wW _ z.s.1).mono ?_;rintro e w2 ⟨hb,ho⟩;replace ho:=ho.eq;rw[hfr.out]at ho;subst ho));(try simp only[pE]);exact hK.out _ (z.s.call hb rfl rfl);intros;rfl);(iterate 3((refine AU.q (λz=>z.s.keep rfl rfl) ?_)));(apply AU.w rfl;intro V L w1 _ _ _ z hK;go_simp;exact hK rfl (z.s.made rfl z.i _);(try simp only[pE]));refine AU.val undef (λ_=>rfl) (λV L w1 K' Q' hS hi hR' hd hK=>?_) ?_
    ·have hl:=hd.out 10 (by kernel_rfl);obtain⟨pb,hp,hp0,hp1,hx⟩:=hS.at hl hi;obtain⟨k0,k1⟩:=hx.c2;obtain⟨f0,f1⟩:=hx.f2;go_simp;refine hK.out _ _ (by simp only[hp];rfl) (hS.fill hl hp hp0 (by simpa using hp1) ((hS.1.setCell hp0 _).setCell hp0 _) ((hx.set (i:=0) (by simp) _).set (i:=1) (by simp) _) rfl)
    simp only[Act.put];(refine AU.q (λz=>z.s.keep rfl rfl) ?_);refine AU.nil λV w5 hS=>?_;obtain⟨pb,hp,hp0,hp1,hD⟩:=hS.done rfl rfl;have hbx:=hS.1;simp only[hp];clear hS hp wW hdr;have hb5:=AB hb3 hbx;have d1:=hD.c 1 _ rfl;replace c0:=AA hbx c0;replace b3:=AA hbx b3;replace e0:=AA hbx e0;replace v1:=AA hbx v1;clear b2 hb3;by_cases hk1:a0.k=1
    ·have hk2:(a0.k==1)=cC:=(by simpa using hk1);have FX:R=Ql (vT r) fr:=(by rw[FY.out,if_pos hk1]);rw[hk1]at e0;clear hk1 FY
     cases fr with
     |none=>
      have FV:Hid (R=cA):=Wx FX;clear FX;go_wp2;go_ret
      exact⟨by rw[FV.out];rfl,hb5⟩
     |some c=>
      replace FX:R=decide (c.t=vT r):=FX;replace d1:w5.cell? ⟨pb,1,cX⟩=cP (cS c.t):=d1;by_cases ht:c.t=vT r
      ·have FV:Hid (R=cC):=Wx (by rw[FX,decide_eq_true ht]);have e9:=EZ ht;clear FX ht;go_wp2;go_ret;exact⟨by rw[FV.out];rfl,hb5⟩
      ·have FV:Hid (R=cA):=Wx (by rw[FX,decide_eq_false ht]);have e9:=Ea ht;clear FX ht;go_wp2;go_ret;exact⟨by rw[FV.out];rfl,hb5⟩
    ·have hk2:(a0.k==1)=cA:=(by simpa using hk1);have FV:Hid (R=cA):=Wx (by rw[FY.out,if_neg hk1];rfl);clear FY;go_wp2;go_ret;exact⟨by rw[FV.out];rfl,hb5⟩
   ·have hfe:fm=⟨cA,cC,2,2⟩:=Bh hop hfm.out rfl;have EU:BG.length=2:=(by have:=hlen.out;have h9:=hll.out;rw[hfe]at this;dsimp only at this;omega);have b0:=hX.c 0 _ rfl;rw[hop]at b0;obtain⟨s0,hs0⟩:∃s,BG[0]? =cP s:=⟨BG[0]'(by omega),List.getElem?_eq_getElem (by omega)⟩;obtain⟨la,rfl,c0,-⟩:=hrow 0 s0 hs0;replace c0:wr.cell? la=cP (cS s0):=c0;obtain⟨s1,hs1⟩:∃s,BG[1]? =cP s:=⟨BG[1]'(by omega),List.getElem?_eq_getElem (by omega)⟩;obtain⟨la',qY,c1,-⟩:=hrow 1 s1 hs1;obtain rfl:la=la':=(by simpa using qY);replace c1:wr.cell? ⟨la.block,la.off+1,cX⟩=cP (cS s1):=c1;have ZQ:(0:Int)<(BG.length:Int):=(by omega);have ZP:0<BG.length:=(by omega);have AD0:(1:Int)<(BG.length:Int):=(by omega);have ADz:1<BG.length:=(by omega);obtain⟨a0,ha0⟩:∃g,x.as[0]? =cP g:=⟨x.as[0]'(by have:=hll.out;omega),List.getElem?_eq_getElem (by have:=hll.out;omega)⟩;obtain⟨ia',qh,e0,-,-⟩:=Kq 0 a0 ha0;subst qh;replace e0:w0.cell? ia'=cP (cI cJ a0.k):=e0;replace e0:=AA (AB h0 hb3) e0;have wW:=λW (hW:AA6 wr W)=>Ri (AB h0 (AB hb3 hW)) hpv s0 x.n;have hx0:x.as[0]?.getD xI=a0:=(by rw[ha0];rfl);have ADy:(0:Int)<(x.as.length:Int):=(by have:=hll.out;omega);have ADx:0<x.as.length:=(by omega);obtain⟨-,-,b2,b3⟩:=hX.c4;have v1:=hV.c 1 _ rfl;have EI:R=Td s1 (if a0.k=1 then EH p s0 x.n else cX):=(by rw[CS.out,zm hop,hs0,hs1,hx0];rfl);replace EI:=Wx EI;obtain⟨fr,hfr⟩:∃fr,Hid (EH p s0 x.n=fr):=⟨_,Wx rfl⟩;have FY:Hid (R=Td s1 (if a0.k=1 then fr else cX)):=Wx (by rw[EI.out,hfr.out]);clear CS hfm hd2 Kq J6 hlen hop hown hfe hrow hlr hx0 ha0 EI hs0 hs1 EU hll;generalize BG.length=nl at*;have hdr:=(Below.refl wr.heap.size wr).drew;go_wp2;refine ALR (S:=Ck wr 10 11 [cS ⟨#[]⟩,cS ⟨#[]⟩] [cS (vN fr),cS (vT fr)]) (Ck.start hdr) ?_;(refine AU.f (λz=>z.s.keep rfl rfl) (λz=>have hB:=hP.nx z.s.1;ALS (hB.c 0 _ rfl) (ALS (hB.c 1 _ rfl) (ALS (hB.c 2 _ rfl) (ALS (hB.c 3 _ rfl) (hB.c 4 _ rfl))))) ?_);(iterate 2((refine AU.q (λz=>z.s.keep rfl rfl) ?_)));(refine AU.f (λz=>z.s.keep rfl rfl) (λz=>AA z.s.1 c0) ?_);(refine AU.q (λz=>z.s.keep rfl rfl) ?_);(refine AU.f (λz=>z.s.keep rfl rfl) (λz=>AA z.s.1 b2) ?_);(apply AU.y rfl;intro V L w1 _ _ z hK;go_simp;go_wp2_with((go_at_call 184;refine(wW _ z.s.1).mono ?_;rintro e w2 ⟨hb,ho⟩;replace ho:=ho.eq;rw[hfr.out]at ho;subst ho));(try simp only[pE]);exact hK.out _ (z.s.call hb rfl rfl);intros;rfl);(iterate 3((refine AU.q (λz=>z.s.keep rfl rfl) ?_)));(apply AU.w rfl;intro V L w1 _ _ _ z hK;go_simp;exact hK rfl (z.s.made rfl z.i _);(try simp only[pE]));refine AU.val undef (λ_=>rfl) (λV L w1 K' Q' hS hi hR' hd hK=>?_) ?_
    ·have hl:=hd.out 10 (by kernel_rfl);obtain⟨pb,hp,hp0,hp1,hx⟩:=hS.at hl hi;obtain⟨k0,k1⟩:=hx.c2;obtain⟨f0,f1⟩:=hx.f2;go_simp;refine hK.out _ _ (by simp only[hp];rfl) (hS.fill hl hp hp0 (by simpa using hp1) ((hS.1.setCell hp0 _).setCell hp0 _) ((hx.set (i:=0) (by simp) _).set (i:=1) (by simp) _) rfl)
    simp only[Act.put];(refine AU.q (λz=>z.s.keep rfl rfl) ?_);refine AU.nil λV w5 hS=>?_;obtain⟨pb,hp,hp0,hp1,hD⟩:=hS.done rfl rfl;have hbx:=hS.1;simp only[hp];clear hS hp wW hdr;have hb5:=AB hb3 hbx;have d1:=hD.c 1 _ rfl;replace c0:=AA hbx c0;replace b3:=AA hbx b3;replace e0:=AA hbx e0;replace v1:=AA hbx v1;clear b2 hb3;replace c1:=AA hbx c1;have hdr:=(Below.refl w5.heap.size w5).drew;by_cases hk1:a0.k=1
    ·have hk2:(a0.k==1)=cC:=(by simpa using hk1);have FX:R=Td s1 fr:=(by rw[FY.out,if_pos hk1]);rw[hk1]at e0;clear hk1 FY
     cases fr with
     |none=>
      have FV:Hid (R=cA):=Wx FX;clear FX;go_wp2;refine ALQ (S:=λ_ v=>AA6 w5 v) hdr ?_;(iterate 18(first|(refine Ab.skip rfl (λL w1 hS hi=>(hS)) ?_;(try simp only[pE]))|(refine Ab.f (λz=>z.s) (λz=>ALS (AA z.s b3) (AA z.s e0)) ?_)));refine Ab.nil λw6 H6=>?_;have BJ:=AB hb5 H6;clear hdr b3 e0;go_wp2;go_ret
      exact⟨by rw[FV.out];rfl,BJ⟩
     |some c=>
      replace FX:R=Du s1 c.t:=FX;replace d1:w5.cell? ⟨pb,1,cX⟩=cP (cS c.t):=d1;have nK:=λv=>Gt s1 c.t v;replace FX:=Wx FX;generalize Du s1 c.t=kk at*;go_wp2;refine ALQ (S:=λ_ v=>AA6 w5 v) hdr ?_;(iterate 18(first|(refine Ab.q (λz=>z.s) ?_)|(refine Ab.f (λz=>z.s) (λz=>ALS (AA z.s b3) (ALS (AA z.s e0) (ALS (AA z.s d1) (AA z.s c1)))) ?_)|(apply Ab.y rfl;intro L w1 _ _ z hK;go_simp;go_wp2_with((refine(nK _).mono ?_;rintro e w2 ⟨rfl,rfl⟩));(try simp only[pE]);exact hK.out _ (z.s);rfl)));refine Ab.nil λw6 H6=>?_;have BJ:=AB hb5 H6;clear hdr b3 e0 d1 c1 nK;go_wp2;go_ret;exact⟨by rw[FX.out];rfl,BJ⟩
    ·have hk2:(a0.k==1)=cA:=(by simpa using hk1);have FV:Hid (R=cA):=Wx (by rw[FY.out,if_neg hk1];rfl);clear FY;go_wp2;refine ALQ (S:=λ_ v=>AA6 w5 v) hdr ?_;(iterate 18(first|(refine Ab.skip rfl (λL w1 hS hi=>(hS)) ?_;(try simp only[pE]))|(refine Ab.f (λz=>z.s) (λz=>ALS (AA z.s b3) (AA z.s e0)) ?_)));refine Ab.nil λw6 H6=>?_;have BJ:=AB hb5 H6;clear hdr b3 e0;go_wp2;go_ret;exact⟨by rw[FV.out];rfl,BJ⟩
   ·have hfe:fm=⟨cC,cA,2,2⟩:=Bh hop hfm.out rfl;have EU:BG.length=2:=(by have:=hlen.out;have h9:=hll.out;rw[hfe]at this;dsimp only at this;omega);have hdv:d=vT r:=hd2.out (by rw[hfe]);have b0:=hX.c 0 _ rfl;rw[hop]at b0;obtain⟨s0,hs0⟩:∃s,BG[0]? =cP s:=⟨BG[0]'(by omega),List.getElem?_eq_getElem (by omega)⟩;obtain⟨la,rfl,c0,-⟩:=hrow 0 s0 hs0;replace c0:wr.cell? la=cP (cS s0):=c0;obtain⟨s1,hs1⟩:∃s,BG[1]? =cP s:=⟨BG[1]'(by omega),List.getElem?_eq_getElem (by omega)⟩;obtain⟨la',qY,c1,-⟩:=hrow 1 s1 hs1;obtain rfl:la=la':=(by simpa using qY);replace c1:wr.cell? ⟨la.block,la.off+1,cX⟩=cP (cS s1):=c1;have ZQ:(0:Int)<(BG.length:Int):=(by omega);have ZP:0<BG.length:=(by omega);have AD0:(1:Int)<(BG.length:Int):=(by omega);have ADz:1<BG.length:=(by omega);have EI:R=(decide (vT r=BA)&& (Dq s0&& (Dq s1&& (decide (s0=s1)||(decide (s0=Fx)||decide (s1=Fx)))))):=(by rw[CS.out,zl hop,hs0,hs1,hdv];rfl);replace EI:=Wx EI;have v1:=hV.c 1 _ rfl;have hG0:=λv=>Ii s0 v;have hG1:=λv=>Ii s1 v;have hdr:=(Below.refl wr.heap.size wr).drew;clear CS hfm hd2 Kq J6 hpv hlen hop hown hfe hrow hlr hs0 hs1 hdv EU hll hP hX hV;generalize BG.length=nl at*;obtain⟨kd,ed⟩:∃k:Bool,k=decide (vT r=BA):=⟨_,rfl⟩;obtain⟨ke,ee⟩:∃k:Bool,k=decide (s0=s1):=⟨_,rfl⟩;obtain⟨z0,ez0⟩:∃k:Bool,k=decide (s0=Fx):=⟨_,rfl⟩;obtain⟨z1,ez1⟩:∃k:Bool,k=decide (s1=Fx):=⟨_,rfl⟩;rw[<-ed,<-ee,<-ez0,<-ez1]at EI;have ed':((vT r).toList==[105,110,116])=kd:=(by rw[ed];exact Zv);have ee':(s0.toList==s1.toList)=ke:=(by rw[ee];exact zV);have AEl:(s0.toList==[110,117,108,108])=z0:=(by rw[ez0];exact Zv);have AEk:(s1.toList==[110,117,108,108])=z1:=(by rw[ez1];exact Zv);clear ed ee ez0 ez1;generalize Dq s0=k0 at*;generalize Dq s1=k1 at*;have hcase:(kd=cA)\/(kd=cC/\k0=cA)\/(kd=cC/\k0=cC/\k1=cA)\/(kd=cC/\k0=cC/\k1=cC/\ke=cC)\/(kd=cC/\k0=cC/\k1=cC/\ke=cA/\z0=cC)\/(kd=cC/\k0=cC/\k1=cC/\ke=cA/\z0=cA):=by
     cases kd<;>cases k0<;>cases k1<;>cases ke<;>cases z0<;>simp
    rcases hcase with rfl|⟨rfl,rfl⟩|⟨rfl,rfl,rfl⟩|⟨rfl,rfl,rfl,rfl⟩|⟨rfl,rfl,rfl,rfl,rfl⟩|⟨rfl,rfl,rfl,rfl,rfl⟩;all_goals
     go_wp2;refine ALQ (S:=λ_ v=>AA6 wr v) hdr ?_;(iterate 37(first|(refine Ab.skip rfl (λL w1 hS hi=>(hS)) ?_;(try simp only[pE]))|(refine Ab.f (λz=>z.s) (λz=>ALS (AA z.s c0) (ALS (AA z.s c1) (AA z.s v1))) ?_)|(apply Ab.y rfl;intro L w1 _ _ z hK;go_simp;go_wp2_with((first|(refine(hG0 _).mono ?_;rintro e w2 ⟨rfl,rfl⟩)|(refine(hG1 _).mono ?_;rintro e w2 ⟨rfl,rfl⟩)));(try simp only[pE]);exact hK.out _ (z.s);rfl)));refine Ab.nil λw4 Bb=>?_;have hb5:=AB hb3 Bb;clear c0 c1 v1 hdr hG0 hG1 ed' ee' AEl AEk;go_wp2;go_ret;exact⟨by rw[EI.out];rfl,hb5⟩
   ·have hfe:fm=⟨cC,cC,0,0⟩:=Bh hop hfm.out rfl;have EU:BG.length=0:=(by have:=hlen.out;have h9:=hll.out;rw[hfe]at this;dsimp only at this;omega);have hdv:d=vT r:=hd2.out (by rw[hfe]);have b0:=hX.c 0 _ rfl;rw[hop]at b0;have qA:=Oc (AB h0 hb3) hpv x.n;have b2:=hX.c 2 _ rfl;obtain⟨q0,q1,q2,q3,q4⟩:=hP.c5;have EI:R=Ia p x d (BG[0]?.getD ⟨#[]⟩):=CS.out.trans (zi hop);unfold Ia at EI;rw[hdv]at EI;obtain⟨gr,hgr⟩:∃gr,Ai Vr.n x.n p.gs=gr:=⟨_,rfl⟩;rw[hgr]at EI qA;have FY:R=Ql (vT r) gr:=by
     rw[EI]
     cases gr with
     |none=>rfl
     |some g=>show(if x.op=29 then _ else _)=_;rw[if_pos hop];rfl
    clear CS hfm hd2 Kq J6 hlen hop hown hfe hrow hlr hgr EI hdv hll;replace FY:=Wx FY;go_wp2_with fail;refine qA.mono ?_;rintro e w5 ⟨hd,ho⟩;replace ho:=ho.eq;subst ho;have hda:=hd.alloc hd.size (.cells #[cS (vN gr),cS (vT gr)] 71);have hD:=Ae.alloc w5 [cS (vN gr),cS (vT gr)] 71;clear qA hP hX q0 q1 q2 q3 q4 b2 EU hd;go_upto_region 35 with fail;generalize(w5.alloc (.cells #[cS (vN gr),cS (vT gr)] 71))=W5 at*;have hb6:=AB hb3 hda;have d1:=hD.c 1 _ rfl;have v1:=(hV.nx hda).c 1 _ rfl;clear hda hD hb3 hV
    cases gr with
    |none=>
     have FV:Hid (R=cA):=Wx FY.out;clear FY;go_wp2;go_ret
     exact⟨by rw[FV.out];rfl,hb6⟩
    |some c=>
     have FX:R=decide (c.t=vT r):=FY.out;replace d1:W5.cell? ⟨w5.heap.size,1,cX⟩=cP (cS c.t):=d1;clear FY;by_cases ht:c.t=vT r
     ·have FV:Hid (R=cC):=Wx (by rw[FX,decide_eq_true ht]);have e8:=EZ ht;clear FX ht;go_wp2;go_ret;exact⟨by rw[FV.out];rfl,hb6⟩
     ·have FV:Hid (R=cA):=Wx (by rw[FX,decide_eq_false ht]);have e8:=Ea ht;clear FX ht;go_wp2;go_ret;exact⟨by rw[FV.out];rfl,hb6⟩
   ·have hfe:fm=⟨cA,cC,1,1⟩:=Bh hop hfm.out rfl;have EU:BG.length=1:=(by have:=hlen.out;have h9:=hll.out;rw[hfe]at this;dsimp only at this;omega);have b0:=hX.c 0 _ rfl;rw[hop]at b0;obtain⟨s0,hs0⟩:∃s,BG[0]? =cP s:=⟨BG[0]'(by omega),List.getElem?_eq_getElem (by omega)⟩;obtain⟨la,rfl,c0,-⟩:=hrow 0 s0 hs0;replace c0:wr.cell? la=cP (cS s0):=c0;have ZQ:(0:Int)<(BG.length:Int):=(by omega);have ZP:0<BG.length:=(by omega);have qA:=Oc (AB h0 hb3) hpv x.n;have b2:=hX.c 2 _ rfl;obtain⟨q0,q1,q2,q3,q4⟩:=hP.c5;have EI:R=Ia p x d (BG[0]?.getD ⟨#[]⟩):=CS.out.trans (zh hop);unfold Ia at EI;obtain⟨gr,hgr⟩:∃gr,Ai Vr.n x.n p.gs=gr:=⟨_,rfl⟩;rw[hgr,hs0]at EI;rw[hgr]at qA;have FY:R=Td s0 gr:=by
     rw[EI]
     cases gr with
     |none=>rfl
     |some g=>show(if x.op=29 then _ else _)=_;rw[if_neg (by omega)];rfl
    clear CS hfm hd2 Kq J6 hlen hop hown hfe hrow hlr hgr EI hs0 EU hll;generalize BG.length=nl at*;replace FY:=Wx FY;go_wp2_with fail;refine qA.mono ?_;rintro e w5 ⟨hd,ho⟩;replace ho:=ho.eq;subst ho;have hda:=hd.alloc hd.size (.cells #[cS (vN gr),cS (vT gr)] 71);have hD:=Ae.alloc w5 [cS (vN gr),cS (vT gr)] 71;clear qA hP hX hV hd q0 q1 q2 q3 q4 b2;go_upto_region 38 with fail;generalize(w5.alloc (.cells #[cS (vN gr),cS (vT gr)] 71))=W5 at*;replace c0:=AA hda c0;have hb5:=AB hb3 hda;have d1:=hD.c 1 _ rfl;have hdr:=(Below.refl W5.heap.size W5).drew;clear hda hD hb3
    cases gr with
    |none=>
     have FV:Hid (R=cA):=Wx FY.out;clear FY;go_wp2;refine ALQ (S:=λ_ v=>AA6 W5 v) hdr ?_;(iterate 10(first|(refine Ab.q (λz=>z.s) ?_)|(refine Ab.skip rfl (λL w1 hS hi=>(hS)) ?_;(try simp only[pE]))));refine Ab.nil λw6 H6=>?_;have BJ:=AB hb5 H6;clear hdr c0 d1;go_wp2;go_ret
     exact⟨by rw[FV.out];rfl,BJ⟩
    |some c=>
     have FX:Hid (R=Du s0 c.t):=Wx FY.out;replace d1:W5.cell? ⟨w5.heap.size,1,cX⟩=cP (cS c.t):=d1;have nK:=λv=>Gt s0 c.t v;clear FY;generalize Du s0 c.t=kk at*;go_wp2;refine ALQ (S:=λ_ v=>AA6 W5 v) hdr ?_;(iterate 10(first|(refine Ab.q (λz=>z.s) ?_)|(refine Ab.f (λz=>z.s) (λz=>ALS (AA z.s c0) (AA z.s d1)) ?_)|(apply Ab.y rfl;intro L w1 _ _ z hK;go_simp;go_wp2_with((refine(nK _).mono ?_;rintro e w2 ⟨rfl,rfl⟩));(try simp only[pE]);exact hK.out _ (z.s);rfl)));refine Ab.nil λw6 H6=>?_;have BJ:=AB hb5 H6;clear hdr c0 d1 nK;go_wp2;go_ret;exact⟨by rw[FX.out];rfl,BJ⟩
   ·have hfe:fm=⟨cC,cC,0,8⟩:=Bh hop hfm.out rfl;have EU:BG.length<=8:=(by have:=hlen.out;have h9:=hll.out;rw[hfe]at this;dsimp only at this;omega);have hdv:d=vT r:=hd2.out (by rw[hfe]);have b0:=hX.c 0 _ rfl;rw[hop]at b0;have EI:R=K5 p x d BG:=CS.out.trans (zf hop);unfold K5 at EI;rw[hdv]at EI;have hFn:=Uf (AB h0 hb3) hpv x.n;have b2:=hX.c 2 _ rfl;obtain⟨q0,q1,q2,q3,q4⟩:=hP.c5;clear CS hfm hd2 Kq J6 hlen hop hown hfe hrow hdv;go_wp2_with fail;refine hFn.mono ?_;rintro e w5 ⟨hd,ho⟩;have hb5:=AB hb3 hd;clear q0 q1 q2 q3 q4 hFn b2 hP hX
    cases hcl:Ai Fn.n x.n p.fs with
    |none=>
     rw[hcl]at EI ho;obtain rfl:e=_:=ho;have FV:Hid (R=cA):=Wx EI;have hb6:=hb5.alloc hb5.size (.cells #[cS ⟨#[]⟩,cS ⟨#[]⟩,cY cX 0 0,cY cX 0 0,cY cX 0 0] 66);clear EI hcl hV hlr;go_wp2;go_ret
     exact⟨by rw[FV.out];rfl,hb6⟩
    |some c=>
     rw[hcl]at EI ho;obtain⟨v,t1,t2,t3,rfl,Sw⟩:=ho;have e7:=Sw.e;subst e7;obtain⟨q5,c5,rfl⟩:=Sw.p.slice;obtain⟨q6,c6,rfl⟩:=Sw.v.slice;obtain⟨q7,c7,rfl⟩:=Sw.b.slice;replace EI:R=(FZ BG c.ps&&decide (vT r=c.r)):=EI;have hda:=hd.alloc hd.size (.cells #[cS c.n,cS c.r,cY q5 c.ps.length c5,cY q6 c.vs.length c6,cY q7 c.bs.length c7] 66);have hK:=Ae.alloc w5 [cS c.n,cS c.r,cY q5 c.ps.length c5,cY q6 c.vs.length c6,cY q7 c.bs.length c7] 66;replace EI:=Wx EI;clear hcl hb5;go_upto_region 41 with fail;generalize(w5.alloc (.cells #[cS c.n,cS c.r,cY q5 c.ps.length c5,cY q6 c.vs.length c6,cY q7 c.bs.length c7] 66))=W5 at*;have hb6:=AB hb3 hda;have hEa:=R6 (AB hda (AL)) (AB h0 hb6) hlr Sw.p;replace hV:=hV.nx hda;have k2:=hK.c 2 _ rfl;clear Sw hlr hda hd hb3;generalize FZ BG c.ps=kk at*;go_wp2_with fail;refine hEa.mono ?_;rintro e w6 ⟨rfl,hd⟩;have BJ:=AB hb6 hd;have k1:=(hK.nx hd).c 1 _ rfl;have v1:=(hV.nx hd).c 1 _ rfl;clear hEa hK hV k2 hd;cases kk
     ·have FV:Hid (R=cA):=Wx (by rw[EI.out];rfl);clear EI;go_wp2;go_ret;exact⟨by rw[FV.out];rfl,BJ⟩
     ·by_cases ht:c.r=vT r
      ·have FV:Hid (R=cC):=Wx (by rw[EI.out,decide_eq_true ht.symm];rfl);have e9:=EZ ht;clear EI ht;go_wp2;go_ret;exact⟨by rw[FV.out];rfl,BJ⟩
      ·have FV:Hid (R=cA):=Wx (by rw[EI.out,decide_eq_false (λh=>ht h.symm)];rfl);have e9:=Ea ht;clear EI ht;go_wp2;go_ret;exact⟨by rw[FV.out];rfl,BJ⟩
   ·have hfe:fm=⟨cC,cC,0,8⟩:=Bh hop hfm.out rfl;have EU:BG.length<=8:=(by have:=hlen.out;have h9:=hll.out;rw[hfe]at this;dsimp only at this;omega);have hdv:d=vT r:=hd2.out (by rw[hfe]);have b0:=hX.c 0 _ rfl;obtain⟨rfl,rfl⟩:=h32.out hop;rw[hop]at b0;have EI:R=Qr p x d BG:=CS.out.trans (ze hop);unfold Qr at EI;have hFn:=Ue (AB h0 hb3) hpv x.n;have b2:=hX.c 2 _ rfl;obtain⟨q0,q1,q2,q3,q4⟩:=hP.c5;replace hdv:=Wx hdv;clear CS hfm hd2 Kq J6 hlen hop hown hfe hlr;go_wp2_with fail;refine hFn.mono ?_;rintro e w5 ⟨hd,ho⟩;have hb5:=AB hb3 hd;clear q0 q1 q2 q3 q4 hFn b2 hP hX b0 b3
    cases hcl:Ai Ex.n x.n p.xs with
    |none=>
     rw[hcl]at EI ho;obtain rfl:e=_:=ho;have FV:Hid (R=cA):=Wx EI;have hb6:=hb5.alloc hb5.size (.cells #[cS ⟨#[]⟩,cI cJ 0] 155);clear EI hcl hV hrow;go_wp2;go_ret
     exact⟨by rw[FV.out];rfl,hb6⟩
    |some c=>
     rw[hcl]at EI ho;obtain⟨rfl,-⟩:=ho;replace EI:R=(decide ((BG.length:Int)=c.k)&&FP BG BA d BA):=EI;have hda:=hd.alloc hd.size (.cells #[cS c.n,cI cJ c.k] 155);have hK:=Ae.alloc w5 [cS c.n,cI cJ c.k] 155;replace EI:=Wx EI;clear hcl hb5;go_upto_region 48 with fail;generalize(w5.alloc (.cells #[cS c.n,cI cJ c.k] 155))=W5 at*;replace hb3:=AB hb3 hda;replace hV:=hV.nx hda;have hrow2:∀(i:Nat) (s:ByteArray),BG[i]? =cP s->∃a,po=cP a/\DL W5 (a.add (i*1)) s:=λi s h=>(hrow i s h).imp λa h=>⟨h.1,h.2.kp hda⟩;have k1:=hK.c 1 _ rfl;clear hrow hda hd hK;by_cases hk:c.k=(BG.length:Int)
     ·have ES:Hid (R=FP BG BA d BA):=Wx (by rw[EI.out,decide_eq_true hk.symm];rfl);have hk2:(c.k==(BG.length:Int))=cC:=(by simpa using hk);rw[hk]at k1;clear EI hk;have hrow:=hrow2;clear hrow2;obtain⟨wr,rfl⟩:=again W5;go_wp2_with fail;obtain⟨wo,rfl⟩:=again wr;go_loopw[31] (λi wr=>∃q:Nat,q<=BG.length/\i=cI cJ (q:Int)/\AA6 wo wr/\∀k,(h:k<BG.length)->k<q->BG[k]=BA) (λi _=>BG.length-(intOf i).toNat);exact⟨0,AY,rfl,AL,λk _ h=>by omega⟩;obtain⟨q,hq,rfl,hb6,hal⟩:=hrel;have BJ:=AB hb3 hb6;have v1:=(hV.nx hb6).c 1 _ rfl;by_cases hend:q=BG.length
      ·subst hend;have Gy:R=decide (d=BA):=(by rw[ES.out,Gn λq hq=>hal q hq hq]);clear hrow hal;by_cases hde:d=BA
       ·rw[<-hdv.out,hde]at v1;have E8:Hid (R=cC):=Wx (by rw[Gy,decide_eq_true hde]);clear Gy hde ES;go_wp2;go_ret;exact⟨by rw[E8.out];rfl,BJ⟩
       ·rw[<-hdv.out]at v1;have E8:Hid (R=cA):=Wx (by rw[Gy,decide_eq_false hde]);have e9:=D9 (l:=[105,110,116]) hde;clear Gy hde ES;go_wp2;go_ret;exact⟨by rw[E8.out];rfl,BJ⟩
      ·have hlt:q<BG.length:=(by omega);have A8:(q:Int)<(BG.length:Int):=(by omega);obtain⟨la,rfl,c0,-⟩:=hrow q BG[q] (by simp[hlt]);rw[Nat.mul_one]at c0;replace c0:=AA hb6 c0;by_cases hsa:BG[q]=BA
       ·have FW:∀k,(h:k<BG.length)->k<q+1->BG[k]=BA:=λk h h2=>by
         rcases Nat.lt_or_ge k q with h3|h3
         ·exact hal k h h3
         ·obtain rfl:k=q:=(by omega);exact hsa
        have e9:=FE (l:=[105,110,116]) hsa;replace FW:=Wx FW;clear hrow hal hsa ES;generalize hss:BG[q]=s at*;clear hss;go_wp2;go_roundw;exact⟨q+1,by omega,by go_num,hb6,FW.out⟩;simp[intOf];omega
       ·have e9:=D9 (l:=[105,110,116]) hsa;have E8:Hid (R=cA):=Wx (by rw[ES.out,Gp hlt hsa]);clear hrow hal hsa ES;generalize hss:BG[q]=s at*;clear hss;go_wp2;go_ret;exact⟨by rw[E8.out];rfl,BJ⟩
     ·have FV:Hid (R=cA):=Wx (by rw[EI.out,decide_eq_false (λh=>hk h.symm)];rfl);have hk2:(c.k==(BG.length:Int))=cA:=(by simpa using hk);clear EI;go_wp2;go_ret;exact⟨by rw[FV.out];rfl,hb3⟩
   ·have hfe:fm=⟨cA,cA,1,1⟩:=Bh hop hfm.out rfl;have EU:BG.length=1:=(by have:=hlen.out;have h9:=hll.out;rw[hfe]at this;dsimp only at this;omega);have b0:=hX.c 0 _ rfl;rw[hop]at b0;obtain⟨s0,hs0⟩:∃s,BG[0]? =cP s:=⟨BG[0]'(by omega),List.getElem?_eq_getElem (by omega)⟩;obtain⟨la,rfl,c0,-⟩:=hrow 0 s0 hs0;replace c0:wr.cell? la=cP (cS s0):=c0;have ZQ:(0:Int)<(BG.length:Int):=(by omega);have ZP:0<BG.length:=(by omega);have EI:R= !Dq s0:=(by rw[CS.out,za hop,hs0];rfl);clear CS hfm hd2 Kq J6 hpv hlen hop hown hfe hrow hlr hs0 EU hll hP hV;generalize BG.length=nl at*;by_cases h1:s0=BA
    ·have FV:Hid (R=cC):=Wx (by rw[EI];unfold Dq;rw[decide_eq_false (λh=>h h1)];rfl);have e9:=FE (l:=[105,110,116]) h1;clear EI h1;go_wp2;go_ret;exact⟨by rw[FV.out];rfl,hb3⟩
    ·have e9:=D9 (l:=[105,110,116]) h1;by_cases h2:s0=Ao
     ·have FV:Hid (R=cC):=Wx (by rw[EI];unfold Dq;rw[decide_eq_false (p:=s0≠Ao) (λh=>h h2),Bool.and_false];rfl);have e8:=FE (l:=[102,108,111,97,116]) h2;clear EI h1 h2;go_wp2;go_ret;exact⟨by rw[FV.out];rfl,hb3⟩
     ·have FV:Hid (R=cA):=Wx (by rw[EI];unfold Dq;rw[decide_eq_true h1,decide_eq_true h2];rfl);have e8:=D9 (l:=[102,108,111,97,116]) h2;clear EI h1 h2;go_wp2;go_ret;exact⟨by rw[FV.out];rfl,hb3⟩
   ·have hfe:fm=⟨cA,cA,0,0⟩:=Bh hop hfm.out rfl;have EU:BG.length=0:=(by have:=hlen.out;have h9:=hll.out;rw[hfe]at this;dsimp only at this;omega);have b0:=hX.c 0 _ rfl;rw[hop]at b0;have FV:Hid (R=cC):=Wx (CS.out.trans (zZ hop));clear CS hfm hd2 Kq J6 hpv hlen hop hown hfe hrow hlr EU hll hP hV;go_wp2;go_ret;exact⟨by rw[FV.out];rfl,hb3⟩
  ·have hlt:q<x.as.length:=(by omega);have A8:(q:Int)<(x.as.length:Int):=(by omega);obtain⟨a,rfl,c0,⟨c1,-⟩,c2⟩:=Kq q x.as[q] (by simp[hlt]);have hk:=AB h0 hb3;replace c0:=AA hk c0;replace c1:=AA hk c1;replace c2:=AA hk c2;have vO:=λW (hW:AA6 wr W)=>Vj (AB hk hW) J6 x.as[q]
   have hts:DU f (x.as.drop q)=match GJ f x.as[q]with
     |none=>cX
     |some t=>match DU f (x.as.drop (q+1))with
      |none=>cX
      |some l=>cP (t::l):=by
    rw[List.drop_eq_getElem_cons hlt];rfl
   have htz:=λt=>jg J6 (a:=x.as[q]) (t:=t);rw[hts]at hR;clear Kq hts;generalize GJ f x.as[q]=ty at*;generalize x.as[q].k=ka at*;generalize x.as[q].s=sa at*;generalize x.as[q].n=na at*;have hdr:=(Below.refl wr.heap.size wr).drew;go_wp2;refine ALQ (S:=λ_ v=>AA6 wr v) hdr ?_;(iterate 12(first|(refine Ab.q (λz=>z.s) ?_)|(refine Ab.f (λz=>z.s) (λz=>have hB:=hF.nx z.s;ALS (hB.c 0 _ rfl) (ALS (hB.c 1 _ rfl) (ALS (hB.c 2 _ rfl) (ALS (hB.c 3 _ rfl) (hB.c 4 _ rfl))))) ?_)|(refine Ab.f (λz=>z.s) (λz=>ALS (AA z.s b3) (ALS (AA z.s c0) (ALS (AA z.s c1) (AA z.s c2)))) ?_)|(apply Ab.y rfl;intro L w1 _ _ z hK;go_simp;go_wp2_with((refine(vO _ z.s).mono ?_;rintro e w2 ⟨hb,ho⟩;replace ho:=ho.form;subst ho));(try simp only[pE]);exact hK.out _ (AB z.s hb);rfl)));refine Ab.nil λw4 Bb=>?_;have hb5:=AB hb3 Bb;clear vO hdr c0 c1 c2 hk
   cases ty with
   |none=>
    have hR2:Hid (R=cA):=Wx (by rw[hR.out]);clear hP hF hX hV hR hown;go_wp2;go_ret
    exact⟨by rw[hR2.out];rfl,hb5⟩
   |some t=>
    have hzt:=htz t rfl
    have ES:R=match DU f (x.as.drop (q+1))with
      |none=>cA
      |some l=>Av p x d ((BG++[t])++l):=by
     rw[hR.out];dsimp only
     cases DU f (x.as.drop (q+1))with
     |none=>rfl
     |some l=>simp
    replace ES:=Wx ES;replace hown:=Xx hown Bb (AQ);have hb6:=AB hb2 Bb;clear hR htz hP hF hX hV hb3;go_wp2_with(at_builtin;go_loud (refine wpList_append_own _ rfl _ _ 78 rfl W.heap.size 9 iS _ 1 16 underlying78 hjS hy0 hy1 hy2 rfl (by decide) _ _ _ rfl (World.ownsRow.alloc hown _) ⟨w4.heap.size,0,cX⟩ 1 1 [cS t] rfl rfl (bL _ _) (λu hu=>by simp at hu;subst hu;rfl) ?c3 ?c4 ?c5 ?_))
    case c3=>have:=hll.out;unfold maxLen;omega
    case c4=>have:=hll.out;omega
    case c5=>have:=hb6.size;simp;omega
    intro v9 W9 RG hg9 _;obtain⟨p9,k9,rfl⟩:=Bf RG;have BJ:=(hb6.alloc hb6.size (.cells #[cS t] 9)).grown hg9 (by have:=hb6.size;simp;omega) λg e=>(hown.lt g e).1;have tJ:W9.ownsRow W.heap.size 9 1 (.slice p9 (BG++[t]).length k9) (BG++[t]).length ((BG++[t]).map .string):=(by simpa using RG);have ADv:Hid ((BG++[t]).length=q+1):=Wx (by simp[hll.out]);have ADY:∀s∈BG++[t],Sz s:=λs hs=>by
     rcases List.mem_append.1 hs with h|h
     ·exact hsz s h
     ·simp at h;subst h;exact hzt
    have hle:BG.length+1=(BG++[t]).length:=(by simp);rw[hle];clear RG hg9 hb6;go_wp2;go_roundw;exact⟨q+1,BG++[t],p9,k9,by omega,by go_num,rfl,BJ,tJ,ADv,ADY,ES⟩;simp[intOf];omega
end
section
abbrev rG(p:Pg):Prop:=∀f∈p.fs,f.ps.length<=30000/\f.vs.length<=30000
def sw:(prog.info? 71).map (λi=>(i.zero,i.size,i.bytes))=cP (cP (.agg #[cS ⟨#[]⟩,cS ⟨#[]⟩]),2,32):=by kernel_rfl
def cN:Option Cl->ByteArray
 |some c=>c.n
 |none=>⟨#[]⟩
def cL:Option Cl->Nat
 |some c=>c.fs.length
 |none=>0
theorem rR.form{r:Option Cl}{e:Ending}(h:rR w r e):∃q c,e=.returned (.tuple #[.agg #[cS (cN r),cY q (cL r) c],cE r.isSome]):=by
 cases r with
 |none=>exact⟨cX,0,h⟩
 |some c=>
  obtain⟨v,u,rfl,hv⟩:=h;obtain⟨q,k,rfl⟩:=hv.f.slice;exact⟨q,k,by rw[hv.e];rfl⟩
abbrev clT(n:ByteArray)(m:Nat)(ok:Bool)(q:Option Addr)(c:Nat):Value:=.tuple #[.agg #[cS n,cY q m c],cE ok]
def Pd(w0:World)(ca mv ex al:Nat)(n:ByteArray)(m:Nat)(ok:Bool)(V:Nat->Value)(L:Nat->Bool)(w1:World):Prop:=
 AA6 w0 w1/\(L ca=cC->∃q c,V ca=clT n m ok q c)/\(L mv=cC->∃q c,V mv=clT n m ok q c)/\(L ex=cC->∃q c,V ex=.agg #[cS n,cY q m c])/\
  (L al=cC->∃p x y,V al=.pointer (cP ⟨p,0,cX⟩)/\w0.heap.size<=p/\p<w1.heap.size/\Ae w1 p [x,y])
section
variable {w0 w1 w2 : World} {ca mv ex al : Nat} {n : ByteArray} {m : Nat} {ok : Bool} {V : Nat -> Value} {L : Nat -> Bool}
def Pd.start{V:Nat->Value}(h:AA6 w0 w1):Pd w0 ca mv ex al n m ok V (λ_=>cA) w1:=⟨h,(λe=>by cases e),(λe=>by cases e),(λe=>by cases e),λe=>by cases e⟩
def Pd.keep(h:Pd w0 ca mv ex al n m ok V L w1){i:Nat}(h1:(ca==i)=cA)(h2:(mv==i)=cA)(h3:(ex==i)=cA)(h4:(al==i)=cA):Pd w0 ca mv ex al n m ok V (upd L i) w1:=by
 unfold Pd;rw[upd_ne h1,upd_ne h2,upd_ne h3,upd_ne h4];exact h
theorem Pd.world(h:Pd w0 ca mv ex al n m ok V L w1)(hb:AA6 w1 w2):Pd w0 ca mv ex al n m ok V L w2:=by
 refine⟨AB h.1 hb,h.2.1,h.2.2.1,h.2.2.2.1,λe=>?_⟩;obtain⟨p,x,y,h1,h2,h3,h4⟩:=h.2.2.2.2 e;exact⟨p,x,y,h1,h2,A9 h3 hb.size,h4.nx hb⟩
theorem Pd.put(h:Pd w0 ca mv ex al n m ok V L w1){i:Nat}(a1:ca=i->∃q c,v=clT n m ok q c)(a2:mv=i->∃q c,v=clT n m ok q c)(a3:ex=i->∃q c,v=.agg #[cS n,cY q m c])(a4:al=i->∃p x y,v=.pointer (cP ⟨p,0,cX⟩)/\w0.heap.size<=p/\p<w1.heap.size/\Ae w1 p [x,y]):Pd w0 ca mv ex al n m ok (EB V i v) (upd L i) w1:=by
 refine⟨h.1,λe=>?_,λe=>?_,λe=>?_,λe=>?_⟩
 ·by_cases hi:ca=i
  ·rw[hi,BL];exact a1 hi
  ·rw[Br V v hi];rw[upd_ne (beq_false_of_ne hi)]at e;exact h.2.1 e
 ·by_cases hi:mv=i
  ·rw[hi,BL];exact a2 hi
  ·rw[Br V v hi];rw[upd_ne (beq_false_of_ne hi)]at e;exact h.2.2.1 e
 ·by_cases hi:ex=i
  ·rw[hi,BL];exact a3 hi
  ·rw[Br V v hi];rw[upd_ne (beq_false_of_ne hi)]at e;exact h.2.2.2.1 e
 ·by_cases hi:al=i
  ·rw[hi,BL];exact a4 hi
  ·rw[Br V v hi];rw[upd_ne (beq_false_of_ne hi)]at e;exact h.2.2.2.2 e
def Pd.fill(h:Pd w0 ca mv ex al n m ok V L w1){p:Nat}(hl:L al=cC)(hp:V al=.pointer (cP ⟨p,0,cX⟩))(x y:Value):Pd w0 ca mv ex al n m ok V L ((w1.setCell ⟨p,0,cX⟩ x).setCell ⟨p,1,cX⟩ y):=by
 obtain⟨p',x',y',h1,h2,h3,h4⟩:=h.2.2.2.2 hl;rw[hp]at h1;obtain rfl:p=p':=by simpa using h1
 refine⟨(h.1.setCell (p:=⟨p,0,cX⟩) h2 _).setCell (p:=⟨p,1,cX⟩) h2 _,h.2.1,h.2.2.1,h.2.2.2.1,λ_=>⟨p,x,y,hp,h2,by simpa using h3,?_⟩⟩;exact(h4.set (i:=0) (by simp) x).set (i:=1) (by simp) y
end
end
def Ox(p:Pg)(t:ByteArray):Cg p t=(!Dq t||(Ai Cl.n t p.cs).isSome):=by
 unfold Cg Dq;by_cases h1:t=BA<;>by_cases h2:t=Ao<;>simp[h1,h2]
theorem M5(p:Pg)(l:List Vr):Dv p l=cC↔(∀v∈l,Cg p v.t=cC)/\(l.map Vr.n).Nodup:=by
 unfold Dv;rw[Bool.and_eq_true,List.all_eq_true,Ip];simp
theorem Hr{l:List α}{f:α->ByteArray}(hq:q<l.length)(h:((l.take q).map f).Nodup)(hn:∀k,(h:k<q)->f l[k]≠f l[q]):((l.take (q+1)).map f).Nodup:=by
 rw[List.take_add_one,List.getElem?_eq_getElem hq];simp only[Option.toList_some,List.map_append,List.map_cons,List.map_nil];rw[List.nodup_append];refine⟨h,by simp,?_⟩;intro a ha b hb;obtain rfl:b=f l[q]:=by simpa using hb
 obtain⟨x,hx,rfl⟩:=List.mem_map.1 ha;obtain⟨i,hi,rfl⟩:=List.getElem_of_mem hx;simp only[List.length_take]at hi;rw[List.getElem_take];exact hn i (by omega)
def Jv{l:List α}{f:α->ByteArray}{k:Nat}(hk:k<q)(hq:q<l.length)(h:f (l[k]'(by omega))=f l[q]):¬(l.map f).Nodup:=by
 intro hn;have h2:=List.pairwise_iff_getElem.1 hn k q (by simp;omega) (by simp;omega) hk;simp only[List.getElem_map]at h2;exact h2 h
theorem Ub(h0:AA6 w0 w){u4:Value}(hp:Cj w0 v p u1 u2 u3 u4){l:List Vr}{u:Value}{w9:World}(h9:AA6 w9 w)(hl:Row IU 2 w9 u l):Calls prog 125 #[v,u] w λe w'=>e=.returned (cE (Dv p l))/\AA6 w w':=by
 have hpv:=hp;obtain⟨rfl,-,-,-,-⟩:=hp;obtain⟨pl,kl,rfl,-,hn,hl⟩:=hl;have hC:=λW (hW:AA6 w W) x=>Hq (AB h0 hW) hpv x;have hb1:=AJ w (.cells #[cE p.ssa,u1,u2,u3,u4] 27);have hP:=Ae.alloc w [cE p.ssa,u1,u2,u3,u4] 27;obtain⟨R,hR⟩:∃R,R=Dv p l:=⟨_,rfl⟩;rw[<-hR];have hR:=Wx hR;go_enter func125,ntmps125;go_wp2;go_loopw[5] (λi wr=>∃q:Nat,q<=l.length/\i=cI cJ (q:Int)/\AA6 w wr/\Ae wr w.heap.size [cE p.ssa,u1,u2,u3,u4]/\(∀k,(h:k<l.length)->k<q->Cg p l[k].t=cC)/\((l.take q).map Vr.n).Nodup) (λi _=>l.length-(intOf i).toNat);exact⟨0,AY,rfl,hb1,hP,λk _ h=>by omega,by simp⟩;obtain⟨q,hq,rfl,hb,hP,hK,hN⟩:=hrel;by_cases hend:q=l.length
 ·subst hend;have hR2:R=cC:=by
   rw[hR.out,M5];refine⟨λv hv=>?_,by simpa using hN⟩;obtain⟨k,hk,rfl⟩:=List.getElem_of_mem hv;exact hK k hk hk
  go_wp2;go_ret;exact⟨by rw[hR2];rfl,hb⟩
 ·have hlt:q<l.length:=by omega
  have A8:(q:Int)<l.length:=by omega
  obtain⟨a,rfl,⟨c0,z0⟩,c1,z1⟩:=hl q l[q] (by simp[hlt]);have hk9:=AB h9 hb;replace c0:=AA hk9 c0;replace c1:=AA hk9 c1;have hCx:=λW (hW:AA6 wr W)=>hC W (AB hb hW) l[q].t;have wT:=λW=>Ii l[q].t W;have hkn:=Ox p l[q].t;generalize(Ai Cl.n l[q].t p.cs)=r at*;generalize Dq l[q].t=rf at*;have hdr:=(Below.refl wr.heap.size wr).drew;go_wp2;refine ALR (S:=Pd wr 6 7 8 10 (cN r) (cL r) r.isSome) (Pd.start hdr) ?_;iterate 6((refine AU.f (λz=>z.s.keep rfl rfl rfl rfl) (λz=>ALS ((hP.nx z.s.1).c5) (AA z.s.1 c1)) ?_))
  refine AU.free (λ_=>rfl) (λV L w1 K' Q' hS hi hR' hd hK=>?_) ?_
  ·go_simp;(go_wp2_with(go_at_call 94;refine(hCx _ hS.1).mono ?_;rintro e w2 ⟨hb,ho⟩;obtain⟨q2,c2,rfl⟩:=ho.form));(try simp only[pE]);exact hK.out _ _ rfl ((hS.world hb).put (λ_=>⟨_,_,rfl⟩) (λe=>absurd e (by decide)) (λe=>absurd e (by decide)) (λe=>absurd e (by decide)))
  (try simp only[pE]);refine AU.free (λ_=>rfl) (λV L w1 K' Q' hS hi hR' hd hK=>?_) ?_
  ·obtain⟨q2,c2,hV⟩:=hS.2.1 (hd.out 6 (by kernel_rfl));simp only[hV];go_simp;(try simp only[pE]);exact hK.out _ _ (by simp only[hV];rfl) (hS.put (λe=>absurd e (by decide)) (λ_=>⟨_,_,rfl⟩) (λe=>absurd e (by decide)) (λe=>absurd e (by decide)))
  (try simp only[pE]);refine AU.free (λ_=>rfl) (λV L w1 K' Q' hS hi hR' hd hK=>?_) ?_
  ·obtain⟨q2,c2,hV⟩:=hS.2.2.1 (hd.out 7 (by kernel_rfl));simp only[hV];go_simp;(try simp only[pE]);exact hK.out _ _ (by simp only[hV];rfl) (hS.put (λe=>absurd e (by decide)) (λe=>absurd e (by decide)) (λ_=>⟨_,_,rfl⟩) (λe=>absurd e (by decide)))
  (try simp only[pE]);refine AU.val (cE r.isSome) (λ_=>rfl) (λV L w1 K' Q' hS hi hR' hd hK=>?_) ?_
  ·obtain⟨q2,c2,hV⟩:=hS.2.2.1 (hd.out 7 (by kernel_rfl));simp only[hV];go_simp;(try simp only[pE]);exact hK.out _ _ (by simp only[hV];rfl) (hS.keep rfl rfl rfl rfl)
  (try simp only[pE]);refine AU.free (λ_=>rfl) (λV L w1 K' Q' hS hi hR' hd hK=>?_) ?_
  ·go_simp;(try simp only[pE]);exact hK.out _ _ rfl ((hS.world (AJ _ _)).put (λe=>absurd e (by decide)) (λe=>absurd e (by decide)) (λe=>absurd e (by decide)) (λ_=>⟨_,_,_,rfl,hS.1.size,by simp,Ae.alloc _ _ _⟩))
  (try simp only[pE]);refine AU.val undef (λ_=>rfl) (λV L w1 K' Q' hS hi hR' hd hK=>?_) ?_
  ·have hl:=hd.out 10 (by kernel_rfl);obtain⟨q2,c2,hV⟩:=hS.2.2.2.1 (hd.out 8 (by kernel_rfl));obtain⟨pb,x,y,hp,hp0,hp1,hx⟩:=hS.2.2.2.2 hl;obtain⟨f0,f1⟩:=hx.f2;obtain⟨d0,d1⟩:=hx.c2;simp only[hV,hp];go_simp;refine hK.out _ _ (by simp only[hV,hp];rfl) ((hS.fill hl hp _ _).keep rfl rfl rfl rfl)
  simp only[Act.put];(refine AU.q (λz=>z.s.keep rfl rfl rfl rfl) ?_);refine AU.nil λV w1 hS=>?_;have hbx:=hS.1;obtain⟨q2,c2,hV1⟩:=hS.2.1 rfl;obtain⟨q3,c3,hV2⟩:=hS.2.2.1 rfl;obtain⟨q4,c4,GX⟩:=hS.2.2.2.1 rfl;obtain⟨pb,x,y,hp,hp0,hp1,hx⟩:=hS.2.2.2.2 rfl;simp only[hV1,hV2,GX,hp];have hb2:=AB hb hbx;replace c0:=AA hbx c0;replace c1:=AA hbx c1;have hP2:=hP.nx hbx;go_wp2_with fail;refine(wT _).mono ?_;rintro e w2 ⟨rfl,rfl⟩;have hbad:rf=cC->r.isSome=cA->R=cA:=λh1 h2=>by
   rw[hR.out,Bool.eq_false_iff];intro h3;have h4:=((M5 p l).1 h3).1 l[q] (by simp);rw[hkn,h1,h2]at h4;cases h4
  cases hrf:(rf&& !r.isSome)
  ·have hkq:Cg p l[q].t=cC:=by
    rw[hkn];revert hrf;cases rf<;>cases r.isSome<;>decide
   have hK':∀k,(h:k<l.length)->k<q+1->Cg p l[k].t=cC:=λk h h2=>by
    rcases Nat.lt_or_ge k q with h3|h3
    ·exact hK k h h3
    ·obtain rfl:k=q:=(by omega);exact hkq
   generalize hX:Wx hK'=hK2;generalize r.isSome=ok at*;cases rf;all_goals
    first|(have h:=hrf;simp only[Bool.true_and,Bool.not_eq_false']at h;subst h)|skip
    go_wp2;obtain⟨wo,rfl⟩:=again wr;go_loopw[8] (λi wr=>∃j:Nat,j<=q/\i=cI cJ (j:Int)/\AA6 w1 wr/\∀k,(h:k<j)->(h2:k<l.length)->l[k].n≠l[q].n) (λi _=>q-(intOf i).toNat);exact⟨0,AY,rfl,AL,λk h=>by omega⟩;obtain⟨j,hj,rfl,hb3,hne⟩:=hrel;have hb4:=AB hb2 hb3;by_cases IZ:j=q
    ·subst IZ;have Qh:=Hr (f:=Vr.n) hlt hN λk h=>hne k h (by omega);have gK:=Wx Qh;have hP3:=hP2.nx hb3;go_wp2;go_roundw;exact⟨j+1,by omega,by go_num,hb4,hP3,hK2.out,gK.out⟩;simp[intOf];omega
    ·have hjq:j<q:=(by omega);have qc:(j:Int)<q:=(by omega);obtain⟨a',ha',⟨d0,-⟩,-⟩:=hl j l[j] (by simp);obtain rfl:a=a':=(by simpa using ha');have hk9:=AB h9 hb4;replace d0:=AA hk9 d0;replace c0:=AA hb3 c0;have qU:j<l.length:=(by omega);have Zz:(j:Int)<l.length:=(by omega);have hno:=Jv (f:=Vr.n) hjq hlt;have hnx:l[j].n≠l[q].n->∀k,(h:k<j+1)->(h2:k<l.length)->l[k].n≠l[q].n:=λh1 k h h2=>by
      rcases Nat.lt_or_ge k j with h3|h3
      ·exact hne k h3 h2
      ·obtain rfl:k=j:=(by omega);exact h1
     have hbad:l[j].n=l[q].n->R=cA:=λh=>by
      rw[hR.out,Bool.eq_false_iff];intro h3;exact hno h ((M5 p l).1 h3).2
     replace hnx:=Wx hnx;replace hbad:=Wx hbad;have hb5:=hb3.drew;have hb6:=hb4.drew;by_cases heq:l[j].n=l[q].n
     ·have e1:=EZ heq;have hR2:=Wx (hbad.out heq);generalize l[j].n=s1 at*;generalize l[q].n=s2 at*;go_wp2;refine ALQ (S:=λ_ v=>v=wr.drew) rfl ?_;(iterate 11((apply Ab.z rfl;intro L w1 _ _ _ z hK;have hS:=z.s;(subst hS);go_simp;exact hK (rfl);rfl)));refine Ab.nil λw4 Bb=>?_;subst Bb;go_wp2;go_ret;exact⟨by rw[hR2.out];rfl,hb6⟩
     ·have e1:=Ea heq;replace hnx:=Wx (hnx.out heq);generalize hs1:l[j].n=s1 at*;generalize hs2:l[q].n=s2 at*;go_wp2;refine ALQ (S:=λ_ v=>v=wr.drew) rfl ?_;(iterate 11((apply Ab.z rfl;intro L w1 _ _ _ z hK;have hS:=z.s;(subst hS);go_simp;exact hK (rfl);rfl)));refine Ab.nil λw4 Bb=>?_;subst Bb;go_wp2;go_roundw;exact⟨j+1,by omega,by go_num,hb5,hnx.out⟩;simp[intOf];omega
  ·simp only[Bool.and_eq_true,Bool.not_eq_true']at hrf;obtain⟨e1,e2⟩:=hrf;have hR2:=hbad e1 e2;subst e1;go_wp2;go_ret;exact⟨by rw[hR2];rfl,hb2⟩
end Go.Proofs.YtlffomedflegdaaGreatDoor
