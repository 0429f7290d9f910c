/- Part 05 of the proof: Wv, Wq, Mac, Heap, HeapA, Ma, Mb, Push, Mc, HeapB, Md. -/
import Derived.Test.YtlffomedflegdaaGreatDoorPd04
set_option linter.all false
set_option maxHeartbeats 16000000
set_option maxRecDepth 100000
namespace Go.Proofs.YtlffomedflegdaaGreatDoor
open Go.Proofs.Tryz
open Go.RowKit
open Go.Value renaming int→cI,string→cS,slice→cY,bool→cE
open Go.IntKind renaming i64→cJ
open Option renaming some→cP,none→cX
open Bool renaming false→cA,true→cC
variable {B FB M N b cap g n pb:Nat}{P:Program}{ans fails:List Int}{d:Dt}{e:TypeId}{f:Fn}{i:Is}{l:List Dt}{m:Vm}{p:Pg}{part:Int}{s' t:St}{v z:Value}{w:World}{x:Lv}{xs:List Value}
section
open Num Dp
inductive Reach(p:Pg)(ans fails:List Int)(fuel:Int):St->Nat->St->Nat->Prop where
 |refl (s:St) (j:Nat):Reach p ans fails fuel s j s j
 |step {s s1 t:St} {j j1 k:Nat}:s.status=0->EP p ans fails fuel s j=cP (s1,j1)->Reach p ans fails fuel s1 j1 t k->Reach p ans fails fuel s j t k
def Runs(p:Pg)(ans fails:List Int)(fuel:Int)(s:St)(j:Nat)(t:St):Prop:=∃k,Reach p ans fails fuel s j t k/\t.status≠0
section
variable {p : Pg} {ans fails : List Int} {fuel : Int} {s s1 t u : St} {j j1 k : Nat}
theorem Reach.trans{s u:St}{j k:Nat}(h:Reach p ans fails fuel s j t k)(h2:Reach p ans fails fuel t k u n):Reach p ans fails fuel s j u n:=by
 induction h with
 |refl=>exact h2
 |step a b _ ih=>exact .step a b (ih h2)
def Runs.stop(h:s.status≠0):Runs p ans fails fuel s j s:=⟨j,.refl _ _,h⟩
theorem Runs.step(h:s.status=0)(hr:EP p ans fails fuel s j=cP (s1,j1))(h2:Runs p ans fails fuel s1 j1 t):Runs p ans fails fuel s j t:=by
 obtain⟨k,h3,h4⟩:=h2;exact⟨k,.step h hr h3,h4⟩
theorem Runs.still(h:Runs p ans fails fuel s j t)(hs:s.status≠0):t=s:=by
 obtain⟨k,h1,h2⟩:=h
 cases h1 with
 |refl=>rfl
 |step a _ _=>exact absurd a hs
theorem Runs.next(h:Runs p ans fails fuel s j t)(hs:s.status=0)(hr:EP p ans fails fuel s j=cP (s1,j1)):Runs p ans fails fuel s1 j1 t:=by
 obtain⟨k,h1,h2⟩:=h
 cases h1 with
 |refl=>exact absurd hs h2
 |step a b c=>
  rw[hr]at b;injection b with b;injection b with b1 b2;subst b1 b2;exact⟨k,c,h2⟩
theorem Runs.det(h:Runs p ans fails fuel s j t)(h2:Runs p ans fails fuel s j u):t=u:=by
 obtain⟨k,h1,h3⟩:=h
 induction h1 with
 |refl=>exact(h2.still h3).symm
 |step a b _ ih=>exact ih (h2.next a b) h3
theorem Runs.ABL(h:Runs p ans fails fuel s j t)(h2:Reach p ans fails fuel s j s1 j1):Runs p ans fails fuel s1 j1 t:=by
 induction h2 with
 |refl=>exact h
 |step a b _ ih=>exact ih (h.next a b)
theorem Reach.wt(hg:DJ p)(h:Reach p ans fails fuel s j t k)(hw:WT p s):WT p t:=by
 induction h with
 |refl=>exact hw
 |step a b _ ih=>
  obtain⟨t1,k1,e,hw1⟩:=Ml hg hw a ans fails fuel _;rw[b]at e;injection e with e;injection e with e1 e2;subst e1;exact ih hw1
end
structure Turn(s t:St):Prop where
 steps:t.steps=s.steps
 allocs:(t.allocs=s.allocs/\t.heap.length=s.heap.length)\/(t.allocs=s.allocs+1/\t.heap.length=s.heap.length+1)
 guards:t.guards=s.guards\/t.guards=s.guards+1
 seen:(t.trace=s.trace/\t.marks=s.marks/\t.asked=s.asked)\/∃e:Ev,t.trace=s.trace++[e]/\t.marks=s.marks++[s.allocs]/\e.ar.length<=8/\((e.n=Bv/\t.asked=s.asked)\/(e.n≠Bv/\t.asked=s.asked+1))
 frames:t.frames.length<=s.frames.length+1
 globals:t.globals.length=s.globals.length
 ends:t.status=1↔t.frames=[]
theorem Iz{s:St}{rest:List Lv}{d:ByteArray}{v:Vu}(h:Turn s {s' with frames:=rest++[x]})(hst:s'.status≠1)(hl:s.frames=rest++[x]):Turn s (BP s' rest x d v) where
 steps:=h.steps
 allocs:=h.allocs
 guards:=h.guards
 seen:=h.seen
 frames:=by unfold BP;rw[hl];simp
 globals:=h.globals
 ends:=by unfold BP;simp[hst]
theorem Jy{s:St}{rest:List Lv}{d:ByteArray}(hg:TU s' rest x d=cP t)(h:Turn s {s' with frames:=rest++[x]})(hst:s'.status≠1)(hl:s.frames=rest++[x]):Turn s t:=by grind [TU,Iz,cases St,cases Lv,cases Turn]
def Turn.same{s:St}{rest:List Lv}(hst:s.status≠1):Turn {s with frames:=rest++[x]} {s with frames:=rest++[x]}:=⟨rfl,.inl ⟨rfl,rfl⟩,.inl rfl,.inl ⟨rfl,rfl,rfl⟩,by simp,rfl,by simp[hst]⟩
theorem XU{s:St}{fr:List Lv}(h:s.frames=fr):{s with frames:=fr}=s:=by rw[<-h]
theorem Uy{s:St}{rest:List Lv}(hl:s.frames=rest++[x])(hst:s.status=0)(hw:i.as.length<=8)(hn:i.op=32->i.n≠Bv)(h:Bq p ans fails s rest x i=cP t):Turn s t:=by
 have h1:s.status≠1:=by rw[hst];decide
 have same:Turn s {s with frames:=rest++[x]}:=by
  have:=Turn.same (rest:=rest) (x:=x) h1;rwa[XU hl]at this⊢
 have st:∀{d v},Turn s (BP s rest x d v):=Iz same h1 hl;unfold Bq at h;by_cases ZG:i.op=25
 ·rw[if_pos ZG]at h;injection h with h;subst h;exact Iz ⟨rfl,.inr ⟨rfl,by simp⟩,.inl rfl,.inl ⟨rfl,rfl,rfl⟩,by rw[hl];simp,rfl,by simp[h1]⟩ h1 hl
 rw[if_neg ZG]at h;by_cases iM:i.op=29
 ·rw[if_pos iM]at h;split at h
  ·cases h
  split at h
  ·cases h
  injection h with h;subst h;exact st
 rw[if_neg iM]at h;by_cases c31:i.op=31
 ·rw[if_pos c31]at h;split at h
  ·cases h
  split at h
  ·cases h
  split at h
  ·cases h
  injection h with h;subst h;exact⟨rfl,.inl ⟨rfl,rfl⟩,.inl rfl,.inl ⟨rfl,rfl,rfl⟩,by rw[hl];simp,rfl,by simp[h1]⟩
 rw[if_neg c31]at h;by_cases c32:i.op=32
 ·rw[if_pos c32]at h;injection h with h;subst h;exact Iz ⟨rfl,.inl ⟨rfl,rfl⟩,.inl rfl,.inr ⟨_,rfl,rfl,by simpa using hw,.inr ⟨hn c32,rfl⟩⟩,by rw[hl];simp,rfl,by simp[JN,h1]⟩ h1 hl
 rw[if_neg c32]at h;by_cases c34:i.op=34
 ·rw[if_pos c34]at h;split at h
  ·injection h with h;subst h;exact⟨rfl,.inl ⟨rfl,rfl⟩,.inr rfl,.inl ⟨rfl,rfl,rfl⟩,by simp,rfl,by simp[hl]⟩
  ·exact Jy h ⟨rfl,.inl ⟨rfl,rfl⟩,.inr rfl,.inl ⟨rfl,rfl,rfl⟩,by rw[hl];simp,rfl,by simp[h1]⟩ h1 hl
 rw[if_neg c34]at h;split at h
 ·cases h
 rename_i a r has
 by_cases iN:i.op=22
 ·rw[if_pos iN]at h;injection h with h;subst h;exact st
 rw[if_neg iN]at h;by_cases c23:i.op=23
 ·rw[if_pos c23]at h;injection h with h;subst h;exact st
 rw[if_neg c23]at h;by_cases c24:i.op=24
 ·rw[if_pos c24]at h;injection h with h;subst h;exact st
 rw[if_neg c24]at h;have trap:∀c,Turn s (Gd s c):=λc=>⟨rfl,.inl ⟨rfl,rfl⟩,.inl rfl,.inl ⟨rfl,rfl,rfl⟩,by unfold Gd;simp,rfl,by unfold Gd;simp[hl]⟩;by_cases gT:i.op=26
 ·rw[if_pos gT]at h;split at h
  ·injection h with h;subst h;exact trap 1
  split at h
  ·cases h
  injection h with h;subst h;exact st
 rw[if_neg gT]at h;by_cases ZF:i.op=30
 ·rw[if_pos ZF]at h;split at h
  ·cases h
  split at h
  ·cases h
  exact Jy h ⟨rfl,.inl ⟨rfl,rfl⟩,.inl rfl,.inl ⟨rfl,rfl,rfl⟩,by rw[hl];simp,by simp[setAt],by simp[h1]⟩ h1 hl
 rw[if_neg ZF]at h;by_cases gQ:i.op=33
 ·rw[if_pos gQ]at h;exact Jy h ⟨rfl,.inl ⟨rfl,rfl⟩,.inl rfl,.inr ⟨_,rfl,rfl,by simp,.inl ⟨rfl,rfl⟩⟩,by rw[hl];simp,rfl,by simp[JN,h1]⟩ h1 hl
 rw[if_neg gQ]at h;split at h
 ·cases h
 by_cases Yy:i.op=27
 ·rw[if_pos Yy]at h;split at h
  ·injection h with h;subst h;exact trap 1
  split at h
  ·cases h
  exact Jy h ⟨rfl,.inl ⟨rfl,by simp[setAt]⟩,.inl rfl,.inl ⟨rfl,rfl,rfl⟩,by rw[hl];simp,rfl,by simp[h1]⟩ h1 hl
 rw[if_neg Yy]at h;by_cases c28:i.op=28
 ·rw[if_pos c28]at h;injection h with h;subst h;exact st
 rw[if_neg c28]at h;by_cases c14:1<=i.op/\i.op<=14
 ·rw[if_pos c14]at h;split at h
  ·injection h with h;subst h;exact st
  ·injection h with h;subst h;exact trap 2
 rw[if_neg c14]at h;by_cases c21:15<=i.op/\i.op<=21
 ·rw[if_pos c21]at h;injection h with h;subst h;exact st
 ·rw[if_neg c21]at h;cases h
def OU{s:St}{rest:List Lv}{y:ByteArray}(hl:s.frames=rest++[x])(hst:s.status=0)(h:H7 f s rest x y=cP t):Turn s t:=by
 unfold H7 at h;split at h
 ·cases h
 split at h
 ·injection h with h;subst h;exact⟨rfl,.inl ⟨rfl,rfl⟩,.inl rfl,.inl ⟨rfl,rfl,rfl⟩,by rw[hl];simp,rfl,by simp[hst]⟩
 ·cases h
theorem fJ{s:St}{rest:List Lv}{e:Tm}(hl:s.frames=rest++[x])(hst:s.status=0)(h:La p f s rest x e=cP t):Turn s t:=by
 unfold La at h;split at h
 ·split at h
  ·cases h
  ·exact OU hl hst h
 split at h
 ·split at h
  ·exact OU hl hst h
  ·cases h
 split at h
 ·unfold K4 at h;rcases List.eq_nil_or_concat rest with rfl|⟨r,y,rfl⟩
  ·rw[List.getLast?_nil]at h;injection h with h;subst h;exact⟨rfl,.inl ⟨rfl,rfl⟩,.inl rfl,.inl ⟨rfl,rfl,rfl⟩,by simp,rfl,by simp⟩
  ·rw[List.concat_eq_append,List.getLast?_concat,List.dropLast_concat]at h;dsimp only at h;split at h
   ·cases h
   split at h
   ·cases h
   split at h
   ·cases h
   split at h
   ·cases h
   injection h with h;subst h;unfold BP;exact⟨rfl,.inl ⟨rfl,rfl⟩,.inl rfl,.inl ⟨rfl,rfl,rfl⟩,by rw[hl];simp,rfl,by simp[hst]⟩
 split at h
 ·injection h with h;subst h;unfold Gd;exact⟨rfl,.inl ⟨rfl,rfl⟩,.inl rfl,.inl ⟨rfl,rfl,rfl⟩,by simp,rfl,by simp[hl]⟩
 ·cases h
def KO(p:Pg):Prop:=∀e∈p.xs,e.n≠Bv
theorem XQ(hg:DJ p)(hx:KO p){s:St}{b:Bk}(hst:s.status=0)(hl:s.frames=s.frames.dropLast++[x])(hfr:Ca p s.heap x f b)(h:El p ans fails s x f b=cP t):Turn s t:=by
 unfold El at h;split at h
 ·exact fJ hl hst h
 ·split at h
  ·cases h
  ·rename_i i hi
   obtain⟨Zc,_⟩:=((hg.fs f (Ak hfr.1).1).b b (Ak hfr.2.1).1).cs i (List.mem_of_getElem? hi);obtain⟨fm,d,l,hfo,hlen,hd,hts,hll,hq⟩:=Gx Zc;refine Uy hl hst ?_ (λh32=>?_) h
   ·have:=PD hfo;omega
   ·have hex:Qr p i d l=cC:=by
     unfold Av BX at hq;rw[h32]at hq;simpa using hq
    unfold Qr at hex
    cases hv:Ai Ex.n i.n p.xs with
    |none=>rw[hv]at hex;cases hex
    |some g=>
     obtain⟨h1,h2⟩:=Ak hv;rw[<-h2];exact hx g h1
theorem d9{α:Type}{c:Prop}[Decidable c]{a b:Option α}{t:α}:((if c then a else b)=cP t)↔((c/\a=cP t)\/(¬c/\b=cP t)):=by
 by_cases hc:c<;>simp[hc]
def YS{s:St}{rest:List Lv}{d:ByteArray}(h:TU s rest x d=cP t):t.steps=s.steps:=by
 unfold TU at h;split at h
 ·injection h with h;subst h;rfl
 ·cases h
theorem QS{s:St}{rest:List Lv}(h:Bq p ans fails s rest x i=cP t):t.steps=s.steps:=by
 unfold Bq at h;repeat'(first|(injection h with h;subst h;rfl)|exact(YS h).trans rfl|cases h;done|(rw[d9]at h;rcases h with⟨_,h⟩|⟨_,h⟩)|split at h)
theorem U8{s:St}{rest:List Lv}{e:Tm}(h:La p f s rest x e=cP t):t.steps=s.steps:=by
 unfold La H7 K4 at h;repeat'(first|(injection h with h;subst h;rfl)|cases h;done|split at h)
theorem SE{s:St}{b:Bk}(h:El p ans fails s x f b=cP t):t.steps=s.steps:=by grind [El,U8,QS,cases Pg,cases St,cases Lv,cases Fn,cases Bk]
def ABh{s:St}{rest:List Lv}{d:ByteArray}(hs:s.status≠3)(h:TU s rest x d=cP t):t.status≠3:=by
 unfold TU at h;split at h
 ·injection h with h;subst h;exact hs
 ·cases h
theorem ABX{s:St}{rest:List Lv}(hs:s.status≠3)(h:Bq p ans fails s rest x i=cP t):t.status≠3:=by
 unfold Bq at h;repeat'(first|(injection h with h;subst h;first|exact hs|(show(4:Int)≠3;decide)|(show(2:Int)≠3;decide))|(refine ABh ?_ h;exact hs)|cases h;done|(rw[d9]at h;rcases h with⟨_,h⟩|⟨_,h⟩)|split at h)
theorem ABb{s:St}{rest:List Lv}{e:Tm}(hs:s.status≠3)(h:La p f s rest x e=cP t):t.status≠3:=by
 unfold La H7 K4 at h;repeat'(first|(injection h with h;subst h;first|exact hs|(show(1:Int)≠3;decide)|(show(2:Int)≠3;decide))|cases h;done|split at h)
theorem ABN{s:St}{b:Bk}(hs:s.status≠3)(h:El p ans fails s x f b=cP t):t.status≠3:=by grind [El,ABb,ABX,cases Pg,cases St,cases Lv,cases Fn,cases Bk]
structure ZH(s:St):Prop where
 st:0<=s.steps
 al:0<=s.allocs/\s.allocs<=s.steps/\s.allocs=s.heap.length
 gu:0<=s.guards/\s.guards<=s.steps
 asks:0<=s.asked/\s.asked=((s.trace.filter (λe=>decide (e.n≠Bv))).length:Int)
 tr:(s.trace.length:Int)<=s.steps
 o8:s.marks.length=s.trace.length
 ms:∀m∈s.marks,0<=m/\m<=s.allocs
 up:∀(k:Nat) a b,s.marks[k]? =cP a->s.marks[k+1]? =cP b->a<=b
 ar:∀e∈s.trace,e.ar.length<=8
 fr:(s.frames.length:Int)<=s.steps+1
 en:s.status=1↔s.frames=[]
theorem ZH.turn{s:St}(h:ZH s)(k:Turn {s with steps:=s.steps+1} t):ZH t:=by
 obtain⟨k1,k2,k3,k4,k5,k6,k7⟩:=k;dsimp only at k1 k2 k3 k4 k5 k6;have hal:=h.al;have htr:=h.tr;have hfr:=h.fr;have hst:=h.st;have hgu:=h.gu;have hup:∀m∈s.marks,0<=m/\m<=t.allocs:=λm hm=>by
  have:=h.ms m hm;rcases k2 with k2|k2<;>omega
 have hasks:=h.asks;have b1:0<=t.steps:=by omega
 have b2:0<=t.allocs:=by rcases k2 with k2|k2<;>omega
 have b3:t.allocs<=t.steps:=by rcases k2 with k2|k2<;>omega
 have b4:t.allocs=t.heap.length:=by rcases k2 with k2|k2<;>omega
 have b5:0<=t.guards/\t.guards<=t.steps:=by rcases k3 with k3|k3<;>omega
 have b6:(t.frames.length:Int)<=t.steps+1:=by omega
 refine⟨b1,⟨b2,b3,b4⟩,b5,?_,?_,?_,?_,?_,?_,b6,k7⟩
 ·rcases k4 with⟨e1,e2,e3⟩|⟨e,e1,e2,e3,e4⟩
  ·rw[e1,e3];exact h.asks
  ·rw[e1,List.filter_append];rcases e4 with⟨n1,n2⟩|⟨n1,n2⟩
   ·rw[n2];simp only[List.filter_cons,n1];simpa using hasks
   ·rw[n2];have e5:List.filter (λe:Ev=>decide (e.n≠Bv)) [e]=[e]:=(by simp[n1]);rw[e5];simp only[List.length_append,List.length_cons,List.length_nil];constructor
    ·omega
    ·rw[hasks.2];omega
 ·rcases k4 with⟨e1,_⟩|⟨e,e1,_⟩
  ·rw[e1];omega
  ·rw[e1,List.length_append];push_cast;simp;omega
 ·rcases k4 with⟨e1,e2,_⟩|⟨e,e1,e2,_⟩
  ·rw[e1,e2];exact h.o8
  ·rw[e1,e2];simp[h.o8]
 ·rcases k4 with⟨e1,e2,_⟩|⟨e,e1,e2,_⟩
  ·rw[e2];exact hup
  ·rw[e2];intro m hm;rcases List.mem_append.1 hm with hm|hm
   ·exact hup m hm
   ·obtain rfl:m=s.allocs:=(by simpa using hm);rcases k2 with k2|k2<;>omega
 ·rcases k4 with⟨e1,e2,_⟩|⟨e,e1,e2,_⟩
  ·rw[e2];exact h.up
  ·rw[e2];intro n a b ha hb;have hbl:=(List.getElem?_eq_some_iff.1 hb).1;rw[List.length_append]at hbl;have hn:n<s.marks.length:=(by simp at hbl;omega);rw[List.getElem?_append_left hn]at ha;by_cases hn2:n+1<s.marks.length
   ·rw[List.getElem?_append_left hn2]at hb;exact h.up n a b ha hb
   ·rw[List.getElem?_append_right (by omega)]at hb;have:n+1-s.marks.length=0:=(by omega);rw[this]at hb;obtain rfl:s.allocs=b:=(by simpa using hb);exact(h.ms a (List.mem_of_getElem? ha)).2
 ·rcases k4 with⟨e1,_⟩|⟨e,e1,_,e3,_⟩
  ·rw[e1];exact h.ar
  ·rw[e1];intro e' he';rcases List.mem_append.1 he' with h1|h1
   ·exact h.ar e' h1
   ·obtain rfl:e'=e:=(by simpa using h1);exact e3
end
section
open Num Dp
section
variable {p : Pg} {ans fails : List Int} {fuel : Int} {s s1 t u : St} {j j1 k : Nat}
theorem KS{rest:List Lv}{y:ByteArray}(h:H7 f s rest x y=cP t):t={s with frames:=rest++[⟨x.f,y,0,x.vars⟩]}:=by
 unfold H7 at h;grind
def Il(_:DJ p)(hw:WT p s)(hst:s.status=0)(h:EP p ans fails fuel s j=cP (t,k)):∃x f b,xH p s=cP (x,f,b)/\s.frames=s.frames.dropLast++[x]/\Ca p s.heap x f b/\((H8 x b=cC/\j=256/\t={s with status:=3}/\k=j)\/(H8 x b=cC/\j≠256/\k=j+1/\El p ans fails s x f b=cP t)\/(H8 x b=cA/\fuel<=s.steps/\t={s with status:=3}/\k=j)\/(H8 x b=cA/\s.steps<fuel/\k=0/\El p ans fails {s with steps:=s.steps+1} x f b=cP t)):=by
 obtain⟨x,f,b,h1,h2,h3⟩:=Z8 hw hst;refine⟨x,f,b,h1,h2,h3,?_⟩;unfold EP at h;rw[h1]at h;dsimp only at h
 cases hfree:H8 x b with
 |true=>
  rw[hfree,if_pos rfl]at h;by_cases hj:j=256
  ·rw[if_pos hj]at h;injection h with h;injection h with h4 h5;exact .inl ⟨rfl,hj,h4.symm,h5.symm⟩
  ·rw[if_neg hj]at h
   cases hs:El p ans fails s x f b with
   |none=>rw[hs]at h;cases h
   |some t'=>
    rw[hs]at h;injection h with h;injection h with h4 h5;subst h4
    exact .inr (.inl ⟨rfl,hj,h5.symm,rfl⟩)
 |false=>
  rw[hfree,if_neg (by decide)]at h;by_cases hs:fuel<=s.steps
  ·rw[if_pos hs]at h;injection h with h;injection h with h4 h5;exact .inr (.inr (.inl ⟨rfl,hs,h4.symm,h5.symm⟩))
  ·rw[if_neg hs]at h
   cases hs2:El p ans fails {s with steps:=s.steps+1} x f b with
   |none=>rw[hs2]at h;cases h
   |some t'=>
    rw[hs2]at h;injection h with h;injection h with h4 h5;subst h4;exact .inr (.inr (.inr ⟨rfl,by omega,h5.symm,rfl⟩))
theorem JX{b:Bk}(h:H8 x b=cC):x.i=b.cs.length/\b.e.k=1:=by simp_all[H8]
def O9(hg:DJ p){b:Bk}(hx:Ca p s.heap x f b)(hf:H8 x b=cC)(h:El p ans fails s x f b=cP t):∃y b',b.e.to=[y]/\Ai Bk.n y f.bs=cP b'/\t={s with frames:=s.frames.dropLast++[⟨x.f,y,0,x.vars⟩]}:=by
 obtain⟨h1,h2⟩:=JX hf;have hgb:=(hg.fs f (Ak hx.1).1).b b (Ak hx.2.1).1;obtain⟨y,hy⟩:=Fg (hgb.to1 h2);obtain⟨b',hb'⟩:=hgb.ways y (by rw[hy];simp);unfold El at h;rw[if_pos h1]at h;unfold La at h;rw[if_pos h2,hy]at h;exact⟨y,b',hy,hb',KS h⟩
theorem Oa(hg:DJ p)(hn:KO p)(hw:WT p s)(hc:ZH s)(hst:s.status=0)(h:EP p ans fails fuel s j=cP (t,k)):ZH t/\(∃l,t.trace=s.trace++l)/\s.guards<=t.guards/\(s.steps<=fuel->t.steps<=fuel)/\(t.steps=s.steps\/t.steps<=fuel)/\t.globals.length=s.globals.length:=by
 obtain⟨x,f,b,h1,h2,h3,h4⟩:=Il hg hw hst h;have hl:=hw.live hst;have spent:ZH {s with status:=3}:=⟨hc.st,hc.al,hc.gu,hc.asks,hc.tr,hc.o8,hc.ms,hc.up,hc.ar,hc.fr,by simp[hl]⟩;rcases h4 with⟨_,_,rfl,_⟩|⟨hf,hj,rfl,hs⟩|⟨_,_,rfl,_⟩|⟨hf,hlt,rfl,hs⟩
 ·exact⟨spent,⟨[],by simp⟩,Int.le_refl _,id,.inl rfl,rfl⟩
 ·obtain⟨y,b',_,_,rfl⟩:=O9 hg h3 hf hs;refine⟨⟨hc.st,hc.al,hc.gu,hc.asks,hc.tr,hc.o8,hc.ms,hc.up,hc.ar,?_,by simp[hst]⟩,⟨[],by simp⟩,Int.le_refl _,id,.inl rfl,rfl⟩;have:=hc.fr;rw[h2]at this;simp at this⊢;omega
 ·exact⟨spent,⟨[],by simp⟩,Int.le_refl _,id,.inl rfl,rfl⟩
 ·have ht:=XQ (s:={s with steps:=s.steps+1}) hg hn hst h2 h3 hs;have hsteps:t.steps=s.steps+1:=ht.steps;refine⟨hc.turn ht,?_,?_,λ_=>by omega,.inr (by omega),ht.globals⟩
  ·rcases ht.seen with⟨e,_⟩|⟨e,e1,_⟩
   ·exact⟨[],by rw[e];simp⟩
   ·exact⟨[e],e1⟩
  ·rcases ht.guards with e|e<;>(dsimp only at e;omega)
theorem Reach.cnt(hg:DJ p)(hn:KO p)(h:Reach p ans fails fuel s j t k)(hw:WT p s)(hc:ZH s):ZH t/\(∃l,t.trace=s.trace++l)/\s.guards<=t.guards/\(t.steps=s.steps\/t.steps<=fuel)/\t.globals.length=s.globals.length:=by
 induction h with
 |refl=>exact⟨hc,⟨[],by simp⟩,Int.le_refl _,.inl rfl,rfl⟩
 |step a b _ ih=>
  obtain⟨c1,⟨l1,c2⟩,c3,c4,c5,c7⟩:=Oa hg hn hw hc a b;obtain⟨t1,k1,e,hw1⟩:=Ml hg hw a ans fails fuel _;rw[b]at e;injection e with e;injection e with e1 e2;subst e1;obtain⟨d1,⟨l2,d2⟩,d3,d4,d5⟩:=ih hw1 c1;refine⟨d1,⟨l1++l2,by rw[d2,c2,List.append_assoc]⟩,Int.le_trans c3 d3,?_,d5.trans c7⟩;rcases d4 with d4|d4
  ·rcases c5 with c5|c5
   ·exact .inl (d4.trans c5)
   ·exact .inr (by omega)
  ·exact .inr d4
theorem round_part(hp:part<=fuel)(hg:DJ p)(hw:WT p s)(hst:s.status=0)(h:EP p ans fails part s j=cP (t,k)):(EP p ans fails fuel s j=cP (t,k)/\t.status≠3)\/(t={s with status:=3}/\k=j):=by
 have gN:s.status≠3:=by rw[hst];decide
 obtain⟨x,f,b,h1,h2,h3,h4⟩:=Il hg hw hst h;rcases h4 with⟨_,_,e1,e2⟩|⟨hf,hj2,rfl,hs⟩|⟨_,_,e1,e2⟩|⟨hf,hlt,rfl,hs⟩
 ·exact .inr ⟨e1,e2⟩
 ·refine .inl ⟨?_,ABN gN hs⟩;unfold EP;rw[h1];dsimp only;rw[if_pos hf,if_neg hj2,hs];rfl
 ·exact .inr ⟨e1,e2⟩
 ·refine .inl ⟨?_,ABN (s:={s with steps:=s.steps+1}) gN hs⟩;unfold EP;rw[h1];dsimp only;rw[if_neg (by rw[hf];decide),if_neg (by omega),hs];rfl
theorem ABT(hp:part<=fuel)(hg:DJ p)(h:Reach p ans fails part s j t k)(hw:WT p s)(gN:s.status≠3):(Reach p ans fails fuel s j t k/\t.status≠3)\/∃s',Reach p ans fails fuel s j s' k/\s'.status=0/\t={s' with status:=3}:=by
 induction h with
 |refl=>exact .inl ⟨.refl _ _,gN⟩
 | @step s s1 t j j1 k a b c ih=>
  obtain⟨t1,k1,e,hw1⟩:=Ml hg hw a ans fails part j;rw[b]at e;injection e with e;injection e with e1 e2;subst e1 e2;rcases round_part hp hg hw a b with⟨h,h3⟩|⟨rfl,rfl⟩
  ·rcases ih hw1 h3 with⟨ih,h4⟩|⟨s',i1,i2,i3⟩
   ·exact .inl ⟨.step a h ih,h4⟩
   ·exact .inr ⟨s',.step a h i1,i2,i3⟩
  ·cases c with
   |refl=>exact .inr ⟨s,.refl _ _,a,rfl⟩
   |step d _ _=>simp at d
theorem ABS{a c:St}(hp:part<=fuel)(hg:DJ p)(hn:KO p)(hw:WT p s)(gN:s.status≠3)(hc:ZH s)(ha:Runs p ans fails part s j a)(h:Runs p ans fails fuel s j c):∃l,c.trace=a.trace++l:=by
 obtain⟨k,h1,h2⟩:=ha;rcases ABT hp hg h1 hw gN with⟨h3,_⟩|⟨s',h3,h4,h5⟩
 ·obtain rfl:=(h.ABL h3).still h2;exact⟨[],by simp⟩
 ·obtain⟨k2,h6,_⟩:=h.ABL h3;have hw':=h3.wt hg hw;obtain⟨hc',_⟩:=h3.cnt hg hn hw hc;obtain⟨_,⟨l,hl⟩,_⟩:=h6.cnt hg hn hw' hc';exact⟨l,by rw[h5];exact hl⟩
end
end
section
def C9(v:Vu):Dt:=.agg [dS v.1,dN v.2]
def Kw(x:Lv):Dt:=.agg [dS x.f,dS x.b,dN x.i,.mp x.vars]
def Ld(x:Ob):Dt:=.agg [dS x.c,.row 34 2 (x.vs.map C9)]
def Qc(e:Ev):Dt:=.agg [dS e.n,.row 2 1 (e.ar.map dN),dN e.r,.cell (cE e.fl)]
def Eh(s:St):Dt:=.agg [dN s.status,C9 s.result,dN s.code,.row 84 4 (s.frames.map Kw),.row 119 2 (s.heap.map Ld),.row 34 2 (s.globals.map C9),
 .row 59 4 (s.trace.map Qc),.row 2 1 (s.marks.map dN),dN s.allocs,dN s.steps,dN s.guards,dN s.asked]
def uE(x:Vu):(C9 x).wd=2:=rfl
def UG(x:Lv):(Kw x).wd=4:=rfl
def UF(x:Ob):(Ld x).wd=2:=rfl
def UH(x:Ev):(Qc x).wd=4:=rfl
theorem QA(x:St):(Eh x).wd=13:=rfl
structure Hd where (u0 u1 u2 u3 u4 av fv:Value)
def dM(k:Hd)(s:St)(j:Int):Dt:=.agg [.cell k.u0,.cell k.u1,.cell k.u2,.cell k.u3,.cell k.u4,Eh s,.cell k.av,.cell k.fv,dN j]
structure Am(w:World)(B N M:Nat)(k:Hd)(s:St)(j:Int):Prop where
 own:Own w B N (dM k s j) M 0
 typ:∃cur T,w.heap[M]? =cP (.cells cur T (0,0))
section
variable {w w1 : World} {B N M : Nat} {k : Hd} {s : St} {j : Int}
theorem Am.kp(h:Am w B N M k s j)(hb:Below N w w1):Am w1 B N M k s j:=⟨h.own.kp hb,by
 obtain⟨cur,T,e⟩:=h.typ
 exact⟨cur,T,(hb.block M h.own.lt).trans e⟩⟩
theorem Am.Bw(h:Am w B N M k s j)(i:Nat):w.frozen? ⟨M,i,cX⟩=cA:=by
 obtain⟨cur,T,e⟩:=h.typ;unfold World.frozen?;grind
def Iq{cur:Array Value}{T:TypeId}(e:w.heap[M]? =cP (.cells cur T (0,0)))(a:Addr)(v:Value):∃cur T,(w.setCell a v).heap[M]? =cP (.cells cur T (0,0)):=by
 by_cases h:a.block=M
 ·subst h;unfold World.setCell;simp only[Array.getElem?_modify,if_true,e,Option.map_some];split<;>exact⟨_,_,rfl⟩
 ·exact⟨cur,T,(Below.heap_setCell _ _ _ _ (λe=>h e.symm)).trans e⟩
def Am.of(h:Am w B N M k s j){j':Int}{a:Addr}(ho:Own (w.setCell a v) B N d M 0)(e:d=dM k s' j'):Am (w.setCell a v) B N M k s' j':=by
 obtain⟨cur,T,e1⟩:=h.typ;exact⟨e▸ho,Iq e1 a v⟩
theorem Am.hd(h:Am w B N M k s j):w.cell? ⟨M,0,cX⟩=cP k.u0/\w.cell? ⟨M,1,cX⟩=cP k.u1/\w.cell? ⟨M,2,cX⟩=cP k.u2/\w.cell? ⟨M,3,cX⟩=cP k.u3/\w.cell? ⟨M,4,cX⟩=cP k.u4/\w.cell? ⟨M,18,cX⟩=cP k.av/\w.cell? ⟨M,19,cX⟩=cP k.fv/\w.cell? ⟨M,20,cX⟩=cP (cI cJ j):=by
 have s0:=h.own.spot;unfold dM at s0;exact⟨(s0.nth 0 rfl rfl).cell,(s0.nth 1 rfl rfl).cell,(s0.nth 2 rfl rfl).cell,(s0.nth 3 rfl rfl).cell,(s0.nth 4 rfl rfl).cell,(s0.nth 6 rfl (n:=18) (by simp[Dt.DF,Dt.wd,QA])).cell,(s0.nth 7 rfl (n:=19) (by simp[Dt.DF,Dt.wd,QA])).cell,Aq.cell (s0.nth 8 rfl (n:=20) (by simp[Dt.DF,Dt.wd,QA]))⟩
theorem Am.st(h:Am w B N M k s j):Aq w B N (dM k s j) M 0 (Eh s) M 5 (λy=> .agg [.cell k.u0,.cell k.u1,.cell k.u2,.cell k.u3,.cell k.u4,y,.cell k.av,.cell k.fv,dN j]):=by
 have s0:=h.own.spot;unfold dM at s0;have s1:=s0.nth 5 rfl (n:=5) (by simp[Dt.DF,Dt.wd]);exact s1
theorem Am.ns(h:Am w B N M k s j):w.cell? ⟨M,5,cX⟩=cP (cI cJ s.status)/\w.cell? ⟨M,6,cX⟩=cP (cS s.result.1)/\w.cell? ⟨M,7,cX⟩=cP (cI cJ s.result.2)/\w.cell? ⟨M,8,cX⟩=cP (cI cJ s.code)/\w.cell? ⟨M,14,cX⟩=cP (cI cJ s.allocs)/\w.cell? ⟨M,15,cX⟩=cP (cI cJ s.steps)/\w.cell? ⟨M,16,cX⟩=cP (cI cJ s.guards)/\w.cell? ⟨M,17,cX⟩=cP (cI cJ s.asked):=by
 have s0:=h.st;unfold Eh at s0;have s1:=s0.nth 1 rfl rfl;unfold C9 at s1;exact⟨Aq.cell (s0.nth 0 rfl rfl),Aq.cell (s1.nth 0 rfl rfl),Aq.cell (s1.nth 1 rfl rfl),Aq.cell (s0.nth 2 rfl rfl),Aq.cell (s0.nth 8 rfl rfl),Aq.cell (s0.nth 9 rfl rfl),Aq.cell (s0.nth 10 rfl rfl),Aq.cell (s0.nth 11 rfl rfl)⟩
structure DX(w:World)(M FB n cap b:Nat)(x:Lv):Prop where
 sl:w.cell? ⟨M,9,cX⟩=cP (cY (cP ⟨FB,0,cX⟩) (n+1) cap)
 f:w.cell? ⟨FB,n*4,cX⟩=cP (cS x.f)
 bl:w.cell? ⟨FB,n*4+1,cX⟩=cP (cS x.b)
 i:w.cell? ⟨FB,n*4+2,cX⟩=cP (cI cJ x.i)
 v:w.cell? ⟨FB,n*4+3,cX⟩=cP (.map (cP b))
 m:CQ w b x.vars
 z:∀o,w.frozen? ⟨FB,o,cX⟩=cA
 l:n+1<=140737488351232
theorem DX.kp(h:DX w M FB n cap b x)(hb:AA6 w w1):DX w1 M FB n cap b x where
 sl:=AA hb h.sl
 f:=AA hb h.f
 bl:=AA hb h.bl
 i:=AA hb h.i
 v:=AA hb h.v
 m:=h.m.other (hb.block b h.m.lt)
 z:=λo=>by
  have hlt:FB<w.heap.size:=World.block_lt_of_cell? w ⟨FB,n*4,cX⟩ h.f;rw[hb.frozen (p:=⟨FB,o,cX⟩) hlt];exact h.z o
 l:=h.l
theorem Am.top(h:Am w B N M k s j){rest:List Lv}(hfr:s.frames=rest++[x])(hl:rest.length+1<=140737488351232):∃FB cap b,DX w M FB rest.length cap b x/\B<=FB/\FB<N/\B<=b/\b<N/\(∀n:Int,Am (w.setCell ⟨FB,rest.length*4+2,cX⟩ (cI cJ n)) B N M k {s with frames:=rest++[{x with i:=n.toNat}]} j\/n<0)/\(∀y:ByteArray,Am (w.setCell ⟨FB,rest.length*4+1,cX⟩ (cS y)) B N M k {s with frames:=rest++[{x with b:=y}]} j)/\(∀w' m',CQ w' b m'->(∀q,q≠b->w'.heap[q]? =w.heap[q]?)->w.heap.size<=w'.heap.size->Am w' B N M k {s with frames:=rest++[{x with vars:=m'}]} j):=by
 have hSt:Eh s=.agg ([dN s.status,C9 s.result,dN s.code]++ .row 84 4 (rest.map Kw++Kw x::[])::[.row 119 2 (s.heap.map Ld),.row 34 2 (s.globals.map C9),
   .row 59 4 (s.trace.map Qc),.row 2 1 (s.marks.map dN),dN s.allocs,dN s.steps,dN s.guards,dN s.asked]):=by
  unfold Eh;rw[hfr];simp
 have s0:=h.st;rw[hSt]at s0;have s1:=s0.agg;obtain⟨FB,cap,c9,fz,_,s2⟩:=s1.row;rw[List.length_map]at c9 s2;have a0:=Aq.cell (v:=cS x.f) (Aq.nth (l:=[dS x.f,dS x.b,dN x.i,.mp x.vars]) s2 0 rfl rfl);have a1:=Aq.nth (l:=[dS x.f,dS x.b,dN x.i,.mp x.vars]) s2 1 rfl rfl;have a2:=Aq.nth (l:=[dS x.f,dS x.b,dN x.i,.mp x.vars]) s2 2 rfl rfl;have a3:=Aq.nth (l:=[dS x.f,dS x.b,dN x.i,.mp x.vars]) s2 3 rfl rfl;obtain⟨b,c3,hB,hm,hbN,hput⟩:=a3.put;have hat:=s2.at;refine⟨FB,cap,b,⟨c9,a0,Aq.cell a1,Aq.cell a2,c3,hm,?_,hl⟩,hat.1,hat.2.1,hB,hbN,λn=>?_,λy=>?_,λw' m' hm' hk hsz=>?_⟩
 ·exact fz
 ·by_cases hn:n<0
  ·exact .inr hn
  ·refine .inl (h.of (Aq.set1 (v1:=cI cJ n) a2 rfl) ?_);unfold dM Eh;simp[Kw,dN,show((n.toNat:Nat):Int)=n by omega]
 ·refine h.of (Aq.set1 (v1:=cS y) a1 rfl) ?_;unfold dM Eh;simp[Kw,dS]
 ·have ho:=hput w' m' hm' hk hsz;obtain⟨cur,T,e1⟩:=h.typ;have hMb:M≠b:=λe=>by
   subst e;obtain⟨es,clock,e2,_⟩:=hm;rw[e1]at e2;cases e2
  refine⟨?_,cur,T,(hk M hMb).trans e1⟩;unfold dM Eh;simpa[Kw,dS,dN]using ho
end
end
abbrev Vl:=ByteArray×Int
def isRef(s:ByteArray):Bool:=s.toList==[114,101,102]
def UA(n:Nat)(v:Vl):Bool:=isRef v.1&&decide (1<=v.2)&&decide (v.2<=(n:Int))
def X7(ph:Option Addr)(n ch:Nat)(_:n<=9223372036854775807)(s:ByteArray)(k:Int)(h:UA n (s,k)=cA)(w:World):Calls prog 194 #[cY ph n ch,.agg #[cS s,cI cJ k]] w λe w'=>e=.returned (.tuple #[.agg #[cS .empty,cY cX 0 0],cE cA])/\AA6 w w':=by
 unfold UA isRef at h;dsimp only at h;have hc:(¬s.toList=[114,101,102])\/(s.toList=[114,101,102]/\k<1)\/(s.toList=[114,101,102]/\1<=k/\(n:Int)<k):=by
  by_cases e1:s.toList=[114,101,102]
  ·by_cases h1:1<=k
   ·by_cases h2:k<=(n:Int)
    ·simp[e1,h1,h2]at h
    ·exact .inr (.inr ⟨e1,h1,by omega⟩)
   ·exact .inr (.inl ⟨e1,by omega⟩)
  ·exact .inl e1
 rcases hc with e1|⟨e1,h1⟩|⟨e1,h1,h2⟩;all_goals
  go_enter func194,ntmps194;go_wp2;(refine rB rfl (by go_simp;try rfl) rfl ⟨rfl,?_⟩);(repeat(first|with_reducible assumption|exact AJ _ _|exact AL|refine Below.drew ?_|refine Below.setCell ?_ (by first|exact AQ|(dsimp only;omega)) _|refine Below.alloc ?_ (by first|exact AQ|(simp;omega)|simp) _))
def F9(t:ByteArray):ByteArray:=if t.toList=[105,110,116]\/t.toList=[102,108,111,97,116]then t else{data:=#[114,101,102]}
def Ju(t:ByteArray)(w:World):Calls prog 23 #[cS t] w λe w'=>e=.returned (.agg #[cS (F9 t),cI cJ 0])/\AA6 w w':=by
 unfold F9;by_cases h1:t.toList=[105,110,116]
 ·rw[if_pos (.inl h1)];go_enter func23,ntmps23;go_wp2;(refine rO rfl (by go_simp;try rfl) rfl ⟨rfl,?_⟩);(repeat(first|with_reducible assumption|exact AJ _ _|exact AL|refine Below.drew ?_|refine Below.setCell ?_ (by first|exact AQ|(dsimp only;omega)) _|refine Below.alloc ?_ (by first|exact AQ|(simp;omega)|simp) _))
 by_cases h2:t.toList=[102,108,111,97,116]
 ·rw[if_pos (.inr h2)];go_enter func23,ntmps23;go_wp2;(refine rO rfl (by go_simp;try rfl) rfl ⟨rfl,?_⟩);(repeat(first|with_reducible assumption|exact AJ _ _|exact AL|refine Below.drew ?_|refine Below.setCell ?_ (by first|exact AQ|(dsimp only;omega)) _|refine Below.alloc ?_ (by first|exact AQ|(simp;omega)|simp) _))
 ·rw[if_neg (by simp[h1,h2])];have e1:(t.toList==[105,110,116])=cA:=by simpa using h1
  have e2:(t.toList==[102,108,111,97,116])=cA:=by simpa using h2
  go_enter func23,ntmps23;go_wp2;(refine rO rfl (by go_simp;try rfl) rfl ⟨rfl,?_⟩);(repeat(first|with_reducible assumption|exact AJ _ _|exact AL|refine Below.drew ?_|refine Below.setCell ?_ (by first|exact AQ|(dsimp only;omega)) _|refine Below.alloc ?_ (by first|exact AQ|(simp;omega)|simp) _))
def He(hc:w.cell? ⟨M,9,cX⟩=cP (cY (cP ⟨FB,0,cX⟩) (n+1) cap))(hl:n+1<=140737488351232):Calls prog 51 #[.pointer (cP ⟨M,0,cX⟩)] w λe w'=>e=.returned (.pointer (cP ⟨FB,n*4,cX⟩))/\∃q,w'=w.drewN q:=by
 have h1:((n+1:Nat):Int)-1=(n:Int):=by omega
 have h2:(n:Int)<((n+1:Nat):Int):=by omega
 go_enter func51,ntmps51;go_wp2;go_quiet (fail);go_wp2;go_ret;exact⟨rfl,_,rfl⟩
def Al(q:Nat):AA6 w (w.drewN q):=below_drewN (AL) q
def rU(u:World):(zeroValue 34).run prog u=.ok (Kn (Bv,0)) u:=by simp_all
theorem Li(t:ByteArray)(l:List UInt8):t.toList=l↔t=⟨l.toArray⟩:=by
 rw[ByteArray.toList_eq];constructor
 ·intro e;rw[<-e]
 ·intro e;rw[e]
theorem I7(t:ByteArray):(F9 t,(0:Int))=Ap t:=by grind [F9,Ap,Li]
theorem SX:F9 Bv=E9:=by simp[F9,Bv,E9,Ap]
theorem XG(hm:CQ w b m)(a:Ag)(hk:a.k=1\/a.k=2\/a.k=3\/a.k=4):Calls prog 132 #[.map (cP b),.agg #[cI cJ a.k,cS a.s,cI cJ a.n]] w λe w'=>e=.returned (Kn (Ar m a))/\AA6 w w':=by
 have t1:=underlying69;have t2:=underlying9
 have hm2:∀o o2,CQ ((w.alloc o).alloc o2) b m:=λo o2=>hm.other (by
  have h1:=hm.lt
  rw[Below.heap_alloc _ _ _ (by simp;omega),Below.heap_alloc _ _ _ h1])
 have hg:∀o o2,(Instr.lookup 69 (.map (cP b)) (cS a.s) cA).run prog ((w.alloc o).alloc o2)=.ok (Kn (getM m a.s)) ((w.alloc o).alloc o2):=λo o2=>AB8 t1 t2 rU (hm2 o o2) a.s;have hn:=λw=>Ju Bv w;generalize hv:Ar m a=v;obtain⟨k,s,n⟩:=a;dsimp only at*;unfold Ar at hv;dsimp only at hv;go_enter func132,ntmps132;rcases hk with rfl|rfl|rfl|rfl
 ·rw[if_pos rfl]at hv;subst hv;go_wp2;(refine rO rfl (by go_simp;try rfl) rfl ⟨rfl,?_⟩);(repeat(first|with_reducible assumption|exact AJ _ _|exact AL|refine Below.drew ?_|refine Below.setCell ?_ (by first|exact AQ|(dsimp only;omega)) _|refine Below.alloc ?_ (by first|exact AQ|(simp;omega)|simp) _))
 ·rw[if_neg (by decide),if_pos rfl]at hv;subst hv;go_wp2;(refine rO rfl (by go_simp;try rfl) rfl ⟨rfl,?_⟩);(repeat(first|with_reducible assumption|exact AJ _ _|exact AL|refine Below.drew ?_|refine Below.setCell ?_ (by first|exact AQ|(dsimp only;omega)) _|refine Below.alloc ?_ (by first|exact AQ|(simp;omega)|simp) _))
 ·rw[if_neg (by decide),if_neg (by decide),if_pos rfl]at hv;subst hv;go_wp2;(refine rO rfl (by go_simp;try rfl) rfl ⟨rfl,?_⟩);(repeat(first|with_reducible assumption|exact AJ _ _|exact AL|refine Below.drew ?_|refine Below.setCell ?_ (by first|exact AQ|(dsimp only;omega)) _|refine Below.alloc ?_ (by first|exact AQ|(simp;omega)|simp) _))
 ·iterate 3 rw[if_neg (by decide)]at hv
  subst hv;go_wp2_with fail;refine(hn _).mono ?_;rintro e w2 ⟨rfl,hb⟩;obtain⟨b1,b2,hb3⟩:=Ch (c1:=[cI cJ 4,cS s,cI cJ n]) (c2:=[cS ⟨#[]⟩,cI cJ 0]) hb;obtain⟨r0,r1⟩:=b2.c2;obtain⟨f0,f1⟩:=b2.f2;rw[SX];go_wp2;(refine rO rfl (by go_simp;try rfl) rfl ⟨rfl,?_⟩);exact(hb3.setCell (p:=⟨w.heap.size+1,0,cX⟩) (Aa) _).setCell (p:=⟨w.heap.size+1,1,cX⟩) (Aa) _
abbrev agV(a:Ag):Value:=.agg #[cI cJ a.k,cS a.s,cI cJ a.n]
theorem DX.q(h:DX w M FB n cap b x)(q:Nat):DX (w.drewN q) M FB n cap b x:=h.kp (Al q)
theorem Cm(hT:DX w M FB n cap b x)(a:Ag)(hk:a.k=1\/a.k=2\/a.k=3\/a.k=4):Calls prog 76 #[.pointer (cP ⟨M,0,cX⟩),agV a] w λe w'=>e=.returned (Kn (Ar x.vars a))/\AA6 w w':=by
 obtain⟨hB,hV,hb2⟩:=Ch (w:=w) (c1:=[cI cJ a.k,cS a.s,cI cJ a.n]) (c2:=[cS ⟨#[]⟩,cI cJ 0]) (t1:=77) (t2:=34) (AL);have hval:=λ(v:World) (h:CQ v b x.vars)=>XG h a hk;generalize Ar x.vars a=u at*;go_enter func76,ntmps76;go_wp2;obtain⟨W,hW⟩:∃W:World,W=(w.alloc (.cells #[cI cJ a.k,cS a.s,cI cJ a.n] 77)).alloc (.cells #[cS ⟨#[]⟩,cI cJ 0] 34):=⟨_,rfl⟩;change AA6 w ((w.alloc (.cells #[cI cJ a.k,cS a.s,cI cJ a.n] 77)).alloc (.cells #[cS ⟨#[]⟩,cI cJ 0] 34))at hb2;rw[<-hW]at hb2;rw[<-hW];replace hB:Ae W w.heap.size [cI cJ a.k,cS a.s,cI cJ a.n]:=hW▸hB;replace hV:Ae W (w.heap.size+1) [cS ⟨#[]⟩,cI cJ 0]:=hW▸hV;replace hT:=hT.kp hb2;have hw1:w.heap.size<=w.heap.size+1:=Aa;have hlt:=hV.lt;refine ALQ (S:=Ah 7 (λv=>AA6 W v) (λv=>AA6 w v/\Ae v (w.heap.size+1) [cS u.1,cI cJ u.2])) (Ah.start Ac) ?_;iterate 7((first|(refine Ab.q (λz=>z.s.pass rfl) ?_)|(refine Ab.f (λz=>z.s.pass rfl) (λz=>have hI:=(z.s.1 (z.o 7));have hT:=hT.kp hI;have hB:=hB.nx hI;ALS (hT.sl) (ALS (hT.v) (ALS (hB.c 0 _ rfl) (ALS (hB.c 1 _ rfl) (hB.c 2 _ rfl))))) ?_)|(apply Ab.y rfl;intro L w1 _ _ z hK;go_simp;go_wp2_with((have hI:=(z.s.1 (z.o 7));(have hT:=hT.kp hI;have c9:=hT.sl;have c3:=hT.v;have hB:=hB.nx hI;have b0:=hB.c 0 _ rfl;have b1:=hB.c 1 _ rfl;have b2:=hB.c 2 _ rfl);(first|(go_at_call 51;refine(He hT.sl hT.l).mono ?_;rintro e w2 ⟨rfl,q,rfl⟩;have hb:=Al (w:=w1) q)|(go_at_call 132;refine(hval _ hT.m).mono ?_;rintro e w2 ⟨rfl,hb⟩))));(try simp only[pE]);exact hK.out _ (Ah.keep (z.o 7) (AB ((z.s.1 (z.o 7))) hb) rfl);rfl)|(refine Ab.skip rfl (λL w1 hS hi=>(hS.pass rfl)) ?_;(try simp only[pE]))))
 (refine Ab.step (a1:=?_) rfl (λL w1 K' Q' hS hi hR hd hK=>?_) ?_ ?_;rotate_left)
 ·have hI:=hS.1 hi;have hV:=hV.nx hI;obtain⟨r0,r1⟩:=hV.c2;obtain⟨f0,f1⟩:=hV.f2;go_simp;exact hK.out _ (Ah.done ⟨((hb2.trans (hI.mono hb2.size)).setCell (p:=⟨w.heap.size+1,0,cX⟩) hw1 _).setCell (p:=⟨w.heap.size+1,1,cX⟩) hw1 _,(hV.set (i:=0) (by simp) (cS u.1)).set (i:=1) (by simp) (cI cJ u.2)⟩)
 ·rfl
 refine Ab.nil λw4 Bb=>?_;obtain⟨hb4,hV4⟩:=Bb.2 rfl;obtain⟨r0,r1⟩:=hV4.c2;go_wp2;(refine rO rfl (by go_simp;try rfl) rfl ⟨rfl,?_⟩);exact hb4
section
section
variable {w w1 : World} {B N M : Nat} {k : Hd} {s : St} {j : Int} {rest : List Lv} {x : Lv} {FB cap b : Nat}
theorem Am.upd(h:Am w B N M k s j)(hfr:s.frames=rest++[x])(hT:DX w M FB rest.length cap b x):B<=FB/\FB<N/\B<=b/\b<N/\(∀n:Nat,Am (w.setCell ⟨FB,rest.length*4+2,cX⟩ (cI cJ n)) B N M k {s with frames:=rest++[{x with i:=n}]} j)/\(∀y:ByteArray,Am (w.setCell ⟨FB,rest.length*4+1,cX⟩ (cS y)) B N M k {s with frames:=rest++[{x with b:=y}]} j)/\(∀w' m',CQ w' b m'->(∀q,q≠b->w'.heap[q]? =w.heap[q]?)->w.heap.size<=w'.heap.size->Am w' B N M k {s with frames:=rest++[{x with vars:=m'}]} j):=by
 obtain⟨TY,cap',b',hT',a1,a2,a3,a3',a4,a5,a6⟩:=h.top hfr hT.l;grind [cases Am,cases DX]
theorem Am.zI(h:Am w B N M k s j)(hfr:s.frames=rest++[x])(hT:DX w M FB rest.length cap b x){x':Lv}(h':Am w1 B N M k s' j)(jC:s'.frames=rest++[x'])(hM:w1.heap[M]? =w.heap[M]?)(hF:w1.heap[FB]? =w.heap[FB]?):DX w1 M FB rest.length cap b x':=by
 obtain⟨TY,cap',b',hT',_⟩:=h'.top jC hT.l;grind [BM,cases Am,cases DX,cases St,cases Lv]
theorem Am.neM(h:Am w B N M k s j)(hm:CQ w b m):M≠b:=by grind [CQ,cases Am]
theorem DX.neF(hT:DX w M FB n cap b x):FB≠b:=λe=>by
 obtain⟨es,clock,e2,_⟩:=hT.m;have h:=hT.f;subst e;unfold World.cell? at h;dsimp only at h;rw[e2]at h;simp at h
end
abbrev oU(B N M:Nat)(k:Hd)(s:St)(j:Int)(w:World)(e:Ending)(w':World):Prop:=e=.returned (.tuple #[])/\Am w' B N M k s j/\Below B w w'
theorem Co{k:Hd}{s:St}{j:Int}{rest:List Lv}(h:Am w B N M k s j)(hfr:s.frames=rest++[x])(hl:rest.length+1<=140737488351232)(hx:x.i<=1000000)(op:Int)(d n:ByteArray)(p1 p2 p3:Option Addr)(l1 l2 l3 c1 c2 c3:Nat)(v:Vu):Calls prog 74 #[.pointer (cP ⟨M,0,cX⟩),.agg #[cI cJ op,cS d,cS n,cY p1 l1 c1,cY p2 l2 c2,cY p3 l3 c3],Kn v] w (oU B N M k (BP s rest x d v) j w):=by
 obtain⟨hB,hV,hb2⟩:=Ch (w:=w) (c1:=[cI cJ op,cS d,cS n,cY p1 l1 c1,cY p2 l2 c2,cY p3 l3 c3]) (c2:=[cS v.1,cI cJ v.2]) (t1:=133) (t2:=34) (AL);have hBw:B<=w.heap.size:=by have:=h.own.ge;have:=h.own.lt;have:=h.own.sz;omega
 have Df:N<=w.heap.size:=h.own.sz;have t1:=underlying69;have t2:=underlying9;go_enter func74,ntmps74;generalize Cr:(w.alloc (.cells #[cI cJ op,cS d,cS n,cY p1 l1 c1,cY p2 l2 c2,cY p3 l3 c3] 133)).alloc (.cells #[cS v.1,cI cJ v.2] 34)=W at*;replace h:=h.kp (hb2.mono Df);obtain⟨FB,cap,b,hT,_⟩:=h.top hfr hl;go_wp2_with fail;refine(He hT.sl hT.l).mono ?_;rintro e w1 ⟨rfl,q,rfl⟩;replace hb2:=below_drewN hb2 q;replace hB:=hB.nx (Al q);replace hV:=hV.nx (Al q);have TQ:N<=W.heap.size:=AX Df hb2.size;replace h:=h.kp ((Al q).mono TQ);replace hT:=hT.q q;generalize W.drewN q=W at*;have b1:=hB.c 1 _ rfl;by_cases hd:d=Bv
 ·have hdb:(d.toList==([]:List UInt8))=cC:=FE (l:=[]) hd;obtain⟨u1,u2,u3,_,u4,_⟩:=h.upd hfr hT;have ci:=hT.i;have z:=hT.z;have hm:=u4 (x.i+1);have hb3:=Below.setCell (p:=⟨FB,rest.length*4+2,cX⟩) (hb2.mono hBw) u1 (cI cJ ((x.i+1:Nat):Int));have e1:((x.i+1:Nat):Int)=(x.i:Int)+1:=by omega
  rw[e1]at hm hb3;have hs:BP s rest x d v={s with frames:=rest++[{x with i:=x.i+1}]}:=by unfold BP;rw[if_pos hd]
  rw[<-hs]at hm;go_wp2;go_end0;exact⟨rfl,hm,hb3⟩
 ·have hdb:(d.toList==([]:List UInt8))=cA:=D9 (l:=[]) hd;go_wp2;have hlt:=hB.lt;have hF:=hT.neF;have hM:=h.neM hT.m;refine ALQ (S:=Ah 7 (λv'=>AA6 W v') (λv'=>∃v0 o2,AA6 W v0/\v'=Dx v0 b o2/\CQ v' b (Ei x.vars d v))) (Ah.start Ac) ?_;iterate 7((first|(refine Ab.q (λz=>z.s.pass rfl) ?_)|(refine Ab.f (λz=>z.s.pass rfl) (λz=>have hI:=(z.s.1 (z.o 7));have hT:=hT.kp hI;have hB:=hB.nx hI;have hV:=hV.nx hI;ALS (hT.v) (ALS (hB.c 1 _ rfl) (hV.c2))) ?_)|(apply Ab.y rfl;intro L w1 _ _ z hK;go_simp;go_wp2_with((have hI:=(z.s.1 (z.o 7));(have hT:=hT.kp hI;have c3:=hT.v;have hB:=hB.nx hI;have hV:=hV.nx hI;have b1:=hB.c 1 _ rfl;obtain⟨y0,y1⟩:=hV.c2);(fail)));(try simp only[pE]);exact hK.out _ (Ah.keep (z.o 7) (AB ((z.s.1 (z.o 7))) hb) rfl);rfl)|(refine Ab.skip rfl (λL w1 hS hi=>(hS.pass rfl)) ?_;(try simp only[pE]))))
  (refine Ab.step (a1:=?_) rfl (λL w1 K' Q' hS hi hR hd hK=>?_) ?_ ?_;rotate_left)
  ·have hI:=hS.1 hi;obtain⟨o2,ho,hm2⟩:=Mi t1 t2 (hT.kp hI).m d v;go_simp;exact hK.out _ (Ah.done ⟨_,o2,hI,rfl,hm2⟩)
  ·rfl
  refine Ab.nil λw4 Bb=>?_;obtain⟨v0,o2,hI,rfl,hm2⟩:=Bb.2 rfl;have h0:=h.kp (hI.mono (AX Df hb2.size));have hT0:=hT.kp hI;obtain⟨a1,a2,a3,_,_,_,a6⟩:=h0.upd hfr hT0;have h1:=a6 _ _ hm2 (λq hq=>I4 _ hq) (by simp[Dx]);have hT1:=h0.zI hfr hT0 h1 rfl (I4 _ hM) (I4 _ hF);obtain⟨_,_,_,_,u4,_⟩:=h1.upd rfl hT1;have ci:=hT1.i;have z:=hT1.z;have hm:=u4 (x.i+1);have hb3:=Below.setCell (p:=⟨FB,rest.length*4+2,cX⟩) (((hb2.trans (hI.mono hb2.size)).mono hBw).grown (Hz v0 b o2) (AX hBw (AX hb2.size hI.size)) (λk hk=>by cases hk;exact a3)) a1 (cI cJ ((x.i+1:Nat):Int));have e1:((x.i+1:Nat):Int)=(x.i:Int)+1:=by omega
  rw[e1]at hm hb3;have hs:BP s rest x d v={s with frames:=rest++[{x with i:=x.i+1,vars:=Ei x.vars d v}]}:=by unfold BP;rw[if_neg hd]
  rw[<-hs]at hm;clear h hT hB hV u4 hs e1 h0 hT0 h1 hT1;go_wp2;go_end0;exact⟨rfl,hm,hb3⟩
end
section
def wp_append_own'{o:Oper}{a:Act}{K:Act->World->Prop}{Q:Exit->Act->World->Prop}(s x:Operand)(t:TypeId)(ho:o.op=.call {callee:=.builtin .append,args:=#[s,x],argTypes:=#[t,t]})(base:Nat) (e:TypeId) (i:TypeInfo) (z:Value) (size bytes:Nat) (ht:P.underlying t=cP (.slice e)) (hi:P.info? e=cP i) (hz:i.zero=cP z)(hsize:i.size=size) (hby:i.bytes=bytes) (hzs:z.cells.size=size) (hsz:0<size)(v:Value) (n:Nat) (xs:List Value) (hs:a.eval s=v) (hown:w.ownsRow base e size v n xs)(ad:Addr) (m c:Nat) (news:List Value) (hx:a.eval x=cY (cP ad) m c) (hl:news.length=m*size) (hnews:∀j u,news[j]? =cP u->w.cell? (ad.add j)=cP u) (h1:∀u∈news,u.oneCell'=cC)(h63:n+m<=maxLen) (hbytes:(n+m)*bytes<=140737488355328) (hbase:base<=w.heap.size)(h:∀v' w',w'.ownsRow base e size v' (n+m) (xs++news)->w.grownBy w' v.ownBlock->(∀k,v'.ownBlock=cP k->v.ownBlock=cP k\/w.heap.size<=k)->K (a.put o.dst v') w'):o.wp P a w K Q:=by
 obtain⟨v',w',hrun,h2,h3,h4⟩:=run_append_own' (P:=P) base t o.type e i z size bytes ht hi hz hsize hby hzs hsz v n xs hown ad m c news hl hnews h1 h63 hbytes hbase;unfold Oper.wp;simp[execOp,ho,resolve,invoke,builtin,hs,hx,hrun,Result.andThen];exact h v' w' h2 h3 h4
def wpList_append_own'{ops:Array Oper}{rest:List Oper}{o:Oper}{a:Act}{Q:Exit->Act->World->Prop}(hgd:o.guard=cX)(s x:Operand)(t:TypeId)(ho:o.op=.call {callee:=.builtin .append,args:=#[s,x],argTypes:=#[t,t]})(base:Nat) (e:TypeId) (i:TypeInfo) (z:Value) (size bytes:Nat) (ht:P.underlying t=cP (.slice e)) (hi:P.info? e=cP i) (hz:i.zero=cP z)(hsize:i.size=size) (hby:i.bytes=bytes) (hzs:z.cells.size=size) (hsz:0<size)(v:Value) (n:Nat) (xs:List Value) (hs:a.eval s=v) (hown:w.ownsRow base e size v n xs)(ad:Addr) (m c:Nat) (news:List Value) (hx:a.eval x=cY (cP ad) m c) (hl:news.length=m*size) (hnews:∀j u,news[j]? =cP u->w.cell? (ad.add j)=cP u) (h1:∀u∈news,u.oneCell'=cC)(h63:n+m<=maxLen) (hbytes:(n+m)*bytes<=140737488355328) (hbase:base<=w.heap.size)(h:∀v' w',w'.ownsRow base e size v' (n+m) (xs++news)->w.grownBy w' v.ownBlock->(∀k,v'.ownBlock=cP k->v.ownBlock=cP k\/w.heap.size<=k)->wpList P ops Q rest (a.put o.dst v') w'):wpList P ops Q (o::rest) a w:=by
 exact wpList_plain hgd λ_ hK=>wp_append_own' s x t ho base e i z size bytes ht hi hz hsize hby hzs hsz v n xs hs hown ad m c news hx hl hnews h1 h63 hbytes hbase λv' w' h2 h3 h4=>hK _ _ (h v' w' h2 h3 h4)
theorem Cq{t:TypeId}{s:Nat}(h:(P.info? t).map (λi=>(i.zero,i.size,i.bytes))=cP (cP z,s,b)):∃i,P.info? t=cP i/\i.zero=cP z/\i.size=s/\i.bytes=b:=by simp_all
section
variable {w : World} {B g o : Nat} {r : List Dt} {f1 f2 : List Nat}
def AP.cn:AP w B [] g o []:=by unfold AP;rfl
def AP.cc(hc:w.cell? ⟨g,o,cX⟩=cP v)(h1:v.oneCell'=cC)(hr:AP w B r g (o+1) f2):AP w B (.cell v::r) g o f2:=by
 unfold AP;exact⟨[],f2,rfl,by unfold Af;exact⟨hc,rfl,h1⟩,hr⟩
theorem AP.cr{s:Nat}(hc:w.cell? ⟨g,o,cX⟩=cP v)(hv:AZ w B e s l v f1)(hr:AP w B r g (o+1) f2):AP w B (.row e s l::r) g o (f1++f2):=by
 unfold AP;exact⟨f1,f2,rfl,hv.lies hc,hr⟩
def AP.cm(hc:w.cell? ⟨g,o,cX⟩=cP (.map (cP b)))(hb:B<=b)(hm:CQ w b m)(hr:AP w B r g (o+1) f2):AP w B (.mp m::r) g o ([b]++f2):=by
 unfold AP;exact⟨[b],f2,rfl,by unfold Af;exact⟨b,hc,hb,hm,rfl⟩,hr⟩
def AP.ca(h:AP w B l g o f1)(hr:AP w B r g (o+Dt.DF l) f2):AP w B (.agg l::r) g o (f1++f2):=by
 unfold AP;exact⟨f1,f2,rfl,by unfold Af;exact h,hr⟩
def Af.of(h:AP w B l g o f1):Af w B (.agg l) g o f1:=by
 unfold Af;exact h
end
def Aq.OE{o g0 o0 s:Nat}{F:Dt->Dt}(h:Aq w B N d g o (.row e s l) g0 o0 F)(hc:w.cell? ⟨g0,o0,cX⟩=cP v):v.ownBlock≠cP g0:=λe1=>by
 obtain⟨h1,h2,h2',fp,Fj,h3,h3',h4⟩:=h;obtain⟨v0,hc',hv0⟩:=h4.lies.row;rw[hc]at hc';obtain rfl:v=v0:=by simpa using hc'
 exact(BN.1 h4.nd).1 (hv0.own g0 e1)
def Ad(W:World)(B:Nat)(e:TypeId)(s bs ap st:Nat)(one:List Value)(n:Nat)(xs:List Value)(v:Value)(dst:Addr)(V:Nat->Value)(L:Nat->Bool)(w:World):Prop:=
 (L ap=cA->AA6 W w/\(L bs=cC->∃pb,V bs=cY (cP ⟨pb,0,cX⟩) 1 1/\W.heap.size<=pb/\pb<w.heap.size/\Ae w pb one))/\
 (L ap=cC->∃w1 w2 pb,AA6 W w1/\W.heap.size<=pb/\pb<w1.heap.size/\Ae w1 pb one/\w2.ownsRow B e s (V ap) (n+1) (xs++one)/\w1.grownBy w2 v.ownBlock/\(∀k,(V ap).ownBlock=cP k->v.ownBlock=cP k\/w1.heap.size<=k)/\
  w=if L st=cC then w2.setCell dst (V ap)else w2)
section
variable {W w w' : World} {B : Nat} {e : TypeId} {s bs ap st n : Nat} {one xs : List Value} {v : Value} {dst : Addr} {V : Nat -> Value} {L : Nat -> Bool}
def Ad.start(h:AA6 W w):Ad W B e s bs ap st one n xs v dst V (λ_=>cA) w:=⟨λ_=>⟨h,λe=>by cases e⟩,λe=>by cases e⟩
def Ad.keep(h:Ad W B e s bs ap st one n xs v dst V L w){i:Nat}(h1:(bs==i)=cA)(h2:(ap==i)=cA)(h3:(st==i)=cA):Ad W B e s bs ap st one n xs v dst V (upd L i) w:=by
 unfold Ad;rw[Dm h1,Dm h2,Dm h3];exact h
def Ad.below(h:Ad W B e s bs ap st one n xs v dst V L w)(ha:L ap=cA):AA6 W w:=(h.1 ha).1
def Ad.made(h:Ad W B e s bs ap st one n xs v dst V L w)(ha:L ap=cA)(h1:(ap==bs)=cA)(t:TypeId):Ad W B e s bs ap st one n xs v dst (EB V bs (cY (cP ⟨w.heap.size,0,cX⟩) 1 1)) (upd L bs) (w.alloc (Obj.cells one.toArray t)):=by
 obtain⟨hb,_⟩:=h.1 ha;refine⟨λ_=>⟨hb.alloc hb.size _,λ_=>⟨w.heap.size,BL _ _ _,hb.size,by simp,Ae.alloc _ _ _⟩⟩,λe=>?_⟩;rw[Dm h1,ha]at e;cases e
def Ad.app(h:Ad W B e s bs ap st one n xs v dst V L w)(ha:L ap=cA)(hst:L st=cA)(h3:(st==ap)=cA)(hp:W.heap.size<=pb)(hp2:pb<w.heap.size)(hx:Ae w pb one){v':Value}(ho:w'.ownsRow B e s v' (n+1) (xs++one)) (hg:w.grownBy w' v.ownBlock) (hf:∀k,v'.ownBlock=cP k->v.ownBlock=cP k\/w.heap.size<=k):Ad W B e s bs ap st one n xs v dst (EB V ap v') (upd L ap) w':=by
 refine⟨(λe=>by rw[Gq]at e;cases e),λ_=>⟨w,w',pb,h.below ha,hp,hp2,hx,?_,hg,?_,?_⟩⟩
 ·rw[BL];exact ho
 ·rw[BL];exact hf
 ·rw[Dm h3,hst];rfl
theorem Ad.go{o:Oper}{a:Act}{K:Act->World->Prop}{Q:Exit->Act->World->Prop}{t:TypeId}{x y:Operand}(h:Ad W B e s bs ap st one n xs v dst V L w) (ha:L ap=cA) (hst:L st=cA) (hb:L bs=cC)(hI:(P.info? e).map (λi=>(i.zero,i.size,i.bytes))=cP (cP z,s,b)) (hu:P.underlying t=cP (.slice e)) (hw:W.ownsRow B e s v n xs)(h3:(st==ap)=cA) (hz:z.cells.size=s) (ho:o.op=.call {callee:=.builtin .append,args:=#[x,y],argTypes:=#[t,t]}) (hs:a.eval x=v) (hy:a.eval y=V bs) (h1:one.length=1*s) (h0:0<s)(hc:∀u∈one,u.oneCell'=cC) (hq:n+1<=maxLen/\(n+1)*b<=140737488355328/\B<=W.heap.size)(k:∀v' w',Ad W B e s bs ap st one n xs v dst (EB V ap v') (upd L ap) w'->K (a.put o.dst v') w'):o.wp P a w K Q:=by
 obtain⟨hb2,hbs⟩:=h.1 ha;obtain⟨pb,hp,p1,p2,hx⟩:=hbs hb;obtain⟨i0,j0,j1,j2,j3⟩:=Cq hI;exact wp_append_own' x y t ho B e i0 z s b hu j0 j1 j2 j3 hz h0 v n xs hs (Dh hw hb2 (AQ)) ⟨pb,0,cX⟩ 1 1 one (hy.trans hp) h1 (λj u hj=>by rw[Dk,Nat.zero_add];exact hx.c j u hj) hc hq.1 hq.2.1 (AX hq.2.2 hb2.size) λv' w' g1 g2 g3=>k v' w' (h.app ha hst h3 p1 p2 hx g1 g2 g3)
theorem Ad.stored(h:Ad W B e s bs ap st one n xs v dst V L w)(ha:L ap=cC)(hst:L st=cA)(h3:(ap==st)=cA):Ad W B e s bs ap st one n xs v dst V (upd L st) (w.setCell dst (V ap)):=by
 obtain⟨w1,w2,pb,a1,a2,a3,a4,a5,a6,a7,a8⟩:=h.2 ha;rw[hst]at a8;replace a8:w=w2:=a8;subst a8;exact⟨(λe=>by rw[Dm h3,ha]at e;cases e),λ_=>⟨w1,w,pb,a1,a2,a3,a4,a5,a6,a7,by rw[Gq];rfl⟩⟩
theorem Ad.val(h:Ad W B e s bs ap st one n xs v dst V L w)(ha:L ap=cC):∃pu ku,V ap=cY pu (n+1) ku:=by
 obtain⟨w1,w2,pb,a1,a2,a3,a4,a5,a6,a7,a8⟩:=h.2 ha;exact Bf a5
theorem Ad.mid(h:Ad W B e s bs ap st one n xs v dst V L w)(hst:L st=cA):∃w1,AA6 W w1/\(w1.grownBy w v.ownBlock\/w=w1):=by
 cases ha:L ap with
 |false=>exact⟨w,h.below ha,.inr rfl⟩
 |true=>
  obtain⟨w1,w2,pb,a1,a2,a3,a4,a5,a6,a7,a8⟩:=h.2 ha;rw[hst]at a8;replace a8:w=w2:=a8;subst a8;exact⟨w1,a1,.inl a6⟩
theorem Ad.keeps(h:Ad W B e s bs ap st one n xs v dst V L w)(hst:L st=cA){k:Nat}(hk:k<W.heap.size)(hne:v.ownBlock≠cP k):w.heap[k]? =W.heap[k]? :=by
 obtain⟨w1,h1,h2|rfl⟩:=h.mid hst
 ·exact(h2.block k (A9 hk h1.size) (λe=>hne e.symm)).trans (h1.block k hk)
 ·exact h1.block k hk
variable {W0 : World} {N g o g0 o0 : Nat} {d0 d : Dt} {l : List Dt} {F : Dt -> Dt}
theorem Ad.done(h:Ad W B e s bs ap st one n xs v ⟨g0,o0,cX⟩ V L w)(ha:L ap=cC)(hst:L st=cC)(h0:Aq W0 B N d0 g o (.row e s l) g0 o0 F)(hW:Below N W0 W)(hc:W0.cell? ⟨g0,o0,cX⟩=cP v)(hx:W.ownsRow B e s v n xs)(hn:n=l.length)(hd:∀w1 pb,AA6 W w1->W.heap.size<=pb->pb<w1.heap.size->Ae w1 pb one->∃fd,Af w1 N d pb 0 fd/\fd.Nodup) (hdw:d.wd=s) (h1:one.length=s):(∃N',Own w B N' (F (.row e s (l++[d]))) g o)/\Below B W w/\(∃p c,V ap=cY p (n+1) c)/\∃(w2:World) (u:Value),w=w2.setCell ⟨g0,o0,cX⟩ u/\w2.heap[g0]? =W.heap[g0]? :=by
 obtain⟨w1,w2,pb,a1,a2,a3,a4,a5,a6,a7,a8⟩:=h.2 ha;rw[hst]at a8;replace a8:w=w2.setCell ⟨g0,o0,cX⟩ (V ap):=a8;subst a8 hn;have hsz:=h0.sz;have hB:B<=W0.heap.size:=by have:=h0.ge;have:=h0.lt;omega
 have b1:Below N W0 w1:=hW.trans (a1.mono (AX hsz hW.size));obtain⟨fd,d1,d2⟩:=hd w1 pb a1 a2 a3 a4;have hxw:=Dh hx a1 (AQ);have hat:=h0.at;refine⟨⟨_,h0.push (r:=[d]) (ga:=pb) (oa:=0) (fd:=fd) (news:=one) b1 ?_ d2 (λx hx=>by simp at hx;rw[hx];exact hdw) (by simp) (by simp[h1]) (λj hj=>?_) hc hxw (by simpa using a5) a6 a7⟩,?_,Bf a5,w2,_,rfl,?_⟩
 ·unfold AP;exact⟨fd,[],by simp,d1,by unfold AP;rfl⟩
 ·have hj':j<one.length:=by simpa[h1]using hj
  rw[Nat.zero_add,a4.c j one[j] (by simp[hj'])];simp[hj']
 ·refine((a1.mono (AX hB hW.size)).grown a6 (AX hB (AX hW.size a1.size)) (λk hk=>?_)).setCell (p:=⟨g0,o0,cX⟩) hat.1 _;exact(hxw.lt k hk).1
 ·have hlt:g0<W.heap.size:=A9 hat.2.1 (AX hsz hW.size);have IW:=h0.OE hc;exact(a6.block g0 (A9 hlt a1.size) (λe=>IW e.symm)).trans (a1.block g0 hlt)
def Aq.JI{s:Nat}(h:Aq W0 B N d0 g o (.row e s l) g0 o0 F)(hc:W0.cell? ⟨g0,o0,cX⟩=cP v){k:Nat}(hk:v.ownBlock=cP k):k<N:=by
 obtain⟨h1,h2,h2',fp,Fj,h3,h3',h4⟩:=h;obtain⟨v0,hc',hv0⟩:=h4.lies.row;rw[hc]at hc';obtain rfl:v=v0:=by simpa using hc'
 exact h3' k (h4.sub k (hv0.own k hk))
theorem Ad.far(h:Ad W B e s bs ap st one n xs v ⟨g0,o0,cX⟩ V L w)(ha:L ap=cC)(hst:L st=cC)(hb1:b≠g0)(hown:v.ownBlock≠cP b)(hb2:b<W.heap.size):w.heap[b]? =W.heap[b]? :=by
 obtain⟨w1,w2,pb,a1,a2,a3,a4,a5,a6,a7,a8⟩:=h.2 ha;rw[hst]at a8;replace a8:w=w2.setCell ⟨g0,o0,cX⟩ (V ap):=a8;subst a8;exact(Below.heap_setCell _ _ _ _ hb1).trans ((a6.block b (A9 hb2 a1.size) (λe=>hown e.symm)).trans (a1.block b hb2))
end
section
variable {P : Program} {md : Region.Mode} {ops : Array Oper} {Q : Exit -> Act -> World -> Prop} {o : Oper} {rest : List Oper} {a : (Nat -> Value) -> Act}
variable {W : World} {B : Nat} {e : TypeId} {s bs ap st n : Nat} {one xs : List Value} {v : Value} {dst : Addr}
theorem Ad.aq{t:TypeId}{x y:Operand}(hI:(P.info? e).map (λi=>(i.zero,i.size,i.bytes))=cP (cP z,s,b))(hu:P.underlying t=cP (.slice e))(hx:W.ownsRow B e s v n xs)(hr:AU P md ops Q (Ad W B e s bs ap st one n xs v dst) rest (ap+1) λV=>(a V).put o.dst (V ap)) (ho:o.op=.call {callee:=.builtin .append,args:=#[x,y],argTypes:=#[t,t]}:=by rfl) (hw:∀V,Region.wanted o (yielded ops (a V).tmps)=cC:=by intro;rfl) (hz:z.cells.size=s:=by rfl)(hs:∀V,(a V).eval x=v:=by intro;rfl) (hy:∀V,(a V).eval y=V bs:=by intro;rfl) (h3:(st==ap)=cA:=by rfl) (h1:one.length=1*s:=by rfl) (h0:0<s:=by decide) (hc:∀u∈one,u.oneCell'=cC:=by simp[Value.oneCell']) (hq:n+1<=maxLen/\(n+1)*b<=140737488355328/\B<=W.heap.size:=by unfold maxLen;omega)(hd:∀V u,G8 ((a V).put o.dst u) o.dst=u:=by intros;rfl) (w1:waits md ops st ap=cC:=by kernel_rfl) (w2:waits md ops ap bs=cC:=by kernel_rfl):AU P md ops Q (Ad W B e s bs ap st one n xs v dst) (o::rest) ap a:=
 AU.free hw (λV L w K Q' hS hi hR hD hK=>hS.go hi (hR.out st ap w1 hi) (hD.out bs w2) hI hu hx h3 hz ho (hs V) (hy V) h1 h0 hc hq λv' w' h=>hK.out _ _ (by rw[hd]) (by rw[hd];exact h)) hr
def Ad.sv{F:World->Prop}(f:∀{V L w},Ad W B e s bs ap st one n xs v dst V L w->L st=cA->F w)(hr:AU P md ops Q (Ad W B e s bs ap st one n xs v dst) rest (st+1) λV=>(a V).put o.dst undef) (hw:∀V,Region.wanted o (yielded ops (a V).tmps)=cC:=by intro;rfl)(h:∀V w pu ku K Q,F w->V ap=cY pu (n+1) ku->Shut (∀a',a'=(a V).put o.dst undef->K a' (w.setCell dst (cY pu (n+1) ku)))->o.wp P (a V) w K Q:=by intro V w1 pu ku _ _ hF hV hK;simp only[hV];go_simp;exact hK.out _ (by simp only[hV];rfl))(h3:(ap==st)=cA:=by rfl) (w1:waits md ops st ap=cC:=by kernel_rfl):AU P md ops Q (Ad W B e s bs ap st one n xs v dst) (o::rest) st a:=
 AU.val undef hw (λV L w K Q' hS hi hR hD hK=>by
  have ha:=hD.out ap w1;obtain⟨pu,ku,hV⟩:=hS.val ha;have h2:=hS.stored ha hi h3;rw[hV]at h2
  exact h V w pu ku K Q' (f hS hi) hV λa' e=>hK.out a' _ e h2) hr
end
end
section
section
variable {w : World} {B N M : Nat} {k : Hd} {s : St} {j : Int}
theorem Am.ER(h:Am w B N M k s j)(n:Int):Am (w.setCell ⟨M,5,cX⟩ (cI cJ n)) B N M k {s with status:=n} j:=by
 have s0:=h.st;unfold Eh at s0;refine h.of (Aq.set1 (v1:=cI cJ n) (s0.nth 0 rfl rfl) rfl) ?_;unfold dM Eh;simp[dN]
theorem Am.bS(h:Am w B N M k s j)(n:Int):Am (w.setCell ⟨M,8,cX⟩ (cI cJ n)) B N M k {s with code:=n} j:=by
 have s0:=h.st;unfold Eh at s0;refine h.of (Aq.set1 (v1:=cI cJ n) (s0.nth 2 rfl rfl) rfl) ?_;unfold dM Eh;simp[dN]
theorem Am.UZ(h:Am w B N M k s j)(n:Int):Am (w.setCell ⟨M,14,cX⟩ (cI cJ n)) B N M k {s with allocs:=n} j:=by
 have s0:=h.st;unfold Eh at s0;refine h.of (Aq.set1 (v1:=cI cJ n) (s0.nth 8 rfl rfl) rfl) ?_;unfold dM Eh;simp[dN]
theorem Am.Xb(h:Am w B N M k s j)(n:Int):Am (w.setCell ⟨M,15,cX⟩ (cI cJ n)) B N M k {s with steps:=n} j:=by
 have s0:=h.st;unfold Eh at s0;refine h.of (Aq.set1 (v1:=cI cJ n) (s0.nth 9 rfl rfl) rfl) ?_;unfold dM Eh;simp[dN]
theorem Am.UY(h:Am w B N M k s j)(n:Int):Am (w.setCell ⟨M,16,cX⟩ (cI cJ n)) B N M k {s with guards:=n} j:=by
 have s0:=h.st;unfold Eh at s0;refine h.of (Aq.set1 (v1:=cI cJ n) (s0.nth 10 rfl rfl) rfl) ?_;unfold dM Eh;simp[dN]
theorem Am.Xc(h:Am w B N M k s j)(n:Int):Am (w.setCell ⟨M,17,cX⟩ (cI cJ n)) B N M k {s with asked:=n} j:=by
 have s0:=h.st;unfold Eh at s0;refine h.of (Aq.set1 (v1:=cI cJ n) (s0.nth 11 rfl rfl) rfl) ?_;unfold dM Eh;simp[dN]
def Am.OZ(h:Am w B N M k s j)(n:Int):Am (w.setCell ⟨M,20,cX⟩ (cI cJ n)) B N M k s n:=by
 have s0:=h.own.spot;unfold dM at s0;refine h.of (Aq.set1 (v1:=cI cJ n) (s0.nth 8 rfl (n:=20) (by simp[Dt.DF,Dt.wd,QA])) rfl) ?_;unfold dM;simp[dN]
theorem Am.UW(h:Am w B N M k s j)(v:Vu):Am ((w.setCell ⟨M,6,cX⟩ (cS v.1)).setCell ⟨M,7,cX⟩ (cI cJ v.2)) B N M k {s with result:=v} j:=by
 have s0:=h.st;unfold Eh at s0;have s1:=s0.nth 1 rfl rfl;have h1:Am (w.setCell ⟨M,6,cX⟩ (cS v.1)) B N M k {s with result:=(v.1,s.result.2)} j:=by
  refine h.of (Aq.set1 (v1:=cS v.1) (Aq.nth (l:=[dS s.result.1,dN s.result.2]) s1 0 rfl rfl) rfl) ?_;unfold dM Eh;simp[dN,C9,dS]
 have t0:=h1.st;unfold Eh at t0;have t1:=t0.nth 1 rfl rfl;refine h1.of (Aq.set1 (v1:=cI cJ v.2) (Aq.nth (l:=[dS v.1,dN s.result.2]) t1 1 rfl rfl) rfl) ?_;unfold dM Eh;simp[dN,C9,dS]
theorem Am.low(h:Am w B N M k s j)(i:Nat)(v:Value):Below B w (w.setCell ⟨M,i,cX⟩ v):=(AL).setCell (p:=⟨M,i,cX⟩) h.own.ge v
end
def Mg{k:Hd}{s:St}{j:Int}(h:Am w B N M k s j)(c:Int):Calls prog 89 #[.pointer (cP ⟨M,0,cX⟩),cI cJ c] w (oU B N M k (Gd s c) j w):=by
 have h1:=h.ER 2;have h2:=h1.bS c;have hb:=(h.low 5 (cI cJ 2)).trans (h1.low 8 (cI cJ c));obtain⟨n5,n6,n7,n8,n14,n15,n16,n17⟩:=h.ns;have fz:=h.Bw;go_enter func89,ntmps89;go_wp2;go_end0;exact⟨rfl,h2,hb⟩
def aM:(prog.info? 59).map (λi=>(i.zero,i.size,i.bytes))=cP (cP (.agg #[cS .empty,cY cX 0 0,cI cJ 0,cE cA]),4,56):=by kernel_rfl
def Zx:(prog.info? 2).map (λi=>(i.zero,i.size,i.bytes))=cP (cP (cI cJ 0),1,8):=by kernel_rfl
def Ad.cellOf{W:World}{s bs ap st:Nat}{one:List Value}{dst:Addr}{V:Nat->Value}{L:Nat->Bool}(h:Ad W B e s bs ap st one n xs v dst V L w)(hst:L st=cA){o:Nat}{u:Value}(hc:W.cell? ⟨g,o,cX⟩=cP u)(hne:v.ownBlock≠cP g):w.cell? ⟨g,o,cX⟩=cP u:=
 (BM (h.keeps hst (World.block_lt_of_cell? W ⟨g,o,cX⟩ hc) hne) o).trans hc
theorem Ad.EA{W:World}{s bs ap st:Nat}{one:List Value}{dst:Addr}{V:Nat->Value}{L:Nat->Bool}(h:Ad W B e s bs ap st one n xs v dst V L w)(hst:L st=cA){o:Nat}(hg:g<W.heap.size)(hc:W.frozen? ⟨g,o,cX⟩=cA)(hne:v.ownBlock≠cP g):w.frozen? ⟨g,o,cX⟩=cA:=by
 rw[World.frozen?_of_block (w:=W) (w':=w) (a:=⟨g,o,cX⟩) (h.keeps hst hg hne)];exact hc
theorem Vh{k:Hd}{s:St}{j:Int}(h:Am w B N M k s j)(ev:Ev){u:Value}{fa:List Nat}(hA:AZ w N 2 1 (ev.ar.map dN) u fa)(hfa:fa.Nodup)(ht:s.trace.length<=1000000)(hm:s.marks.length<=1000000):Calls prog 84 #[.pointer (cP ⟨M,0,cX⟩),.agg #[cS ev.n,u,cI cJ ev.r,cE ev.fl]] w λe w'=>e=.returned (.tuple #[])/\(∃N',Am w' B N' M k (JN s ev) j)/\Below B w w'/\∀b,N<=b->b<w.heap.size->w'.heap[b]? =w.heap[b]? :=by
 obtain⟨pu,cu,rfl⟩:=hA.slice;rw[List.length_map]at hA⊢;generalize hne:ev.ar.length=ne at*;obtain⟨hE,hb1⟩:=BR (w:=w) (c1:=[cS ev.n,cY pu ne cu,cI cJ ev.r,cE ev.fl]) (t1:=59) (AL);have Df:N<=w.heap.size:=h.own.sz;have hBN:B<=N:=by have:=h.own.ge;have:=h.own.lt;omega
 go_enter func84,ntmps84;generalize Cr:w.alloc (.cells #[cS ev.n,cY pu ne cu,cI cJ ev.r,cE ev.fl] 59)=W at*;replace h:=h.kp (hb1.mono Df);replace hA:=hA.same (λb hb=>hb1.block b (hA.fp b hb).2);go_wp2;have TQ:N<=W.heap.size:=h.own.sz;have s0:=h.st;unfold Eh at s0;have s1:=s0.nth 6 rfl (n:=7) (by simp[Dt.DF,Dt.wd,C9,dN,dS]);obtain⟨vt,xs,ct,hx,pt,kt,rfl⟩:=s1.owns;rw[List.length_map]at ct hx;have IW:=s1.OE ct;have hot:=λk hk=>s1.JI (k:=k) ct hk;have s8:=s0.nth 7 rfl (n:=8) (by simp[Dt.DF,Dt.wd,C9,dN,dS]);obtain⟨vm,xm,cm,-,pm0,km0,rfl⟩:=s8.owns;have hom:=λk hk=>s8.JI (k:=k) cm hk;have hfz:=h.Bw 12;have Pk:=h.own.lt;have qV:=hE.lt;have hsd:W.drew.heap.size=W.heap.size:=rfl;generalize hnt:s.trace.length=nt at*;have hxd:=Dh hx (Al (w:=W) 1) (AQ);refine ALR (S:=Ad W.drew B 59 4 7 8 12 [cS ev.n,cY pu ne cu,cI cJ ev.r,cE ev.fl] nt xs (cY pt nt kt) ⟨M,12,cX⟩) (Ad.start (AL)) ?_;iterate 5((refine AU.q (λz=>z.s.keep rfl rfl rfl) ?_))
 (refine AU.f (λz=>z.s.keep rfl rfl rfl) (λz=>AA (z.s.below (z.o 8)) (show W.drew.cell? ⟨M,12,cX⟩=cP (cY pt nt kt)from ct)) ?_);(refine AU.f (λz=>z.s.keep rfl rfl rfl) (λz=>((hE.drew).below qV (z.s.below (z.r (8) (7) (by kernel_rfl) (z.o 7)))).c4) ?_);(apply AU.w rfl;intro V L w1 _ _ _ z hK;go_simp;exact hK rfl (z.s.made (z.o 8) rfl _);(try simp only[pE]));(refine Ad.aq (aM) (underlying38) (hxd) ?_;(try simp only[pE]));iterate 3((refine AU.q (λz=>z.s.keep rfl rfl rfl) ?_))
 (refine Ad.sv (λhS hi=>ALS (hS.cellOf hi (show W.drew.cell? ⟨M,12,cX⟩=cP (cY pt nt kt)from ct) IW) (hS.EA hi (o:=12) (show M<W.drew.heap.size from A9 Pk TQ) hfz IW)) ?_;simp only[Act.put]);refine AU.nil λV w1 hS=>?_;obtain⟨⟨N1,ho⟩,hbel,-,w9,u9,rfl,Y9⟩:=hS.done rfl rfl (s1.kp ((Al (w:=W) 1).mono TQ)) (AL) ct hxd (by rw[List.length_map,hnt]) (d:=Qc ev)
  (λw1 pb b1 _ _ hx=>⟨fa++[],Af.of (AP.cc (hx.c 0 _ rfl) rfl (AP.cr (hx.c 1 _ rfl) (hA.same (λb hb=>b1.block b (hA.fp b hb).2)) (AP.cc (hx.c 2 _ rfl) rfl (AP.cc (hx.c 3 _ rfl) rfl AP.cn)))),by simpa using hfa⟩) rfl rfl
 have Pn:∀b,N<=b->b<w.heap.size->(w9.setCell ⟨M,5+7,cX⟩ u9).heap[b]? =w.heap[b]? :=λb g1 g2=>by
  have g3:b<W.heap.size:=A9 g2 hb1.size;refine(hS.far rfl rfl (b:=b) (by omega) (λe=>?_) g3).trans (hb1.block b g2);have:=hot b e;omega
 have cm2:(w9.setCell ⟨M,5+7,cX⟩ u9).cell? ⟨M,13,cX⟩=cP (.slice pm0 (s.marks.map dN).length km0):=by
  rw[World.cell?_setCell_other _ _ _ _ (Ik (by decide))];exact(BM Y9 13).trans cm
 have h1:Am (w9.setCell ⟨M,5+7,cX⟩ u9) B N1 M k {s with trace:=s.trace++[ev]} j:=by
  obtain⟨cur,T,e1⟩:=h.typ;refine⟨?_,Iq (Y9.trans e1) _ _⟩;unfold dM Eh;simpa using ho
 generalize w9.setCell ⟨M,5+7,cX⟩ u9=W2 at*;have hbW:Below B w W2:=((hb1.mono (by omega)).trans (Al 1|>.mono (by omega))).trans hbel;have hMN:=h.own.lt;have yU:N1<=W2.heap.size:=h1.own.sz;have AJt:B<=N1:=by have:=h1.own.ge;have:=h1.own.lt;omega
 go_wp2;have s0:=h1.st;unfold Eh at s0;have s1:=s0.nth 7 rfl (n:=8) (by simp[Dt.DF,Dt.wd,C9,dN,dS]);obtain⟨vt,xs2,ct,hx,pm,km,rfl⟩:=s1.owns;rw[List.length_map]at ct hx;have IW:=s1.OE ct;have hvm:(cY pm s.marks.length km).ownBlock=(Value.slice pm0 (s.marks.map dN).length km0).ownBlock:=by
  have e:=ct.symm.trans cm2;injection e with e;rw[e]
 have hfz:=h1.Bw 13;have Pk:=h1.own.lt;have c14:=h1.ns.2.2.2.2.1;dsimp only at c14 ct hx;generalize hnm:s.marks.length=nm at*;have hxd:=Dh hx (Al (w:=W2) 1) (AQ);have hsd:W2.drew.heap.size=W2.heap.size:=rfl;refine ALR (S:=Ad W2.drew B 2 1 11 12 16 [cI cJ s.allocs] nm xs2 (cY pm nm km) ⟨M,13,cX⟩) (Ad.start (AL)) ?_;iterate 5((refine AU.q (λz=>z.s.keep rfl rfl rfl) ?_))
 (refine AU.f (λz=>z.s.keep rfl rfl rfl) (λz=>AA (z.s.below (z.o 12)) (show W2.drew.cell? ⟨M,13,cX⟩=cP (cY pm nm km)from ct)) ?_);iterate 4((refine AU.q (λz=>z.s.keep rfl rfl rfl) ?_))
 (refine AU.f (λz=>z.s.keep rfl rfl rfl) (λz=>AA (z.s.below (z.r (12) (11) (by kernel_rfl) (z.o 11))) (show W2.drew.cell? ⟨M,14,cX⟩=cP (cI cJ s.allocs)from c14)) ?_);(apply AU.w rfl;intro V L w1 _ _ _ z hK;go_simp;exact hK rfl (z.s.made (z.o 12) rfl _);(try simp only[pE]));(refine Ad.aq (Zx) (underlying28) (hxd) ?_;(try simp only[pE]));iterate 3((refine AU.q (λz=>z.s.keep rfl rfl rfl) ?_))
 (refine Ad.sv (λhS hi=>ALS (hS.cellOf hi (show W2.drew.cell? ⟨M,13,cX⟩=cP (cY pm nm km)from ct) IW) (hS.EA hi (o:=13) (show M<W2.drew.heap.size from A9 Pk yU) hfz IW)) ?_;simp only[Act.put]);refine AU.nil λV w1 hS=>?_;obtain⟨⟨N2,ho⟩,hbel,-,w9,u9,rfl,Y9⟩:=hS.done rfl rfl (s1.kp ((Al (w:=W2) 1).mono yU)) (AL) ct hxd (by rw[List.length_map];exact hnm.symm) (d:=dN s.allocs)
  (λw1 pb b1 _ _ hx=>⟨[],by unfold dN Af;exact⟨hx.c 0 _ rfl,rfl,rfl⟩,by simp⟩) rfl rfl
 have AAd:∀b,N<=b->b<w.heap.size->(w9.setCell ⟨M,5+8,cX⟩ u9).heap[b]? =w.heap[b]? :=λb g1 g2=>by
  refine(hS.far rfl rfl (b:=b) (by omega) (λe=>?_) (A9 g2 hbW.size)).trans (Pn b g1 g2);have:=hom b (by rw[<-hvm];exact e);omega
 have h2:Am (w9.setCell ⟨M,5+8,cX⟩ u9) B N2 M k (JN s ev) j:=by
  obtain⟨cur,T,e1⟩:=h1.typ;refine⟨?_,Iq (Y9.trans e1) _ _⟩;unfold dM Eh JN;simpa using ho
 have hbW2:=(hbW.trans (Al 1|>.mono (by omega))).trans hbel;generalize w9.setCell ⟨M,5+8,cX⟩ u9=W3 at*;go_wp2;go_end0;exact⟨rfl,⟨N2,h2⟩,hbW2,AAd⟩
end
def VW:(prog.info? 34).map (λi=>(i.zero,i.size,i.bytes))=cP (cP (.agg #[cS .empty,cI cJ 0]),2,24):=by kernel_rfl
theorem AZ.app1{w2:World}{s:Nat}{v':Value}{fp fd:List Nat}{cs:List Value}(h:AZ w B e s l v fp)(hn:fp.Nodup)(hx:w.ownsRow B e s v l.length xs)(hb:Ae w pb cs)(hd:Af w B d pb 0 fd)(hnd:fd.Nodup)(hdj:∀b,b∈fd->b∉fp)(hdw:d.wd=s) (hcs:cs.length=s) (ho:w2.ownsRow B e s v' (l.length+1) (xs++cs)) (hg:w.grownBy w2 v.ownBlock) (hf:∀k,v'.ownBlock=cP k->v.ownBlock=cP k\/w.heap.size<=k):∃fp',AZ w2 B e s (l++[d]) v' fp'/\fp'.Nodup/\∀b,b∈fp'->b∈fp\/b∈fd\/w.heap.size<=b:=by
 refine h.push (r:=[d]) (ga:=pb) (oa:=0) (fd:=fd) (news:=cs) hx ?_ (λx hx=>by simp at hx;rw[hx];exact hdw) (by simp) (by simp[hcs]) (λj hj=>?_) (by simpa using ho) hg hf hn hnd hdj
 ·unfold AP;exact⟨fd,[],by simp,hd,by unfold AP;rfl⟩
 grind [cases Ae]
def Tw{v:Vu}(hb:Ae w pb [cS v.1,cI cJ v.2]):Af w B (C9 v) pb 0 []:=Af.of (AP.cc (hb.c 0 _ rfl) rfl (AP.cc (hb.c 1 _ rfl) rfl AP.cn))
abbrev NZ(a:Ag):Prop:=a.k=1\/a.k=2\/a.k=3\/a.k=4
theorem Md{w0:World}(h0:AA6 w0 w)(hT:DX w M FB n cap b x){l:List Ag}{u:Value}(hl:Row Lg 3 w0 u l)(hk:∀a∈l,NZ a)(hn:l.length<=1000000):Calls prog 134 #[.pointer (cP ⟨M,0,cX⟩),u] w λe w'=>AA6 w w'/\∃v fp,e=.returned v/\AZ w' w.heap.size 34 2 ((l.map (Ar x.vars)).map C9) v fp/\fp.Nodup:=by
 obtain⟨pl,cl,rfl,-,-,hl⟩:=hl;obtain⟨i0,hi,hz0,hz1,hz2⟩:=Cq VW;go_enter func134,ntmps134;go_wp2;go_loopw[5,10] (λo i wr=>∃(q:Nat) (fp:List Nat),q<=l.length/\i=cI cJ (q:Int)/\AZ wr w.heap.size 34 2 (((l.take q).map (Ar x.vars)).map C9) o fp/\fp.Nodup/\AA6 w wr) (λ_ i _=>l.length-(intOf i).toNat);exact⟨0,[],AY,rfl,.nil,by simp,AL⟩;obtain⟨q,fp,hq,rfl,hv,hnd,hb⟩:=hrel;by_cases hend:q=l.length
 ·subst hend;rw[List.take_length]at hv;go_wp2;go_ret;exact⟨hb,_,fp,rfl,hv,hnd⟩
 ·have hlt:q<l.length:=by omega
  have A8:(q:Int)<l.length:=by omega
  obtain⟨a,rfl,d0,⟨d1,-⟩,d2⟩:=hl q l[q] (by simp[hlt]);have hka:=hk l[q] (by simp);have hbw:=AB h0 hb;replace d0:=AA hbw d0;replace d1:=AA hbw d1;replace d2:=AA hbw d2;have hTr:=hT.kp hb;obtain⟨xs,hx⟩:=hv.owns;have hlen:(((l.take q).map (Ar x.vars)).map C9).length=q:=by simp;omega
  rw[hlen]at hx;have hTa:∀o,DX (wr.alloc o) M FB n cap b x:=λo=>hTr.kp (AJ _ o);go_wp2_with fail;refine(Cm (hTa _) l[q] hka).mono ?_;rintro e w2 ⟨rfl,hb2⟩;obtain⟨-,hb3⟩:=BR (w:=wr) (c1:=[cI cJ l[q].k,cS l[q].s,cI cJ l[q].n]) (t1:=77) hb2;have hlq:l.take (q+1)=l.take q++[l[q]]:=List.take_succ_eq_append_getElem hlt;generalize hvq:Ar x.vars l[q]=vq at*;have hx2:=Dh hx hb3 (AQ);have hv2:AZ w2 w.heap.size 34 2 (((l.take q).map (Ar x.vars)).map C9) u5 fp:=hv.same (λb hb=>hb3.block b (hv.fp b hb).2);have hbz:AA6 w w2:=hb.trans (hb3.mono hb.size);have hB2:=Ae.alloc w2 [cS vq.1,cI cJ vq.2] 34;go_wp2_with(at_builtin;refine wpList_append_own' rfl _ _ 37 rfl w.heap.size 34 i0 _ 2 24 underlying37 hi hz0 hz1 hz2 rfl (by decide) _ q xs rfl (World.ownsRow.alloc hx2 _) ⟨w2.heap.size,0,cX⟩ 1 1 [cS vq.1,cI cJ vq.2] rfl rfl (λj u hu=>by rw[Dk,Nat.zero_add];exact hB2.c j u hu) (by simp[Value.oneCell']) (by unfold maxLen;omega) (by omega) (by have:=hbz.size;simp;omega) ?_;intro v' w3 ho hg hf)
  have hv3:AZ (w2.alloc (Obj.cells #[cS vq.1,cI cJ vq.2] 34)) w.heap.size 34 2 (((l.take q).map (Ar x.vars)).map C9) u5 fp:=hv2.same (λb hb=>Below.heap_alloc _ _ _ (hv2.fp b hb).2);obtain⟨fp',k1,k2,-⟩:=AZ.app1 (d:=C9 vq) (w2:=w3) (v':=v') hv3 hnd (by rw[hlen];exact World.ownsRow.alloc hx2 _) hB2 (Tw hB2) (by simp) (by simp) rfl rfl (by rw[hlen];exact ho) hg hf;have hbf:AA6 w w3:=(hbz.alloc hbz.size _).grown hg (by have:=hbz.size;simp;omega) (λk hk=>(hx2.lt k hk).1);have hfin:(((l.take (q+1)).map (Ar x.vars)).map C9)=((l.take q).map (Ar x.vars)).map C9++[C9 vq]:=by rw[hlq,List.map_append,List.map_append,List.map_singleton,List.map_singleton,hvq]
  rw[<-hfin]at k1;go_roundw;exact⟨q+1,fp',by omega,by go_num,k1,k2,hbf⟩;simp[intOf];omega
end Go.Proofs.YtlffomedflegdaaGreatDoor
