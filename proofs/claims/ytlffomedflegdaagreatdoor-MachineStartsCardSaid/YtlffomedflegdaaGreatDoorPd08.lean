/- Part 08 of the proof: Wr, Mt, Mu, Mv, Mw, Mx, My, Mz, Na, Nb, Nc, Nd. -/
import Derived.Test.YtlffomedflegdaaGreatDoorPd07
set_option linter.all false
set_option maxHeartbeats 16000000
set_option maxRecDepth 100000
namespace Go.Proofs.YtlffomedflegdaaGreatDoor
open Go.Proofs.Tryz
open Go.RowKit
open Go.Value renaming int→cI,string→cS,slice→cY,bool→cE
open Go.IntKind renaming i64→cJ
open Option renaming some→cP,none→cX
open Bool renaming false→cA,true→cC
variable {B M N c1 c2 c3 i j l1 l2 l3:Nat}{L:Nat->Bool}{a:Ag}{b:Bk}{d n y:ByteArray}{f:Fn}{p1 p2 p3:Option Addr}{r:List Ag}{rest:List Lv}{s t:St}{v w w0 w1 w2:World}{x:Lv}
section
open Num Dp
abbrev Bo(n:Int):Prop:= -9223372036854775808<=n/\n<=9223372036854775807
def EG(n:Int):Bo (wrap64 n):=FR n
theorem Ki{n:Int}(h:Bo n):Bo (Ba n):=by grind [Ba,Pe]
def YO(op:BinOp)(x y:Nat):Bo (Eo op x y):=by
 unfold Eo;split
 ·exact Ki (EG _)
 simp[Bo,Eo,Pe]
theorem tF(b:Bool):Bo (tr b):=by grind [tr]
theorem Ll(b:Bool):Bo (mX b):=by grind [mX]
def lC(op a b:Int):Bo (OA op a b).1:=by
 unfold OA;repeat' split
 all_goals first|exact YO _ _ _|exact tF _|exact⟨by decide,by decide⟩
def YN(n:Int):Bo (MR n):=Ki (EG _)
theorem YM(n:Int):Bo (CU n):=by
 unfold CU;grind [Vx]
def eO{a:Int}(h:Bo a)(k:Nat):Bo (a/2^k):=by
 have hp:(0:Int)<2^k:=Int.pow_pos (by decide);by_cases h0:0<=a
 ·have h1:=Int.ediv_nonneg h0 (Int.le_of_lt hp);have h2:=Int.ediv_le_self (2^k) h0;exact⟨by omega,by omega⟩
 ·have h1:a<=a/2^k:=by
   rw[Int.le_ediv_iff_mul_le hp];have:a*2^k<=a*1:=Int.mul_le_mul_of_nonpos_left (by omega) (by omega);omega
  have h2:a/2^k<0:=Int.ediv_neg_of_neg_of_pos (by omega) hp;exact⟨by omega,by omega⟩
theorem FH{c:Prop}[Decidable c]{x y:Int×Bool}(h1:c->Bo x.1)(h2:¬c->Bo y.1):Bo (if c then x else y).1:=by grind
def eF{a:Int}(b:Int)(ha:Bo a):Bo (a.tmod b):=by
 have h1:(a.tmod b).natAbs<=a.natAbs:=by rw[Int.natAbs_tmod];exact Nat.mod_le _ _
 obtain⟨h4,h5⟩:=ha;by_cases h0:0<=a
 ·have:=Int.tmod_nonneg b h0;exact⟨by omega,by omega⟩
 ·have:=Int.tmod_nonneg b (show 0<=-a by omega);rw[Int.neg_tmod]at this;exact⟨by omega,by omega⟩
def lD{op a b:Int}(ha:Bo a):Bo (Kv op a b).1:=by
 have z0:Bo 0:=⟨by decide,by decide⟩;unfold Kv;refine FH (λ_=>EG _) λ_=>FH (λ_=>EG _) λ_=>FH (λ_=>EG _) λ_=>FH (λ_=>FH (λ_=>z0) λ_=>EG _) λ_=>FH (λ_=>FH (λ_=>z0) λ_=>eF _ ha) λ_=>?_;refine FH (λ_=>?_) λ_=>FH (λ_=>?_) λ_=>FH (λ_=>?_) λ_=>FH (λ_=>EG _) λ_=>FH (λ_=>eO ha _) λ_=>FH (λ_=>Ll _) λ_=>FH (λ_=>Ll _) λ_=>FH (λ_=>Ll _) λ_=>FH (λ_=>Ll _) λ_=>z0
 ·rw[WE];exact EG _
 ·rw[sJ];exact EG _
 ·rw[jY];exact EG _
def JG(m:Vm):Prop:=∀y∈m,Bo y.2.2
structure Ga(s:St):Prop where
 fr:∀x∈s.frames,JG x.vars
 hp:∀ob∈s.heap,∀v∈ob.vs,Bo v.2
 gl:∀v∈s.globals,Bo v.2
def rP(i:Is):Prop:=∀a∈i.as,Bo a.n
def Zp(p:Pg):Prop:=∀f∈p.fs,∀b∈f.bs,(∀i∈b.cs,rP i)/\Bo b.e.a.n
theorem fB{m:Vm}(h:JG m)(x:ByteArray):Bo (getM m x).2:=by grind [JG,getM]
theorem Jt:∀{m:Vm},JG m->∀(x:ByteArray) {v:Vu},Bo v.2->JG (Ei m x v)
 | [],_,x,v,hv=>by
  intro y hy;obtain rfl:y=(x,v):=by simpa[Ei]using hy
  exact hv
 |z::r,h,x,v,hv=>by
  unfold Ei;split
  ·intro y hy;rcases List.mem_cons.1 hy with rfl|hy
   ·exact hv
   ·exact h y (by simp[hy])
  ·intro y hy;rcases List.mem_cons.1 hy with rfl|hy
   ·exact h y (by simp)
   ·exact Jt (λy hy=>h y (by simp[hy])) x hv y hy
def Me{m:Vm}(h:JG m)(ha:Bo a.n):Bo (Ar m a).2:=by
 unfold Ar;repeat' split
 all_goals first|exact fB h _|exact ha|exact⟨by decide,by decide⟩
theorem JW(t:ByteArray):Bo (Ap t).2:=by grind [Ap]
section
variable {p : Pg} {ans fails : List Int} {fuel : Int} {s s1 t u : St} {j j1 k : Nat} {rest : List Lv} {x : Lv}
theorem Ih{s':St}(hf:∀y∈rest,JG y.vars)(hx:JG x.vars)(h1:∀ob∈s'.heap,∀v∈ob.vs,Bo v.2)(h2:∀v∈s'.globals,Bo v.2)(d:ByteArray){v:Vu}(hv:Bo v.2):Ga (BP s' rest x d v):=by
 refine⟨λy hy=>?_,h1,h2⟩;grind [JG,BP,Jt,cases St,cases Ga]
theorem Lm{s':St}(hf:∀y∈rest,JG y.vars)(hx:JG x.vars)(h1:∀ob∈s'.heap,∀v∈ob.vs,Bo v.2)(h2:∀v∈s'.globals,Bo v.2)(h:TU s' rest x d=cP t):Ga t:=by grind [JG,TU,Ih,cases St,cases Ga]
theorem PO:∀(ps:List Vr) (l:List Vu) (m m1:Vm),JG m->(∀v∈l,Bo v.2)->bindM ps l m=cP m1->JG m1
 |_,[],m,m1,hm,_,h=>by
  unfold bindM at h;injection h with h;subst h
  exact hm
 | [],_::_,m,m1,_,_,h=>by unfold bindM at h;cases h
 |v::r,u::l,m,m1,hm,hl,h=>by
  unfold bindM at h;exact PO r l _ m1 (Jt hm _ (hl u (by simp))) (λv hv=>hl v (by simp[hv])) h
theorem KX{α:Type}{l:List α}{k:Nat}{v y:α}(h:y∈setAt l k v):y=v\/y∈l:=by grind [setAt]
theorem LG{o:Vu}{r:Nat×ByteArray×List Vu×Nat×Vu}(hs:Ga s)(h:fieldAt p s o y=cP r):Bo r.2.2.2.2.2/\∀v∈r.2.2.1,Bo v.2:=by
 unfold fieldAt at h;repeat'(first|cases h;done|split at h)
 rename_i x1 ob Nc x2 cl hcl x3 k hk x4 v hv
 injection h with h;subst h;have:=hs.hp ob (List.mem_of_getElem? Nc);exact⟨this v (List.mem_of_getElem? hv),this⟩
theorem YL(hs:Ga s)(hl:s.frames=rest++[x]){i:Is}(hi:rP i)(ha:∀n∈ans,Bo n)(hh:s.heap.length<=1000000)(h:Bq p ans fails s rest x i=cP t):Ga t:=by
 have hf:∀y∈rest,JG y.vars:=λy hy=>hs.fr y (by rw[hl];simp[hy]);have hx:JG x.vars:=hs.fr x (by rw[hl];simp);have hval:∀a∈i.as,Bo (Ar x.vars a).2:=λa h=>Me hx (hi a h);have st:∀{d:ByteArray} {v:Vu},Bo v.2->Ga (BP s rest x d v):=λhv=>Ih hf hx hs.hp hs.gl _ hv;have hvl:∀v∈i.as.map (Ar x.vars),Bo v.2:=λv hv=>by
  obtain⟨a,h1,rfl⟩:=List.mem_map.1 hv;exact hval a h1
 have z0:Bo 0:=⟨by decide,by decide⟩;unfold Bq at h;by_cases ZG:i.op=25
 ·rw[if_pos ZG]at h;injection h with h;subst h;refine Ih hf hx ?_ (by exact hs.gl) _ (by show Bo ((s.heap.length:Int)+1);exact⟨by omega,by omega⟩);intro ob Nc;rcases List.mem_append.1 Nc with h1|h1
  ·exact hs.hp ob h1
  ·obtain rfl:ob=_:=(by simpa using h1);intro v hv;dsimp only at hv;unfold Em at hv;split at hv
   ·split at hv
    ·cases hv
    ·obtain⟨u,_,rfl⟩:=List.mem_map.1 hv;exact JW _
   ·exact hvl v hv
 rw[if_neg ZG]at h;by_cases iM:i.op=29
 ·rw[if_pos iM]at h;split at h
  ·cases h
  split at h
  ·cases h
  rename_i v hv
  injection h with h;subst h;exact st (hs.gl v (List.mem_of_getElem? hv))
 rw[if_neg iM]at h;by_cases c31:i.op=31
 ·rw[if_pos c31]at h;split at h
  ·cases h
  split at h
  ·cases h
  split at h
  ·cases h
  rename_i m1 hm1
  injection h with h;subst h;refine⟨λy hy=>?_,hs.hp,hs.gl⟩;dsimp only at hy;rw[<-hl]at hy;rcases List.mem_append.1 hy with hy|hy
  ·exact hs.fr y hy
  ·obtain rfl:y=_:=(by simpa using hy);exact PO _ _ _ _ (λy hy=>by cases hy) hvl hm1
 rw[if_neg c31]at h;by_cases c32:i.op=32
 ·rw[if_pos c32]at h;injection h with h;subst h;refine Ih hf hx (by exact hs.hp) (by exact hs.gl) _ ?_;(try dsimp only)
  cases hg:ans[s.asked.toNat]? with
  |none=>exact z0
  |some n=>exact ha n (List.mem_of_getElem? hg)
 rw[if_neg c32]at h;by_cases c34:i.op=34
 ·rw[if_pos c34]at h;split at h
  ·injection h with h;subst h;exact⟨hs.fr,hs.hp,hs.gl⟩
  ·exact Lm hf hx (by exact hs.hp) (by exact hs.gl) h
 rw[if_neg c34]at h;split at h
 ·cases h
 rename_i a r has
 have hva:=hval a (by rw[has];simp);by_cases iN:i.op=22
 ·rw[if_pos iN]at h;injection h with h;subst h;exact st (YN _)
 rw[if_neg iN]at h;by_cases c23:i.op=23
 ·rw[if_pos c23]at h;injection h with h;subst h;exact st (YM _)
 rw[if_neg c23]at h;by_cases c24:i.op=24
 ·rw[if_pos c24]at h;injection h with h;subst h;exact st hva
 rw[if_neg c24]at h;by_cases gT:i.op=26
 ·rw[if_pos gT]at h;split at h
  ·injection h with h;subst h;exact⟨hs.fr,hs.hp,hs.gl⟩
  split at h
  ·cases h
  rename_i q hq
  injection h with h;subst h;exact st (LG hs hq).1
 rw[if_neg gT]at h;by_cases ZF:i.op=30
 ·rw[if_pos ZF]at h;split at h
  ·cases h
  split at h
  ·cases h
  refine Lm hf hx (by exact hs.hp) ?_ h;intro v hv;rcases KX hv with rfl|hv
  ·exact hva
  ·exact hs.gl v hv
 rw[if_neg ZF]at h;by_cases gQ:i.op=33
 ·rw[if_pos gQ]at h;exact Lm hf hx (by exact hs.hp) (by exact hs.gl) h
 rw[if_neg gQ]at h;split at h
 ·cases h
 rename_i x0 x1 b r2
 have hvb:=hval b (by rw[has];simp);by_cases Yy:i.op=27
 ·rw[if_pos Yy]at h;split at h
  ·injection h with h;subst h;exact⟨hs.fr,hs.hp,hs.gl⟩
  split at h
  ·cases h
  rename_i q hq
  refine Lm hf hx ?_ (by exact hs.gl) h;intro ob Nc;rcases KX Nc with rfl|Nc
  ·intro v hv;dsimp only at hv;rcases KX hv with rfl|hv
   ·exact hvb
   ·exact(LG hs hq).2 v hv
  ·exact hs.hp ob Nc
 rw[if_neg Yy]at h;by_cases c28:i.op=28
 ·rw[if_pos c28]at h;injection h with h;subst h;refine st ?_;dsimp only;split<;>exact⟨by decide,by decide⟩
 rw[if_neg c28]at h;split at h
 ·split at h
  ·injection h with h;subst h;exact st (lD hva)
  ·injection h with h;subst h;exact⟨hs.fr,hs.hp,hs.gl⟩
 split at h
 ·injection h with h;subst h;exact st (lC _ _ _)
 ·cases h
theorem RU(hs:Ga s)(hl:s.frames=rest++[x])(h:H7 f s rest x y=cP t):Ga t:=by
 rw[KS h];refine⟨λz hz=>?_,hs.hp,hs.gl⟩;grind [KS,cases Ga,cases Fn]
theorem eY(hs:Ga s)(hl:s.frames=rest++[x]){v:Vu}(hv:Bo v.2)(h:K4 p s rest v=cP t):Ga t:=by
 unfold K4 at h;split at h
 ·injection h with h;subst h;exact⟨(λy hy=>by cases hy),hs.hp,hs.gl⟩
 rename_i y hy
 repeat'(first|cases h;done|split at h)
 injection h with h;subst h;have hm:∀z∈rest,JG z.vars:=λz hz=>hs.fr z (by rw[hl];simp[hz]);exact Ih (λz hz=>hm z (List.dropLast_subset _ hz)) (hm y (List.mem_of_getLast? hy)) hs.hp hs.gl _ hv
def lu(hs:Ga s)(hl:s.frames=rest++[x]){e:Tm}(he:Bo e.a.n)(h:La p f s rest x e=cP t):Ga t:=by
 unfold La at h;split at h
 ·split at h
  ·cases h
  ·exact RU hs hl h
 split at h
 ·split at h
  ·exact RU hs hl h
  ·cases h
 split at h
 ·exact eY hs hl (Me (hs.fr x (by rw[hl];simp)) he) h
 split at h
 ·injection h with h;subst h;exact⟨hs.fr,hs.hp,hs.gl⟩
 ·cases h
theorem RY(hr:Zp p)(hs:Ga s)(hl:s.frames=s.frames.dropLast++[x])(hx:Ca p s.heap x f b)(ha:∀n∈ans,Bo n)(hh:s.heap.length<=1000000)(h:El p ans fails s x f b=cP t):Ga t:=by
 have hb:=hr f (Ak hx.1).1 b (Ak hx.2.1).1;unfold El at h;split at h
 ·exact lu hs hl hb.2 h
 ·split at h
  ·cases h
  ·rename_i i hi
   exact YL hs hl (hb.1 i (List.mem_of_getElem? hi)) ha hh h
theorem Xj(hg:DJ p)(hr:Zp p)(hs:Ga s)(hw:WT p s)(hst:s.status=0)(ha:∀n∈ans,Bo n)(hh:s.heap.length<=1000000)(h:EP p ans fails fuel s j=cP (t,k)):Ga t:=by
 obtain⟨x,f,b,h1,h2,h3,h4⟩:=Il hg hw hst h;rcases h4 with⟨_,_,rfl,_⟩|⟨_,_,_,h⟩|⟨_,_,rfl,_⟩|⟨_,_,_,h⟩
 ·exact⟨hs.fr,hs.hp,hs.gl⟩
 ·exact RY hr hs h2 h3 ha hh h
 ·exact⟨hs.fr,hs.hp,hs.gl⟩
 ·exact RY (s:={s with steps:=s.steps+1}) hr ⟨hs.fr,hs.hp,hs.gl⟩ h2 h3 ha hh h
end
end
section
open Dp
theorem Yi{k:Hd}{j:Int}{i:Is}(h:Qd w0 w B N M k s j rest x i p1 c1)(has:i.as=a::r)(hop:i.op=22):Calls prog 53 #[.pointer (cP ⟨M,0,cX⟩),.agg #[cI cJ i.op,cS i.d,cS i.n,cY p1 i.as.length c1,cY p2 l2 c2,cY p3 l3 c3]] w (BI B M k (BP s rest x i.d (Ao,MR (Ar x.vars a).2)) j w):=by
 obtain⟨h0,hA,hM,hfr,hl,hx,hin,hk⟩:=h;obtain⟨pa,ca,hpa,-,-,hA⟩:=hA;have hka:NZ a:=hk a (by rw[has];simp);obtain⟨aa,e1,d0,⟨d1,-⟩,d2⟩:=hA 0 a (by rw[has];rfl);obtain⟨nl,hnl,hn0⟩:∃nl:Nat,i.as.length=nl/\(0:Int)<nl:=⟨i.as.length,rfl,by rw[has];simp⟩;have ZO:0<nl:=by omega
 rw[hnl]at hpa hin⊢;rw[hop];obtain⟨rfl,rfl⟩:p1=pa/\c1=ca:=by simpa using hpa
 subst e1;replace d0:w0.cell? aa=cP (cI cJ a.k):=d0;replace d1:w0.cell? ⟨aa.block,aa.off+1,cX⟩=cP (cS a.s):=d1;replace d2:w0.cell? ⟨aa.block,aa.off+2,cX⟩=cP (cI cJ a.n):=d2;generalize i.d=dst at*;generalize i.n=nm at*;obtain⟨hI,hb1⟩:=BR (w:=w) (c1:=[cI cJ 22,cS dst,cS nm,cY (cP aa) nl c1,cY p2 l2 c2,cY p3 l3 c3]) (t1:=133) (AL);have Df:N<=w.heap.size:=hM.own.sz;have hBN:B<=N:=by have:=hM.own.ge;have:=hM.own.lt;omega
 go_enter func53,ntmps53;generalize Cr:w.alloc (.cells #[cI cJ 22,cS dst,cS nm,cY (cP aa) nl c1,cY p2 l2 c2,cY p3 l3 c3] 133)=W at*;replace hM:=hM.kp (hb1.mono Df);obtain⟨FB,cap,bm,hT,-⟩:=hM.top hfr hl;have hw0:=AB h0 hb1;replace d0:=AA hw0 d0;replace d1:=AA hw0 d1;replace d2:=AA hw0 d2;have hva:=λv (hT:DX v M FB rest.length cap bm x)=>Cm hT a hka;generalize Yt:Ar x.vars a=ua at*;obtain⟨i0,i1,i2,i3,i4,i5⟩:=hI.c6;have hcv:=λv=>X6 ua.2 v;generalize hcn:MR ua.2=cn at*;have Db:Below B w W:=hb1.mono (by omega);go_wp2;refine ALQ (S:=Ah 11 (λv=>AA6 W v) (λv=>Am v B N M k (BP s rest x dst (Ao,cn)) j/\Below B W v)) (Ah.start Ac) ?_;(refine Ab.q (λz=>z.s.pass rfl) ?_);(refine Ab.f (λz=>z.s.pass rfl) (λz=>have hI:=z.s.1 (z.o 11);ALS (AA hI i0) (ALS (AA hI i1) (ALS (AA hI i2) (ALS (AA hI i3) (ALS (AA hI i4) (AA hI i5)))))) ?_);iterate 2((refine Ab.q (λz=>z.s.pass rfl) ?_))
 (refine Ab.f (λz=>z.s.pass rfl) (λz=>AA (z.s.1 (z.r 11 9 (by kernel_rfl)<|z.r 9 7 (by kernel_rfl)<|(z.r 7 6 (by kernel_rfl) (z.r 6 5 (by kernel_rfl) (z.o 5))))) i3) ?_);(refine Ab.q (λz=>z.s.pass rfl) ?_);(refine Ab.f (λz=>z.s.pass rfl) (λz=>have hI:=z.s.1 (z.r 11 9 (by kernel_rfl)<|z.r 9 7 (by kernel_rfl)<|(z.o 7));ALS (AA hI d0) (ALS (AA hI d1) (AA hI d2))) ?_);(apply Ab.y rfl;intro L w1 _ _ z hK;go_simp;go_wp2_with((refine(hva _ (hT.kp (z.s.1 (z.r 11 9 (by kernel_rfl)<|z.r 9 7 (by kernel_rfl)<|z.i)))).mono ?_;rintro e w3 ⟨rfl,hb⟩));(try simp only[pE]);exact hK.out _ (Ah.keep (z.r 11 9 (by kernel_rfl)<|z.r 9 7 (by kernel_rfl)<|z.i) (AB (z.s.1 (z.r 11 9 (by kernel_rfl)<|z.r 9 7 (by kernel_rfl)<|z.i)) hb) rfl);rfl);(refine Ab.q (λz=>z.s.pass rfl) ?_);(apply Ab.y rfl;intro L w1 _ _ z hK;go_simp;go_wp2_with((refine(hcv _).mono ?_;rintro e w3 ⟨rfl,rfl⟩));(try simp only[pE]);exact hK.out _ (Ah.keep (z.r 11 9 (by kernel_rfl) z.i) (z.s.1 (z.r 11 9 (by kernel_rfl) z.i)) rfl);rfl);(refine Ab.q (λz=>z.s.pass rfl) ?_);(apply Ab.y rfl;intro L w1 _ _ z hK;go_simp;go_wp2_with((refine(Co (hM.kp ((z.s.1 z.i).mono hM.own.sz)) hfr hl hx 22 dst nm (cP aa) p2 p3 nl l2 l3 c1 c2 c3 (Ao,cn)).mono ?_;rintro e w3 ⟨rfl,hm,hb⟩));(try simp only[pE]);exact hK.out _ (Ah.done ⟨hm,(z.s.1 z.i).mono (AX hBN hM.own.sz)|>.trans hb⟩);rfl);refine Ab.nil λw6 H6=>?_;obtain⟨hm,hb⟩:=H6.2 rfl;go_wp2;go_end0;exact⟨rfl,⟨_,hm⟩,Db.trans hb⟩
theorem Yj{k:Hd}{j:Int}{i:Is}(h:Qd w0 w B N M k s j rest x i p1 c1)(has:i.as=a::r)(hop:i.op=23)(hr:Bo (Ar x.vars a).2):Calls prog 53 #[.pointer (cP ⟨M,0,cX⟩),.agg #[cI cJ i.op,cS i.d,cS i.n,cY p1 i.as.length c1,cY p2 l2 c2,cY p3 l3 c3]] w (BI B M k (BP s rest x i.d (BA,CU (Ar x.vars a).2)) j w):=by
 obtain⟨h0,hA,hM,hfr,hl,hx,hin,hk⟩:=h;obtain⟨pa,ca,hpa,-,-,hA⟩:=hA;have hka:NZ a:=hk a (by rw[has];simp);obtain⟨aa,e1,d0,⟨d1,-⟩,d2⟩:=hA 0 a (by rw[has];rfl);obtain⟨nl,hnl,hn0⟩:∃nl:Nat,i.as.length=nl/\(0:Int)<nl:=⟨i.as.length,rfl,by rw[has];simp⟩;have ZO:0<nl:=by omega
 rw[hnl]at hpa hin⊢;rw[hop];obtain⟨rfl,rfl⟩:p1=pa/\c1=ca:=by simpa using hpa
 subst e1;replace d0:w0.cell? aa=cP (cI cJ a.k):=d0;replace d1:w0.cell? ⟨aa.block,aa.off+1,cX⟩=cP (cS a.s):=d1;replace d2:w0.cell? ⟨aa.block,aa.off+2,cX⟩=cP (cI cJ a.n):=d2;generalize i.d=dst at*;generalize i.n=nm at*;obtain⟨hI,hb1⟩:=BR (w:=w) (c1:=[cI cJ 23,cS dst,cS nm,cY (cP aa) nl c1,cY p2 l2 c2,cY p3 l3 c3]) (t1:=133) (AL);have Df:N<=w.heap.size:=hM.own.sz;have hBN:B<=N:=by have:=hM.own.ge;have:=hM.own.lt;omega
 go_enter func53,ntmps53;generalize Cr:w.alloc (.cells #[cI cJ 23,cS dst,cS nm,cY (cP aa) nl c1,cY p2 l2 c2,cY p3 l3 c3] 133)=W at*;replace hM:=hM.kp (hb1.mono Df);obtain⟨FB,cap,bm,hT,-⟩:=hM.top hfr hl;have hw0:=AB h0 hb1;replace d0:=AA hw0 d0;replace d1:=AA hw0 d1;replace d2:=AA hw0 d2;have hva:=λv (hT:DX v M FB rest.length cap bm x)=>Cm hT a hka;generalize Yt:Ar x.vars a=ua at*;obtain⟨i0,i1,i2,i3,i4,i5⟩:=hI.c6;have hcv:=λv=>XK ua.2 v hr.1 hr.2;generalize hcn:CU ua.2=cn at*;have Db:Below B w W:=hb1.mono (by omega);go_wp2;refine ALQ (S:=Ah 11 (λv=>AA6 W v) (λv=>Am v B N M k (BP s rest x dst (BA,cn)) j/\Below B W v)) (Ah.start Ac) ?_;(refine Ab.q (λz=>z.s.pass rfl) ?_);(refine Ab.f (λz=>z.s.pass rfl) (λz=>have hI:=z.s.1 (z.o 11);ALS (AA hI i0) (ALS (AA hI i1) (ALS (AA hI i2) (ALS (AA hI i3) (ALS (AA hI i4) (AA hI i5)))))) ?_);iterate 2((refine Ab.q (λz=>z.s.pass rfl) ?_))
 (refine Ab.f (λz=>z.s.pass rfl) (λz=>AA (z.s.1 (z.r 11 9 (by kernel_rfl)<|z.r 9 7 (by kernel_rfl)<|(z.r 7 6 (by kernel_rfl) (z.r 6 5 (by kernel_rfl) (z.o 5))))) i3) ?_);(refine Ab.q (λz=>z.s.pass rfl) ?_);(refine Ab.f (λz=>z.s.pass rfl) (λz=>have hI:=z.s.1 (z.r 11 9 (by kernel_rfl)<|z.r 9 7 (by kernel_rfl)<|(z.o 7));ALS (AA hI d0) (ALS (AA hI d1) (AA hI d2))) ?_);(apply Ab.y rfl;intro L w1 _ _ z hK;go_simp;go_wp2_with((refine(hva _ (hT.kp (z.s.1 (z.r 11 9 (by kernel_rfl)<|z.r 9 7 (by kernel_rfl)<|z.i)))).mono ?_;rintro e w3 ⟨rfl,hb⟩));(try simp only[pE]);exact hK.out _ (Ah.keep (z.r 11 9 (by kernel_rfl)<|z.r 9 7 (by kernel_rfl)<|z.i) (AB (z.s.1 (z.r 11 9 (by kernel_rfl)<|z.r 9 7 (by kernel_rfl)<|z.i)) hb) rfl);rfl);(refine Ab.q (λz=>z.s.pass rfl) ?_);(apply Ab.y rfl;intro L w1 _ _ z hK;go_simp;go_wp2_with((refine(hcv _).mono ?_;rintro e w3 ⟨rfl,rfl⟩));(try simp only[pE]);exact hK.out _ (Ah.keep (z.r 11 9 (by kernel_rfl) z.i) (z.s.1 (z.r 11 9 (by kernel_rfl) z.i)) rfl);rfl);(refine Ab.q (λz=>z.s.pass rfl) ?_);(apply Ab.y rfl;intro L w1 _ _ z hK;go_simp;go_wp2_with((refine(Co (hM.kp ((z.s.1 z.i).mono hM.own.sz)) hfr hl hx 23 dst nm (cP aa) p2 p3 nl l2 l3 c1 c2 c3 (BA,cn)).mono ?_;rintro e w3 ⟨rfl,hm,hb⟩));(try simp only[pE]);exact hK.out _ (Ah.done ⟨hm,(z.s.1 z.i).mono (AX hBN hM.own.sz)|>.trans hb⟩);rfl);refine Ab.nil λw6 H6=>?_;obtain⟨hm,hb⟩:=H6.2 rfl;go_wp2;go_end0;exact⟨rfl,⟨_,hm⟩,Db.trans hb⟩
end
theorem Yh{k:Hd}{j:Int}{i:Is}(h:Qd w0 w B N M k s j rest x i p1 c1){b:Ag}(has:i.as=a::b::r)(hop:i.op=28):Calls prog 53 #[.pointer (cP ⟨M,0,cX⟩),.agg #[cI cJ i.op,cS i.d,cS i.n,cY p1 i.as.length c1,cY p2 l2 c2,cY p3 l3 c3]] w (BI B M k (BP s rest x i.d (BA,if(Ar x.vars a).2=(Ar x.vars b).2 then 1 else 0)) j w):=by
 obtain⟨h0,hA,hM,hfr,hl,hx,hin,hk⟩:=h;obtain⟨pa,ca,hpa,-,-,hA⟩:=hA;have hka:NZ a:=hk a (by rw[has];simp);obtain⟨aa,e1,d0,⟨d1,-⟩,d2⟩:=hA 0 a (by rw[has];rfl);have hkb:NZ b:=hk b (by rw[has];simp);obtain⟨xJ,e2,g0,⟨g1,-⟩,g2⟩:=hA 1 b (by rw[has];rfl);obtain⟨nl,hnl,hn0,hn1⟩:∃nl:Nat,i.as.length=nl/\(0:Int)<nl/\(1:Int)<nl:=⟨i.as.length,rfl,by rw[has];simp;omega,by rw[has];simp;omega⟩;have ZO:0<nl:=by omega
 have hn1':1<nl:=by omega
 rw[hnl]at hpa hin⊢;rw[hop];obtain⟨rfl,rfl⟩:p1=pa/\c1=ca:=by simpa using hpa
 subst e1;obtain rfl:aa=xJ:=by simpa using e2
 replace d0:w0.cell? aa=cP (cI cJ a.k):=d0;replace d1:w0.cell? ⟨aa.block,aa.off+1,cX⟩=cP (cS a.s):=d1;replace g0:w0.cell? ⟨aa.block,aa.off+3,cX⟩=cP (cI cJ b.k):=g0;replace g1:w0.cell? ⟨aa.block,aa.off+3+1,cX⟩=cP (cS b.s):=g1;replace g2:w0.cell? ⟨aa.block,aa.off+3+2,cX⟩=cP (cI cJ b.n):=g2;replace d2:w0.cell? ⟨aa.block,aa.off+2,cX⟩=cP (cI cJ a.n):=d2;generalize i.d=dst at*;generalize i.n=nm at*;obtain⟨hI,hb1⟩:=BR (w:=w) (c1:=[cI cJ 28,cS dst,cS nm,cY (cP aa) nl c1,cY p2 l2 c2,cY p3 l3 c3]) (t1:=133) (AL);have Df:N<=w.heap.size:=hM.own.sz;have hBN:B<=N:=by have:=hM.own.ge;have:=hM.own.lt;omega
 go_enter func53,ntmps53;generalize Cr:w.alloc (.cells #[cI cJ 28,cS dst,cS nm,cY (cP aa) nl c1,cY p2 l2 c2,cY p3 l3 c3] 133)=W at*;replace hM:=hM.kp (hb1.mono Df);obtain⟨FB,cap,bm,hT,-⟩:=hM.top hfr hl;have hw0:=AB h0 hb1;replace d0:=AA hw0 d0;replace d1:=AA hw0 d1;replace d2:=AA hw0 d2;replace g0:=AA hw0 g0;replace g1:=AA hw0 g1;replace g2:=AA hw0 g2;have hva:=λv (hT:DX v M FB rest.length cap bm x)=>Cm hT a hka;have hvb:=λv (hT:DX v M FB rest.length cap bm x)=>Cm hT b hkb;generalize Yt:Ar x.vars a=ua at*;generalize hub:Ar x.vars b=ub at*;have hsm:=λv=>bW ua ub v;generalize hcn:(if ua.2=ub.2 then(1:Int)else 0)=cn at*;obtain⟨i0,i1,i2,i3,i4,i5⟩:=hI.c6;have Db:Below B w W:=hb1.mono (by omega);go_wp2;refine ALQ (S:=Ah 15 (λv=>AA6 W v) (λv=>Am v B N M k (BP s rest x dst (BA,cn)) j/\Below B W v)) (Ah.start Ac) ?_;(refine Ab.q (λz=>z.s.pass rfl) ?_);(refine Ab.f (λz=>z.s.pass rfl) (λz=>have hI:=z.s.1 (z.o 15);ALS (AA hI i0) (ALS (AA hI i1) (ALS (AA hI i2) (ALS (AA hI i3) (ALS (AA hI i4) (AA hI i5)))))) ?_);iterate 2((refine Ab.q (λz=>z.s.pass rfl) ?_))
 (refine Ab.f (λz=>z.s.pass rfl) (λz=>AA (z.s.1 (z.r 15 14 (by kernel_rfl) (z.r 14 7 (by kernel_rfl) (z.r 7 6 (by kernel_rfl) (z.r 6 5 (by kernel_rfl) (z.o 5)))))) i3) ?_);(refine Ab.q (λz=>z.s.pass rfl) ?_);(refine Ab.f (λz=>z.s.pass rfl) (λz=>have hI:=z.s.1 (z.r 15 14 (by kernel_rfl) (z.r 14 7 (by kernel_rfl) (z.o 7)));ALS (AA hI d0) (ALS (AA hI d1) (AA hI d2))) ?_);(apply Ab.y rfl;intro L w1 _ _ z hK;go_simp;go_wp2_with((refine(hva _ (hT.kp (z.s.1 (z.r 15 14 (by kernel_rfl) (z.r 14 7 (by kernel_rfl) z.i))))).mono ?_;rintro e w3 ⟨rfl,hb⟩));(try simp only[pE]);exact hK.out _ (Ah.keep (z.r 15 14 (by kernel_rfl) (z.r 14 7 (by kernel_rfl) z.i)) (AB (z.s.1 (z.r 15 14 (by kernel_rfl) (z.r 14 7 (by kernel_rfl) z.i))) hb) rfl);rfl);iterate 2((refine Ab.q (λz=>z.s.pass rfl) ?_))
 (refine Ab.f (λz=>z.s.pass rfl) (λz=>AA (z.s.1 (z.r 15 14 (by kernel_rfl) (z.r 14 13 (by kernel_rfl) (z.r 13 12 (by kernel_rfl) (z.r 12 11 (by kernel_rfl) (z.o 11)))))) i3) ?_);(refine Ab.q (λz=>z.s.pass rfl) ?_);(refine Ab.f (λz=>z.s.pass rfl) (λz=>have hI:=z.s.1 (z.r 15 14 (by kernel_rfl) (z.r 14 13 (by kernel_rfl) (z.o 13)));ALS (AA hI g0) (ALS (AA hI g1) (AA hI g2))) ?_);(apply Ab.y rfl;intro L w1 _ _ z hK;go_simp;go_wp2_with((refine(hvb _ (hT.kp (z.s.1 (z.r 15 14 (by kernel_rfl) (z.r 14 13 (by kernel_rfl) z.i))))).mono ?_;rintro e w3 ⟨rfl,hb⟩));(try simp only[pE]);exact hK.out _ (Ah.keep (z.r 15 14 (by kernel_rfl) (z.r 14 13 (by kernel_rfl) z.i)) (AB (z.s.1 (z.r 15 14 (by kernel_rfl) (z.r 14 13 (by kernel_rfl) z.i))) hb) rfl);rfl);(apply Ab.y rfl;intro L w1 _ _ z hK;go_simp;go_wp2_with((refine(hsm _).mono ?_;rintro e w3 ⟨rfl,hb⟩));(try simp only[pE]);exact hK.out _ (Ah.keep (z.r 15 14 (by kernel_rfl) z.i) (AB (z.s.1 (z.r 15 14 (by kernel_rfl) z.i)) hb) rfl);rfl);(apply Ab.y rfl;intro L w1 _ _ z hK;go_simp;go_wp2_with((refine(Co (hM.kp ((z.s.1 z.i).mono hM.own.sz)) hfr hl hx 28 dst nm (cP aa) p2 p3 nl l2 l3 c1 c2 c3 (BA,cn)).mono ?_;rintro e w3 ⟨rfl,hm,hb⟩));(try simp only[pE]);exact hK.out _ (Ah.done ⟨hm,(z.s.1 z.i).mono (AX hBN hM.own.sz)|>.trans hb⟩);rfl);refine Ab.nil λw6 H6=>?_;obtain⟨hm,hb⟩:=H6.2 rfl;go_wp2;go_end0;exact⟨rfl,⟨_,hm⟩,Db.trans hb⟩
theorem jh{P:World->Prop}(hc:Calls prog 78 #[.pointer (cP ⟨M,0,cX⟩),.agg #[cI cJ 25,cS d,cS n,cY p1 l1 c1,cY p2 l2 c2,cY p3 l3 c3]] (w.alloc (.cells #[cI cJ 25,cS d,cS n,cY p1 l1 c1,cY p2 l2 c2,cY p3 l3 c3] 133)) λe w'=>e=.returned (.tuple #[])/\P w'):Calls prog 53 #[.pointer (cP ⟨M,0,cX⟩),.agg #[cI cJ 25,cS d,cS n,cY p1 l1 c1,cY p2 l2 c2,cY p3 l3 c3]] w λe w'=>e=.returned (.tuple #[])/\P w':=by
 go_enter func53,ntmps53;go_wp2_with fail;refine hc.mono ?_;rintro e w2 ⟨rfl,hP⟩;clear hc;go_wp2;go_end0;exact⟨rfl,hP⟩
theorem Vb{P:World->Prop}(hc:Calls prog 79 #[.pointer (cP ⟨M,0,cX⟩),.agg #[cI cJ 26,cS d,cS n,cY p1 l1 c1,cY p2 l2 c2,cY p3 l3 c3]] (w.alloc (.cells #[cI cJ 26,cS d,cS n,cY p1 l1 c1,cY p2 l2 c2,cY p3 l3 c3] 133)) λe w'=>e=.returned (.tuple #[])/\P w'):Calls prog 53 #[.pointer (cP ⟨M,0,cX⟩),.agg #[cI cJ 26,cS d,cS n,cY p1 l1 c1,cY p2 l2 c2,cY p3 l3 c3]] w λe w'=>e=.returned (.tuple #[])/\P w':=by
 go_enter func53,ntmps53;go_wp2_with fail;refine hc.mono ?_;rintro e w2 ⟨rfl,hP⟩;clear hc;go_wp2;go_end0;exact⟨rfl,hP⟩
theorem RS{P:World->Prop}(hc:Calls prog 79 #[.pointer (cP ⟨M,0,cX⟩),.agg #[cI cJ 27,cS d,cS n,cY p1 l1 c1,cY p2 l2 c2,cY p3 l3 c3]] (w.alloc (.cells #[cI cJ 27,cS d,cS n,cY p1 l1 c1,cY p2 l2 c2,cY p3 l3 c3] 133)) λe w'=>e=.returned (.tuple #[])/\P w'):Calls prog 53 #[.pointer (cP ⟨M,0,cX⟩),.agg #[cI cJ 27,cS d,cS n,cY p1 l1 c1,cY p2 l2 c2,cY p3 l3 c3]] w λe w'=>e=.returned (.tuple #[])/\P w':=by
 go_enter func53,ntmps53;go_wp2_with fail;refine hc.mono ?_;rintro e w2 ⟨rfl,hP⟩;clear hc;go_wp2;go_end0;exact⟨rfl,hP⟩
theorem AB1{P:World->Prop}(hc:Calls prog 81 #[.pointer (cP ⟨M,0,cX⟩),.agg #[cI cJ 29,cS d,cS n,cY p1 l1 c1,cY p2 l2 c2,cY p3 l3 c3]] (w.alloc (.cells #[cI cJ 29,cS d,cS n,cY p1 l1 c1,cY p2 l2 c2,cY p3 l3 c3] 133)) λe w'=>e=.returned (.tuple #[])/\P w'):Calls prog 53 #[.pointer (cP ⟨M,0,cX⟩),.agg #[cI cJ 29,cS d,cS n,cY p1 l1 c1,cY p2 l2 c2,cY p3 l3 c3]] w λe w'=>e=.returned (.tuple #[])/\P w':=by
 go_enter func53,ntmps53;go_wp2_with fail;refine hc.mono ?_;rintro e w2 ⟨rfl,hP⟩;clear hc;go_wp2;go_end0;exact⟨rfl,hP⟩
theorem XM{P:World->Prop}(hc:Calls prog 81 #[.pointer (cP ⟨M,0,cX⟩),.agg #[cI cJ 30,cS d,cS n,cY p1 l1 c1,cY p2 l2 c2,cY p3 l3 c3]] (w.alloc (.cells #[cI cJ 30,cS d,cS n,cY p1 l1 c1,cY p2 l2 c2,cY p3 l3 c3] 133)) λe w'=>e=.returned (.tuple #[])/\P w'):Calls prog 53 #[.pointer (cP ⟨M,0,cX⟩),.agg #[cI cJ 30,cS d,cS n,cY p1 l1 c1,cY p2 l2 c2,cY p3 l3 c3]] w λe w'=>e=.returned (.tuple #[])/\P w':=by
 go_enter func53,ntmps53;go_wp2_with fail;refine hc.mono ?_;rintro e w2 ⟨rfl,hP⟩;clear hc;go_wp2;go_end0;exact⟨rfl,hP⟩
theorem ji{P:World->Prop}(hc:Calls prog 82 #[.pointer (cP ⟨M,0,cX⟩),.agg #[cI cJ 31,cS d,cS n,cY p1 l1 c1,cY p2 l2 c2,cY p3 l3 c3]] (w.alloc (.cells #[cI cJ 31,cS d,cS n,cY p1 l1 c1,cY p2 l2 c2,cY p3 l3 c3] 133)) λe w'=>e=.returned (.tuple #[])/\P w'):Calls prog 53 #[.pointer (cP ⟨M,0,cX⟩),.agg #[cI cJ 31,cS d,cS n,cY p1 l1 c1,cY p2 l2 c2,cY p3 l3 c3]] w λe w'=>e=.returned (.tuple #[])/\P w':=by
 go_enter func53,ntmps53;go_wp2_with fail;refine hc.mono ?_;rintro e w2 ⟨rfl,hP⟩;clear hc;go_wp2;go_end0;exact⟨rfl,hP⟩
theorem rX{P:World->Prop}(hc:Calls prog 83 #[.pointer (cP ⟨M,0,cX⟩),.agg #[cI cJ 32,cS d,cS n,cY p1 l1 c1,cY p2 l2 c2,cY p3 l3 c3]] (w.alloc (.cells #[cI cJ 32,cS d,cS n,cY p1 l1 c1,cY p2 l2 c2,cY p3 l3 c3] 133)) λe w'=>e=.returned (.tuple #[])/\P w'):Calls prog 53 #[.pointer (cP ⟨M,0,cX⟩),.agg #[cI cJ 32,cS d,cS n,cY p1 l1 c1,cY p2 l2 c2,cY p3 l3 c3]] w λe w'=>e=.returned (.tuple #[])/\P w':=by
 go_enter func53,ntmps53;go_wp2_with fail;refine hc.mono ?_;rintro e w2 ⟨rfl,hP⟩;clear hc;go_wp2;go_end0;exact⟨rfl,hP⟩
theorem AB0{P:World->Prop}(hc:Calls prog 85 #[.pointer (cP ⟨M,0,cX⟩),.agg #[cI cJ 34,cS d,cS n,cY p1 l1 c1,cY p2 l2 c2,cY p3 l3 c3]] (w.alloc (.cells #[cI cJ 34,cS d,cS n,cY p1 l1 c1,cY p2 l2 c2,cY p3 l3 c3] 133)) λe w'=>e=.returned (.tuple #[])/\P w'):Calls prog 53 #[.pointer (cP ⟨M,0,cX⟩),.agg #[cI cJ 34,cS d,cS n,cY p1 l1 c1,cY p2 l2 c2,cY p3 l3 c3]] w λe w'=>e=.returned (.tuple #[])/\P w':=by
 go_enter func53,ntmps53;go_wp2_with fail;refine hc.mono ?_;rintro e w2 ⟨rfl,hP⟩;clear hc;go_wp2;go_end0;exact⟨rfl,hP⟩
theorem XL{op:Int}(hop:1<=op/\op<=21){P:World->Prop}(hc:Calls prog 86 #[.pointer (cP ⟨M,0,cX⟩),.agg #[cI cJ op,cS d,cS n,cY p1 l1 c1,cY p2 l2 c2,cY p3 l3 c3]] (w.alloc (.cells #[cI cJ op,cS d,cS n,cY p1 l1 c1,cY p2 l2 c2,cY p3 l3 c3] 133)) λe w'=>e=.returned (.tuple #[])/\P w'):Calls prog 53 #[.pointer (cP ⟨M,0,cX⟩),.agg #[cI cJ op,cS d,cS n,cY p1 l1 c1,cY p2 l2 c2,cY p3 l3 c3]] w λe w'=>e=.returned (.tuple #[])/\P w':=by
 have no:∀k:Int,22<=k->(op==k)=cA:=λk hk=>by simp;omega
 have n22:=no 22 (by decide);have n23:=no 23 (by decide);have n24:=no 24 (by decide);have n25:=no 25 (by decide);have n26:=no 26 (by decide);have n27:=no 27 (by decide);have n28:=no 28 (by decide);have n29:=no 29 (by decide);have n30:=no 30 (by decide);have n31:=no 31 (by decide);have n32:=no 32 (by decide);have n33:=no 33 (by decide);have n34:=no 34 (by decide);go_enter func53,ntmps53;go_wp2_with fail;refine hc.mono ?_;rintro e w2 ⟨rfl,hP⟩;go_wp2;go_end0;exact⟨rfl,hP⟩
theorem Am.cut{k:Hd}{j:Int}(h:Am w B N M k s j)(hfr:s.frames=rest++[x]):∃FB cap,w.cell? ⟨M,9,cX⟩=cP (cY (cP ⟨FB,0,cX⟩) (rest.length+1) cap)/\rest.length+1<=cap/\Am (w.setCell ⟨M,9,cX⟩ (cY (cP ⟨FB,0,cX⟩) rest.length cap)) B N M k {s with frames:=rest} j:=by
 have hSt:Eh s=.agg ([dN s.status,C9 s.result,dN s.code]++ .row 84 4 (rest.map Kw++[Kw x])::[.row 119 2 (s.heap.map Ld),.row 34 2 (s.globals.map C9),
   .row 59 4 (s.trace.map Qc),.row 2 1 (s.marks.map dN),dN s.allocs,dN s.steps,dN s.guards,dN s.asked]):=by
  unfold Eh;rw[hfr];simp
 have s0:=h.st;rw[hSt]at s0;have s1:=s0.agg;obtain⟨FB,cap,c9,hcap,ho⟩:=s1.cut;rw[List.length_map]at c9 hcap ho;refine⟨FB,cap,?_,hcap,?_⟩
 ·simpa[Dt.DF,Dt.wd,dN,C9,dS]using c9
 ·have:=h.of (v:=cY (cP ⟨FB,0,cX⟩) rest.length cap) (a:=⟨M,9,cX⟩) (s':={s with frames:=rest}) (j':=j) (by simpa[Dt.DF,Dt.wd,dN,C9,dS]using ho) (by unfold dM Eh;simp[dN,C9,dS]);exact this
def Ej(i j:Nat)(w0 w1 w2:World)(L:Nat->Bool)(v:World):Prop:=v=if L j=cC then w2 else if L i=cC then w1 else w0
def Ej.start:Ej i j w0 w1 w2 (λ_=>cA) w0:=rfl
def Ej.keep(h:Ej i j w0 w1 w2 L v){m:Nat}(h1:(i==m)=cA)(h2:(j==m)=cA):Ej i j w0 w1 w2 (upd L m) v:=by simp_all[Ej,upd]
theorem Ej.s0(h:Ej i j w0 w1 w2 L v)(h1:L i=cA)(h2:L j=cA):v=w0:=by grind [Ej]
theorem Ej.s1(h:Ej i j w0 w1 w2 L v)(h1:L i=cC)(h2:L j=cA):v=w1:=by grind [Ej]
theorem Ej.s2(h:Ej i j w0 w1 w2 L v)(h2:L j=cC):v=w2:=by grind [Ej]
theorem Ej.low(h:Ej i j w0 w1 w2 L v)(h2:L j=cA){X:World->Prop}(x0:X w0)(x1:X w1):X v:=by grind [Ej]
theorem Ej.t1(h1:(j==i)=cA)(h2:L j=cA):Ej i j w0 w1 w2 (upd L i) w1:=by simp_all[Ej,upd]
theorem Ej.t2:Ej i j w0 w1 w2 (upd L j) w2:=by simp[Ej,upd]
theorem eZ{k:Hd}{j:Int}(hM:Am w B N M k s j)(hfr:s.frames=[]++[x])(v:Vu):Calls prog 88 #[.pointer (cP ⟨M,0,cX⟩),Kn v] w (BI B M k {s with frames:=[],status:=1,result:=v} j w):=by
 obtain⟨hV,hb1⟩:=BR (w:=w) (c1:=[cS v.1,cI cJ v.2]) (t1:=34) (AL);have Df:N<=w.heap.size:=hM.own.sz;have hBN:B<=N:=by have:=hM.own.ge;have:=hM.own.lt;omega
 go_enter func88,ntmps88;generalize Cr:w.alloc (.cells #[cS v.1,cI cJ v.2] 34)=W at*;replace hM:=hM.kp (hb1.mono Df);have Db:Below B w W:=hb1.mono (by omega);have pW:=hM.kp (Al (w:=W) 1|>.mono hM.own.sz);obtain⟨FB,cap,c9,hcap,hM2⟩:=pW.cut hfr;have fz:=pW.Bw 9;change W.drew.cell? _=_ at c9;change W.drew.frozen? _=_ at fz;change Am (W.drew.setCell _ _) _ _ _ _ _ _ at hM2;go_wp2;refine ALQ (S:=Ah 17 (λv=>v=W.drew) (λv=>v=W.drew.setCell ⟨M,9,cX⟩ (cY (cP ⟨FB,0,cX⟩) 0 cap))) (Ah.start rfl) ?_;iterate 17(first|(refine Ab.q (λz=>z.s.pass rfl) ?_)|(apply Ab.z rfl;intro L w1 _ _ _ z hK;(obtain rfl:=(z.s.1 (z.o 17)));go_simp;exact hK (z.s.pass rfl);rfl))
 (refine Ab.step (a1:=?_) rfl (λL w1 K' Q' hS hi hR hd hK=>?_) ?_ ?_;rotate_left)
 ·obtain rfl:=hS.1 hi;go_simp;exact hK.out _ (Ah.done rfl)
 ·rfl
 refine Ab.nil λw3 WQ=>?_;have hw3:=WQ.2 rfl;have GX:Ae w3 w.heap.size [cS v.1,cI cJ v.2]:=by
  rw[hw3];refine hV.drew.far (q:=⟨M,9,cX⟩) ?_ _;have:=hM.own.lt;dsimp only;omega
 have hb3:Below B W w3:=by
  rw[hw3];exact Ac.setCell (p:=⟨M,9,cX⟩) hM.own.ge _
 rw[List.length_nil,<-hw3]at hM2;have c93:w3.cell? ⟨M,9,cX⟩=cP (cY (cP ⟨FB,0,cX⟩) 0 cap):=by
  rw[hw3];exact World.cell?_setCell_same _ _ _ c9
 have hlt:=hM.own.lt;have hMv:M≠w.heap.size:=by omega
 replace Db:=Db.trans hb3;clear WQ hw3 hV hb1 hM pW Cr c9 fz hb3;go_wp2;have hA:=hM2.kp (Al (w:=w3) 1|>.mono hM2.own.sz);have hA1:=hA.ER 1;have hA2:=hA1.UW v;have hbl:=((Below.refl B w3).drew.setCell (p:=⟨M,5,cX⟩) hA.own.ge (cI cJ 1)).setCell (p:=⟨M,6,cX⟩) hA.own.ge (cS v.1)|>.setCell (p:=⟨M,7,cX⟩) hA.own.ge (cI cJ v.2);obtain⟨n5,-⟩:=hA.ns;obtain⟨q5,q6,q7,-⟩:=hM2.ns;have g5:=hM2.Bw 5;have g6:=hM2.Bw 6;have g7:=hM2.Bw 7;obtain⟨-,m6,m7,-⟩:=hA1.ns;have vW:=hA.Bw 5;have fz6:=hA1.Bw 6;have fz7:=hA1.Bw 7;obtain⟨v0,v1⟩:=(GX.drew).c2;obtain⟨v0',v1'⟩:=((GX.drew).far (q:=⟨M,5,cX⟩) hMv (cI cJ 1)).c2;change (w3.drew).cell? _=_ at n5;change (w3.drew).frozen? _=_ at vW;change (w3.drew.setCell _ _).cell? _=_ at m6 m7;change (w3.drew.setCell _ _).frozen? _=_ at fz6 fz7;refine ALQ (S:=Ej 6 10 w3.drew (w3.drew.setCell ⟨M,5,cX⟩ (cI cJ 1)) (((w3.drew.setCell ⟨M,5,cX⟩ (cI cJ 1)).setCell ⟨M,6,cX⟩ (cS v.1)).setCell ⟨M,7,cX⟩ (cI cJ v.2))) Ej.start ?_;iterate 2((refine Ab.q (λz=>z.s.keep rfl rfl) ?_))
 (refine Ab.f (λz=>z.s.keep rfl rfl) (λz=>ALS (z.s.low (z.o 10) (X:=λu=>u.cell? ⟨w.heap.size,0,cX⟩=cP (cS v.1)) v0 v0') (z.s.low (z.o 10) (X:=λu=>u.cell? ⟨w.heap.size,1,cX⟩=cP (cI cJ v.2)) v1 v1')) ?_);iterate 3((refine Ab.q (λz=>z.s.keep rfl rfl) ?_))
 (refine Ab.step (a1:=?_) rfl (λL w1 K' Q' hS hi hR hd hK=>?_) ?_ ?_;rotate_left)
 ·have h10:=hR.out 10 6 (by kernel_rfl) hi;obtain rfl:=hS.s0 hi h10;go_simp;exact hK.out _ (Ej.t1 rfl h10)
 ·rfl
 iterate 3((refine Ab.q (λz=>z.s.keep rfl rfl) ?_))
 (refine Ab.step (a1:=?_) rfl (λL w1 K' Q' hS hi hR hd hK=>?_) ?_ ?_;rotate_left)
 ·have h6:=hd.out 6 (by kernel_rfl);obtain rfl:=hS.s1 h6 hi;go_simp;exact hK.out _ Ej.t2
 ·rfl
 refine Ab.nil λw4 Bb=>?_;have hw4:=Bb.s2 rfl;have AEF:Below B w3 w4:=by rw[hw4];exact hbl
 have hA3:Am w4 B N M k {s with frames:=[],status:=1,result:=v} j:=by rw[hw4];exact hA2
 clear Bb hw4 hbl q5 q6 q7 g5 g6 g7 hA hA1 hA2 n5 m6 m7 vW fz6 fz7 v0 v1 v0' v1' GX hM2 c93;go_wp2;go_end0;exact⟨rfl,⟨_,hA3⟩,Db.trans AEF⟩
theorem fK{k:Hd}{j:Int}(hM:Am w B N M k s j)(fn fr:ByteArray)(p1 p2 p3 p4:Option Addr)(l1 c1 l2 c2 l3 c3 l4 c4:Nat)(tk ak:Int)(ar:ByteArray)(an n:Int)(hk:tk=4):Calls prog 54 #[.pointer (cP ⟨M,0,cX⟩),.agg #[cS fn,cS fr,cY p1 l1 c1,cY p2 l2 c2,cY p3 l3 c3],.agg #[cI cJ tk,cI cJ ak,cS ar,cI cJ an,cY p4 l4 c4,cI cJ n]] w (BI B M k (Gd s n) j w):=by
 subst hk;obtain⟨hF,hT,hb2⟩:=Ch (w:=w) (c1:=[cS fn,cS fr,cY p1 l1 c1,cY p2 l2 c2,cY p3 l3 c3]) (c2:=[cI cJ 4,cI cJ ak,cS ar,cI cJ an,cY p4 l4 c4,cI cJ n]) (t1:=66) (t2:=80) (AL);have Df:N<=w.heap.size:=hM.own.sz;have hBN:B<=N:=by have:=hM.own.ge;have:=hM.own.lt;omega
 have Db:=hb2.mono (AX hBN Df);have htr:=Mg (hM.kp (hb2.mono Df)) n;go_enter func54,ntmps54;go_wp2_with fail;refine htr.mono ?_;rintro e w2 ⟨rfl,hm,hb⟩;go_wp2;go_end0;exact⟨rfl,⟨_,hm⟩,Db.trans hb⟩
theorem l6{k:Hd}{j:Int}(hM:Am w B N M k s j)(hfr:s.frames=rest++[x])(hl:rest.length+1<=140737488351232)(fn fr:ByteArray)(p1 p2 p3 p4:Option Addr)(l1 c1 l2 c2 l3 c3 l4 c4:Nat)(tk n:Int)(a:Ag)(hka:NZ a)(hk:tk=3)(hg:∀v,AA6 w v->Calls prog 88 #[.pointer (cP ⟨M,0,cX⟩),Kn (Ar x.vars a)] v (BI B M k t j v)):Calls prog 54 #[.pointer (cP ⟨M,0,cX⟩),.agg #[cS fn,cS fr,cY p1 l1 c1,cY p2 l2 c2,cY p3 l3 c3],.agg #[cI cJ tk,cI cJ a.k,cS a.s,cI cJ a.n,cY p4 l4 c4,cI cJ n]] w (BI B M k t j w):=by
 subst hk;obtain⟨hF,hT,hb2⟩:=Ch (w:=w) (c1:=[cS fn,cS fr,cY p1 l1 c1,cY p2 l2 c2,cY p3 l3 c3]) (c2:=[cI cJ 3,cI cJ a.k,cS a.s,cI cJ a.n,cY p4 l4 c4,cI cJ n]) (t1:=66) (t2:=80) (AL);have Df:N<=w.heap.size:=hM.own.sz;have hBN:B<=N:=by have:=hM.own.ge;have:=hM.own.lt;omega
 have hBw:=AX hBN Df;have hM2:=hM.kp (hb2.mono Df);obtain⟨FB,cap,bm,hTp,-⟩:=hM2.top hfr hl;have hva:=Cm hTp a hka;generalize Yt:Ar x.vars a=ua at*;go_enter func54,ntmps54;go_wp2_with fail;refine hva.mono ?_;rintro e w2 ⟨rfl,hb⟩;have hb3:=AB hb2 hb;have hg2:=hg w2 hb3;go_wp2_with fail;refine hg2.mono ?_;rintro e w3 ⟨rfl,hm,hb4⟩;go_wp2;go_end0;exact⟨rfl,hm,(hb3.mono hBw).trans hb4⟩
theorem Am.way{k:Hd}{j:Int}(h:Am w B N M k s j)(hfr:s.frames=rest++[x]){FB cap b:Nat}(hT:DX w M FB rest.length cap b x)(y:ByteArray):B<=FB/\(w.setCell ⟨FB,rest.length*4+1,cX⟩ (cS y)).cell? ⟨FB,rest.length*4+2,cX⟩=cP (cI cJ x.i)/\Am ((w.setCell ⟨FB,rest.length*4+1,cX⟩ (cS y)).setCell ⟨FB,rest.length*4+2,cX⟩ (cI cJ 0)) B N M k {s with frames:=rest++[⟨x.f,y,0,x.vars⟩]} j:=by
 obtain⟨a1,a2,a3,a3',a4,a5,a6⟩:=h.upd hfr hT;have h1:=a5 y;obtain⟨TY,cap',b2,hT',-,-,-,-,hi,-,-⟩:=h1.top rfl hT.l;have z:=(Jp hT.bl hT'.sl).symm.trans hT.sl;grind [Jp,cases Hd,cases St,cases Am,cases Lv,cases DX]
theorem bI{k:Hd}{j:Int}(hM:Am w B N M k s j)(hfr:s.frames=rest++[x])(hl:rest.length+1<=140737488351232)(h0:AA6 w0 w){f1 f2 f3:Value}(hvf:EL w0 (.agg #[cS f.n,cS f.r,f1,f2,f3]) f f1 f2 f3)  {p0:Option Addr} {c0:Nat} {b2 b3:Value} {q:Nat} {a:Addr} (sb:jS w0 f3 f.bs y b (cY p0 0 c0) b2 b3 q a):Calls prog 87 #[.pointer (cP ⟨M,0,cX⟩),.agg #[cS f.n,cS f.r,f1,f2,f3],cS y] w (BI B M k {s with frames:=rest++[⟨x.f,y,0,x.vars⟩]} j w):=by
 have hP:=λv (hw:AA6 w0 v)=>Og hw hvf y;rw[sb.ix]at hP;obtain⟨-,hlt,hn,⟨cb,rfl⟩,-,-,d1,-⟩:=sb;obtain⟨NY,Nb,rfl⟩:=hvf.p.slice;obtain⟨NW,Na,rfl⟩:=hvf.v.slice;generalize f.ps.length=Y3 at*;generalize f.vs.length=Y2 at*;generalize f.bs.length=nb at*;generalize f.n=fn at*;generalize f.r=fr at*;obtain⟨hF,hb1⟩:=BR (w:=w) (c1:=[cS fn,cS fr,cY NY Y3 Nb,cY NW Y2 Na,cY (cP a) nb cb]) (t1:=66) (AL);have Df:N<=w.heap.size:=hM.own.sz;have hBN:B<=N:=by have:=hM.own.ge;have:=hM.own.lt;omega
 go_enter func87,ntmps87;generalize Cr:w.alloc (.cells #[cS fn,cS fr,cY NY Y3 Nb,cY NW Y2 Na,cY (cP a) nb cb] 66)=W at*;replace hM:=hM.kp (hb1.mono Df);obtain⟨FB,cap,bm,hT,-⟩:=hM.top hfr hl;go_wp2_with fail;refine(He hT.sl hT.l).mono ?_;rintro e w2 ⟨rfl,qq,rfl⟩;have hq:=Al (w:=W) qq;generalize W.drewN qq=W2 at*;replace hM:=hM.kp (hq.mono hM.own.sz);replace hT:=hT.kp hq;replace hF:=hF.nx hq;obtain⟨g0,g1,g2,g3,g4⟩:=hF.c5;have hb2:=hb1.trans (hq.mono hb1.size);go_wp2_with fail;refine(hP _ (AB h0 hb2)).mono ?_;rintro e w3 ⟨hb3,rfl⟩;have gN:=AB (AB h0 hb2) hb3;replace hM:=hM.kp (hb3.mono hM.own.sz);replace hT:=hT.kp hb3;have i4:=AA hb3 g4;replace d1:=AA gN d1;have t3:=hT.v;have t1:=hT.bl;have t2:=hT.i;have tz:=hT.z;have nA:(q:Int)<nb:=by omega
 obtain⟨hBF,t2',hM2⟩:=hM.way hfr hT y;have Db:Below B w w3:=(hb2.trans (hb3.mono hb2.size)).mono (by omega);have hb5:=(Db.setCell (p:=⟨FB,rest.length*4+1,cX⟩) hBF (cS y)).setCell (p:=⟨FB,rest.length*4+2,cX⟩) hBF (cI cJ 0);go_wp2;go_loopw[46] (λi wr=>i=cI cJ 0/\wr=w3) (λ_ _=>0);exact⟨rfl,rfl⟩;obtain⟨rfl,rfl⟩:=hrel;go_wp2;go_end0;exact⟨rfl,⟨_,hM2⟩,hb5⟩
theorem fM(h0:AA6 w0 w){k:Hd}{j:Int}(hM:Am w B N M k s j)(fn fr:ByteArray)(p1 p2 p3:Option Addr)(t0:Addr)(l1 c1 l2 c2 l3 c3 l4 c4:Nat)(tk ak:Int)(ar:ByteArray)(an n:Int)(hk:tk=1)(hl4:0<l4)(hc:w0.cell? t0=cP (cS y))(hg:∀v,AA6 w v->Calls prog 87 #[.pointer (cP ⟨M,0,cX⟩),.agg #[cS fn,cS fr,cY p1 l1 c1,cY p2 l2 c2,cY p3 l3 c3],cS y] v (BI B M k t j v)):Calls prog 54 #[.pointer (cP ⟨M,0,cX⟩),.agg #[cS fn,cS fr,cY p1 l1 c1,cY p2 l2 c2,cY p3 l3 c3],.agg #[cI cJ tk,cI cJ ak,cS ar,cI cJ an,cY (cP t0) l4 c4,cI cJ n]] w (BI B M k t j w):=by
 subst hk;obtain⟨hF,hT,hb2⟩:=Ch (w:=w) (c1:=[cS fn,cS fr,cY p1 l1 c1,cY p2 l2 c2,cY p3 l3 c3]) (c2:=[cI cJ 1,cI cJ ak,cS ar,cI cJ an,cY (cP t0) l4 c4,cI cJ n]) (t1:=66) (t2:=80) (AL);have Df:N<=w.heap.size:=hM.own.sz;have hBN:B<=N:=by have:=hM.own.ge;have:=hM.own.lt;omega
 have hBw:=AX hBN Df;have iI:(0:Int)<l4:=by omega
 replace hc:=AA (AB h0 hb2) hc;go_enter func54,ntmps54;generalize Cr:World.alloc _ _=W at*;obtain⟨f0,f1,f2,f3,f4⟩:=hF.c5;obtain⟨e0,-,-,-,e4⟩:=hT.c5;go_wp2;refine ALQ (S:=Ah 6 (λv=>AA6 W v) (λv=>(∃N',Am v B N' M k t j)/\Below B w v)) (Ah.start Ac) ?_;(refine Ab.q (λz=>z.s.pass rfl) ?_);(refine Ab.f (λz=>z.s.pass rfl) (λz=>have hI:=z.s.1 (z.o 6);ALS (AA hI f0) (ALS (AA hI f1) (ALS (AA hI f2) (ALS (AA hI f3) (AA hI f4))))) ?_);(refine Ab.q (λz=>z.s.pass rfl) ?_);(refine Ab.f (λz=>z.s.pass rfl) (λz=>AA (z.s.1 (z.r 6 5 (by kernel_rfl) (z.r 5 4 (by kernel_rfl) (z.o 4)))) e4) ?_);(refine Ab.q (λz=>z.s.pass rfl) ?_);(refine Ab.f (λz=>z.s.pass rfl) (λz=>AA (z.s.1 (z.o 6)) hc) ?_);(apply Ab.y rfl;intro L w1 _ _ z hK;go_simp;go_wp2_with((refine(hg _ (hb2.trans ((z.s.1 z.i).mono hb2.size))).mono ?_;rintro e w3 ⟨rfl,hm,hb⟩));(try simp only[pE]);exact hK.out _ (Ah.done ⟨hm,((hb2.trans ((z.s.1 z.i).mono hb2.size)).mono hBw).trans hb⟩);rfl);refine Ab.nil λw6 H6=>?_;obtain⟨hm,hb⟩:=H6.2 rfl;go_wp2;go_end0;exact⟨rfl,hm,hb⟩
def U7(h0:AA6 w0 w){k:Hd}{j:Int}(hM:Am w B N M k s j)(hfr:s.frames=rest++[x])(hl:rest.length+1<=140737488351232)(fn fr:ByteArray)(p1 p2 p3:Option Addr)(t0:Addr)(l1 c1 l2 c2 l3 c3 l4 c4:Nat)(tk n:Int)(a:Ag)(hka:NZ a)(hk:tk=2){y0 y1:ByteArray} (hl4:1<l4) (hc:w0.cell? t0=cP (cS y0)) (hc1:w0.cell? ⟨t0.block,t0.off+1,cX⟩=cP (cS y1)) (hg:∀v,AA6 w v->Calls prog 87 #[.pointer (cP ⟨M,0,cX⟩),.agg #[cS fn,cS fr,cY p1 l1 c1,cY p2 l2 c2,cY p3 l3 c3],cS (if(Ar x.vars a).2=0 then y1 else y0)] v (BI B M k t j v)):Calls prog 54 #[.pointer (cP ⟨M,0,cX⟩),.agg #[cS fn,cS fr,cY p1 l1 c1,cY p2 l2 c2,cY p3 l3 c3],.agg #[cI cJ tk,cI cJ a.k,cS a.s,cI cJ a.n,cY (cP t0) l4 c4,cI cJ n]] w (BI B M k t j w):=by
 subst hk;obtain⟨hF,hT,hb2⟩:=Ch (w:=w) (c1:=[cS fn,cS fr,cY p1 l1 c1,cY p2 l2 c2,cY p3 l3 c3]) (c2:=[cI cJ 2,cI cJ a.k,cS a.s,cI cJ a.n,cY (cP t0) l4 c4,cI cJ n]) (t1:=66) (t2:=80) (AL);have Df:N<=w.heap.size:=hM.own.sz;have hBN:B<=N:=by have:=hM.own.ge;have:=hM.own.lt;omega
 have hBw:=AX hBN Df;have iI:(1:Int)<l4:=by omega
 have AJe:(0:Int)<l4:=by omega
 have hl0:0<l4:=by omega
 have h02:=AB h0 hb2;replace hc:=AA h02 hc;replace hc1:=AA h02 hc1;have hM2:=hM.kp (hb2.mono Df);obtain⟨FB,cap,bm,hTp,-⟩:=hM2.top hfr hl;have hva:=Cm hTp a hka;generalize Yt:Ar x.vars a=ua at*;go_enter func54,ntmps54;generalize Cr:World.alloc _ _=W at*;obtain⟨f0,f1,f2,f3,f4⟩:=hF.c5;obtain⟨e0,e1,e2,e3,e4⟩:=hT.c5;go_wp2_with fail;refine hva.mono ?_;rintro e w3 ⟨he,hb⟩;obtain⟨ut,un⟩:=ua;replace he:e=.returned (.agg #[cS ut,cI cJ un]):=he;subst he;dsimp only at hg;have FJ:∀w,(Instr.field 34 (.agg #[cS ut,cI cJ un]) 1).run prog w=.ok (cI cJ un) w:=λw=>by first|rfl|(go_simp;done)|(unfold Instr.field;go_simp;done)
 replace f0:=AA hb f0;replace f1:=AA hb f1;replace f2:=AA hb f2;replace f3:=AA hb f3;replace f4:=AA hb f4;replace e4:=AA hb e4;replace hc1:=AA hb hc1;have hb3:=AB hb2 hb;have hg2:=hg _ hb3;by_cases hz:un=0
 ·rw[if_pos hz]at hg2;have hzb:(un==0)=cC:=by simpa using hz
  clear hz;go_wp2_with fail;refine hg2.mono ?_;rintro e w4 ⟨rfl,hm,hb4⟩;go_wp2;go_end0;exact⟨rfl,hm,(hb3.mono hBw).trans hb4⟩
 ·rw[if_neg hz]at hg2;have hzb:(un==0)=cA:=by simpa using hz
  clear hz;go_wp2_with fail;refine hg2.mono ?_;rintro e w4 ⟨rfl,hm,hb4⟩;go_wp2;go_end0;exact⟨rfl,hm,(hb3.mono hBw).trans hb4⟩
theorem WZ.parts{a:Addr}{x:Is}(h:WZ w a x):∃p1 c1 p2 l2 c2 p3 l3 c3,w.cell? a=cP (cI cJ x.op)/\At w a 1 (cS x.d)/\At w a 2 (cS x.n)/\At w a 3 (cY p1 x.as.length c1)/\At w a 4 (cY p2 l2 c2)/\At w a 5 (cY p3 l3 c3)/\Row Lg 3 w (cY p1 x.as.length c1) x.as:=by grind [WZ,Row,Lg,cases Is]
theorem YU(h0:AA6 w0 w)(hB0:w0.heap.size<=B){k:Hd}{j:Int}(hM:Am w B N M k s j){y:Lv}(hfr:s.frames=(rest++[y])++[x])(hl:(rest++[y]).length+1<=1000000)(hy:y.i<=1000000)(v:Vu){p:Pg}   {f1 f2 f3 b1 b2 b3:Value} {q:Nat} {a:Addr} (hh:Here w0 p k y f b f1 f2 f3 b1 b2 b3 q a) {i:Is} (hin:b.cs[y.i]? =cP i):Calls prog 88 #[.pointer (cP ⟨M,0,cX⟩),Kn v] w (BI B M k (BP s rest y i.d v) j w):=by
 obtain⟨hV,hb1⟩:=BR (w:=w) (c1:=[cS v.1,cI cJ v.2]) (t1:=34) (AL);have Df:N<=w.heap.size:=hM.own.sz;have hBN:B<=N:=by have:=hM.own.ge;have:=hM.own.lt;omega
 go_enter func88,ntmps88;generalize Cr:w.alloc (.cells #[cS v.1,cI cJ v.2] 34)=W at*;replace hM:=hM.kp (hb1.mono Df);have Db:Below B w W:=hb1.mono (by omega);have pW:=hM.kp (Al (w:=W) 1|>.mono hM.own.sz);obtain⟨FB,cap,c9,hcap,hM2⟩:=pW.cut hfr;have fz:=pW.Bw 9;change W.drew.cell? _=_ at c9;change W.drew.frozen? _=_ at fz;change Am (W.drew.setCell _ _) _ _ _ _ _ _ at hM2;have hln:(rest++[y]).length=rest.length+1:=by simp
 generalize hnn:(rest++[y]).length=nn at*;have hI1:((nn+1:Nat):Int)-1=(nn:Int):=by omega
 have hI2:(nn:Int)<=cap:=by omega
 have PW:=wrN (n:=nn) (by omega);have qW:=Wx hln;clear hln hnn;go_wp2;refine ALQ (S:=Ah 17 (λv=>v=W.drew) (λv=>v=W.drew.setCell ⟨M,9,cX⟩ (cY (cP ⟨FB,0,cX⟩) nn cap))) (Ah.start rfl) ?_;iterate 17(first|(refine Ab.q (λz=>z.s.pass rfl) ?_)|(apply Ab.z rfl;intro L w1 _ _ _ z hK;(obtain rfl:=(z.s.1 (z.o 17)));go_simp;exact hK (z.s.pass rfl);rfl))
 (refine Ab.step (a1:=?_) rfl (λL w1 K' Q' hS hi hR hd hK=>?_) ?_ ?_;rotate_left)
 ·obtain rfl:=hS.1 hi;go_simp;exact hK.out _ (Ah.done rfl)
 ·rfl
 refine Ab.nil λw3 WQ=>?_;have hw3:=WQ.2 rfl;have hlt:=hM.own.lt;have GX:Ae w3 w.heap.size [cS v.1,cI cJ v.2]:=by
  rw[hw3];refine hV.drew.far (q:=⟨M,9,cX⟩) ?_ _;dsimp only;omega
 have hb3:Below B W w3:=by
  rw[hw3];exact Ac.setCell (p:=⟨M,9,cX⟩) hM.own.ge _
 rw[<-hw3]at hM2;have c93:w3.cell? ⟨M,9,cX⟩=cP (cY (cP ⟨FB,0,cX⟩) nn cap):=by
  rw[hw3];exact World.cell?_setCell_same _ _ _ c9
 replace Db:=Db.trans hb3;have gN:AA6 w0 w3:=h0.trans (Db.mono hB0);have hnz:((nn:Int)==0)=cA:=by
  have:=qW.out;simp;omega
 have AJR:¬nn=0:=by have:=qW.out;omega
 have hl2:rest.length+1<=140737488351232:=by have:=qW.out;omega
 have hBl:=PN hM2 (rest:=rest) (x:=y) rfl hl2 gN hh;clear WQ hw3 hV hb1 hM pW Cr c9 fz hb3 hI1 hI2 PW;go_wp2_with fail;refine hBl.mono ?_;rintro e w4 ⟨rfl,hb4⟩;obtain⟨-,-,hvf,-,hvb⟩:=hh;obtain⟨NY,Nb,rfl⟩:=hvf.p.slice;obtain⟨NW,Na,rfl⟩:=hvf.v.slice;obtain⟨uq,Yr,rfl⟩:=hvf.b.slice;obtain⟨gy,iE,rfl⟩:=hvb.p.slice;obtain⟨gZ,iD,rfl⟩:=hvb.t.slice;obtain⟨pc,cc,rfl,-,hnc,hcs⟩:=hvb.c;obtain⟨ai,rfl,hAi⟩:=hcs y.i i hin;have hyl:y.i<b.cs.length:=(List.getElem?_eq_some_iff.1 hin).1;have hyI:(y.i:Int)<b.cs.length:=by omega
 obtain⟨p1,c1,p2,l2,c2,p3,l3,c3,d0,d1,d2,d3,d4,d5,-⟩:=hAi.parts;clear hcs hAi hvf hvb hBl hin;unfold vk;generalize f.ps.length=Y3 at*;generalize f.vs.length=Y2 at*;generalize f.bs.length=nf3 at*;generalize f.n=fn at*;generalize f.r=fr at*;generalize b.ps.length=o7 at*;generalize b.cs.length=oz at*;generalize b.e.to.length=ou at*;generalize b.n=bn at*;generalize b.e.k=bk at*;generalize b.e.a.k=bak at*;generalize b.e.a.s=qF at*;generalize b.e.a.n=ban at*;generalize b.e.n=qE at*;obtain⟨hF,hBx,hb5⟩:=Ch (w:=w4) (c1:=[cS fn,cS fr,cY NY Y3 Nb,cY NW Y2 Na,cY uq nf3 Yr]) (c2:=[cS bn,cY gy o7 iE,cY (cP ai) oz cc,cI cJ bk,cI cJ bak,cS qF,cI cJ ban,cY gZ ou iD,cI cJ qE]) (t1:=66) (t2:=82) (AL);have jI:=AB hb4 hb5;go_wp2;generalize pR:World.alloc _ _=W5 at*;have Ku:=gN.trans (jI.mono gN.size);replace GX:=GX.nx jI;replace hM2:=hM2.kp (jI.mono hM2.own.sz);have TQ:N<=W5.heap.size:=hM2.own.sz;replace Db:Below B w W5:=Db.trans (jI.mono (AX hBN (AX Df Db.size)));obtain⟨vo,cap2,bm,hT,-⟩:=hM2.top (rest:=rest) (x:=y) rfl hl2;have x2:=hBx.c 2 _ rfl;obtain⟨v0,v1⟩:=GX.c2;replace d0:=AA Ku d0;replace d1:=AA Ku d1;replace d2:=AA Ku d2;replace d3:=AA Ku d3;replace d4:=AA Ku d4;replace d5:=AA Ku d5;have hset:=λu (hu:AA6 W5 u)=>Co (hM2.kp (hu.mono hM2.own.sz)) (rest:=rest) (x:=y) rfl hl2 hy i.op i.d i.n p1 p2 p3 i.as.length l2 l3 c1 c2 c3 v;have hst:BP {s with frames:=rest++[y]} rest y i.d v=BP s rest y i.d v:=rfl;rw[hst]at hset;generalize i.op=iop at*;generalize i.d=dst at*;generalize i.n=nm at*;generalize i.as.length=nas at*;refine ALQ (S:=Ah 11 (λu=>AA6 W5 u) (λu=>Am u B N M k (BP s rest y dst v) j/\Below B W5 u)) (Ah.start Ac) ?_;iterate 2((refine Ab.q (λz=>z.s.pass rfl) ?_))
 (refine Ab.f (λz=>z.s.pass rfl) (λz=>AA (z.s.1 (z.r 11 9 (by kernel_rfl) (z.r 9 8 (by kernel_rfl) (z.o 8)))) x2) ?_);(refine Ab.q (λz=>z.s.pass rfl) ?_);(apply Ab.y rfl;intro L w1 _ _ z hK;go_simp;go_wp2_with((have hTT:=hT.kp (z.s.1 (z.r 11 4 (by kernel_rfl) z.i));refine(He hTT.sl hTT.l).mono ?_;rintro e w8 ⟨rfl,qq,rfl⟩));(try simp only[pE]);exact hK.out _ (Ah.keep (z.r 11 4 (by kernel_rfl) z.i) (AB (z.s.1 (z.r 11 4 (by kernel_rfl) z.i)) (Al _)) rfl);rfl);iterate 2((refine Ab.q (λz=>z.s.pass rfl) ?_))
 (refine Ab.f (λz=>z.s.pass rfl) (λz=>(hT.kp (z.s.1 (z.r 11 9 (by kernel_rfl) (z.r 9 8 (by kernel_rfl) (z.o 8))))).i) ?_);(refine Ab.q (λz=>z.s.pass rfl) ?_);(refine Ab.f (λz=>z.s.pass rfl) (λz=>have hI:=z.s.1 (z.o 11);ALS (AA hI d0) (ALS (AA hI d1) (ALS (AA hI d2) (ALS (AA hI d3) (ALS (AA hI d4) (AA hI d5)))))) ?_);(refine Ab.f (λz=>z.s.pass rfl) (λz=>have hI:=z.s.1 (z.o 11);ALS (AA hI v0) (AA hI v1)) ?_);(apply Ab.y rfl;intro L w1 _ _ z hK;go_simp;go_wp2_with((refine(hset _ (z.s.1 z.i)).mono ?_;rintro e w8 ⟨rfl,hm,hb⟩));(try simp only[pE]);exact hK.out _ (Ah.done ⟨hm,(z.s.1 z.i).mono (AX hBN hM2.own.sz)|>.trans hb⟩);rfl);refine Ab.nil λw6 H6=>?_;obtain⟨hm,hb⟩:=H6.2 rfl;go_wp2;go_end0;exact⟨rfl,⟨_,hm⟩,Db.trans hb⟩
theorem dx{n:Int}(hN:N<=w.heap.size):AZ (w.alloc (Obj.cells #[cI cJ n] 2)) N 2 1 ([n].map dN) (cY (cP ⟨w.heap.size,0,cX⟩) 1 1) [w.heap.size]:=by
 refine .inr ⟨w.heap.size,1,#[cI cJ n],[],rfl,hN,(MapKept.heap_alloc w _).1,by simp,by unfold maxLen;omega,rfl,rfl,?_,?_⟩
 ·intro d hd;obtain rfl:d=dN n:=by simpa using hd
  rfl
 ·exact AP.cc ((Ae.alloc w [cI cJ n] 2).c 0 _ rfl) rfl AP.cn
theorem fU{k:Hd}{j:Int}{i:Is}(h:Qd w0 w B N M k s j rest x i p1 c1)(has:i.as=a::r)(hop:i.op=33)(hd0:i.d=Bv)(htr:s.trace.length<=1000000)(hmk:s.marks.length<=1000000):Calls prog 53 #[.pointer (cP ⟨M,0,cX⟩),.agg #[cI cJ i.op,cS i.d,cS i.n,cY p1 i.as.length c1,cY p2 l2 c2,cY p3 l3 c3]] w (BI B M k (BP (JN s ⟨Bv,[(Ar x.vars a).2],0,decide ((Ar x.vars a).1=Ao)⟩) rest x i.d (Bv,0)) j w):=by
 obtain⟨h0,hA,hM,hfr,hl,hx,hin,hk⟩:=h;obtain⟨pa,ca,hpa,-,-,hA⟩:=hA;have hka:NZ a:=hk a (by rw[has];simp);obtain⟨aa,e1,d0,⟨d1,-⟩,d2⟩:=hA 0 a (by rw[has];rfl);obtain⟨nl,hnl,hn0⟩:∃nl:Nat,i.as.length=nl/\(0:Int)<nl:=⟨i.as.length,rfl,by rw[has];simp⟩;have ZO:0<nl:=by omega
 rw[hnl]at hpa hin⊢;rw[hop];obtain⟨rfl,rfl⟩:p1=pa/\c1=ca:=by simpa using hpa
 subst e1;replace hd0:=Wx hd0;replace d0:w0.cell? aa=cP (cI cJ a.k):=d0;replace d1:w0.cell? ⟨aa.block,aa.off+1,cX⟩=cP (cS a.s):=d1;replace d2:w0.cell? ⟨aa.block,aa.off+2,cX⟩=cP (cI cJ a.n):=d2;generalize i.d=dst at*;generalize i.n=nm at*;obtain⟨hI,hb1⟩:=BR (w:=w) (c1:=[cI cJ 33,cS dst,cS nm,cY (cP aa) nl c1,cY p2 l2 c2,cY p3 l3 c3]) (t1:=133) (AL);have Df:N<=w.heap.size:=hM.own.sz;have hBN:B<=N:=by have:=hM.own.ge;have:=hM.own.lt;omega
 go_enter func53,ntmps53;generalize Cr:w.alloc (.cells #[cI cJ 33,cS dst,cS nm,cY (cP aa) nl c1,cY p2 l2 c2,cY p3 l3 c3] 133)=W at*;replace hM:=hM.kp (hb1.mono Df);obtain⟨FB,cap,bm,hT,-⟩:=hM.top hfr hl;have hw0:=AB h0 hb1;replace d0:=AA hw0 d0;replace d1:=AA hw0 d1;replace d2:=AA hw0 d2;have hva:=Cm hT a hka;generalize Yt:Ar x.vars a=ua at*;obtain⟨ut,un⟩:=ua;obtain⟨i0,i1,i2,i3,i4,i5⟩:=hI.c6;have Db:Below B w W:=hb1.mono (by omega);have hBW:=AX hBN (AX Df hb1.size);go_wp2_with fail;refine hva.mono ?_;rintro e w2 ⟨he,hb2⟩;replace he:e=.returned (.agg #[cS ut,cI cJ un]):=he;subst he;obtain⟨hU,hb4⟩:=BR (w:=w2) (c1:=[cS ut,cI cJ un]) (t1:=34) (AL);obtain⟨u0,u1⟩:=hU.c2;have hb5:=AB hb2 hb4;go_wp2_with fail;have hfl:(ut.toList==[102,108,111,97,116])=decide (ut=Ao):=by
  have:=Li ut [102,108,111,97,116];by_cases h:ut=Ao
  ·rw[decide_eq_true h,this.2 h];rfl
  ·rw[decide_eq_false h,beq_eq_false_iff_ne];exact λe=>h (this.1 e)
 rw[hfl];generalize hU2:w2.alloc (.cells #[cS ut,cI cJ un] 34)=W3 at*;have hsz:W3.heap.size=w2.heap.size+1:=by rw[<-hU2];simp
 replace hM:=hM.kp (hb5.mono hM.own.sz);have hL:=dx (w:=W3) (N:=N) (n:=un) hM.own.sz;have hb6:=AJ W3 (.cells #[cI cJ un] 2);rw[<-hsz];have hU6:=hU.nx hb6;have jH:=AB hb5 hb6;replace hM:=hM.kp (hb6.mono hM.own.sz);generalize W3.alloc (.cells #[cI cJ un] 2)=W4 at*;have hse:=Vh hM ⟨Bv,[un],0,decide (ut=Ao)⟩ hL (by simp) htr hmk;have AJs:N<=W4.heap.size:=hM.own.sz;refine hse.mono ?_;rintro e w5 ⟨rfl,⟨N5,Yw⟩,BJ,Pn⟩;have TA:=(hI.nx jH).same (Pn _ Df (hI.nx jH).lt);have hU5:=hU6.same (Pn _ (AX Df (AX hb1.size hb2.size)) hU6.lt);obtain⟨i0,i1,i2,i3,i4,i5⟩:=TA.c6;obtain⟨u0,u1⟩:=hU5.c2;have Nf:=(Db.trans (jH.mono hBW)).trans BJ;have hset:=Co Yw (s:=JN s ⟨Bv,[un],0,decide (ut=Ao)⟩) hfr hl hx 33 dst nm (cP aa) p2 p3 nl l2 l3 c1 c2 c3 (ut,un);have hst:BP (JN s ⟨Bv,[un],0,decide (ut=Ao)⟩) rest x dst (ut,un)=BP (JN s ⟨Bv,[un],0,decide (ut=Ao)⟩) rest x dst (Bv,0):=by
  unfold BP;rw[if_pos hd0.out,if_pos hd0.out]
 rw[hst]at hset;go_wp2_with fail;refine hset.mono ?_;rintro e w6 ⟨rfl,hm,Bp⟩;go_wp2;go_end0;exact⟨rfl,⟨_,hm⟩,Nf.trans Bp⟩
def aK:(prog.info? 119).map (λi=>(i.zero,i.size,i.bytes))=cP (cP (.agg #[cS .empty,cY cX 0 0]),2,40):=by kernel_rfl
theorem dX{k:Hd}{j:Int}{i:Is}(h:Qd w0 w B N M k s j rest x i p1 c1)(hop:i.op=25){p:Pg}(hp:Cj w0 (.agg #[k.u0,k.u1,k.u2,k.u3,k.u4]) p k.u1 k.u2 k.u3 k.u4){c:Cl} (hfc:Ai Cl.n i.n p.cs=cP c) {uc:Value} (hsel:jR w0 k.u1 p.cs i.n c uc) (Sw:jQ w0 (.agg #[cS c.n,uc]) c uc) (hcl:c.fs.length<=4000) (hhl:s.heap.length<=1000000) (hal:0<=s.allocs/\s.allocs<=1000000):Calls prog 78 #[.pointer (cP ⟨M,0,cX⟩),.agg #[cI cJ i.op,cS i.d,cS i.n,cY p1 i.as.length c1,cY p2 l2 c2,cY p3 l3 c3]] w (BI B M k (BP {s with heap:=s.heap++[⟨i.n,Em p i.n (i.as.map (Ar x.vars))⟩],allocs:=s.allocs+1} rest x i.d (E9,(s.heap.length:Int)+1)) j w):=by
 obtain⟨h0,hA,hM,hfr,hl,hx,hin,hk⟩:=h;obtain⟨pc,cc,rfl,-,-,hcs⟩:=Sw.f;rw[hop];have OI:Em p i.n (i.as.map (Ar x.vars))=if i.as=[]then c.fs.map (λv=>Ap v.t)else i.as.map (Ar x.vars):=by
  unfold Em
  cases i.as with
  |nil=>simp[hfc]
  |cons a r=>simp
 have hml:(Em p i.n (i.as.map (Ar x.vars))).length<=4000:=by
  rw[OI];split
  ·simpa using hcl
  ·simp;omega
 replace OI:=Wx OI;clear hop hfc;obtain⟨hI,hb1⟩:=BR (w:=w) (c1:=[cI cJ 25,cS i.d,cS i.n,cY p1 i.as.length c1,cY p2 l2 c2,cY p3 l3 c3]) (t1:=133) (AL);have Df:N<=w.heap.size:=hM.own.sz;have hBN:B<=N:=by have:=hM.own.ge;have:=hM.own.lt;omega
 have hLk:=λv (hw:AA6 w0 v)=>Ot hw hp i.n hsel Sw;generalize i.d=dst at*;generalize i.n=nm at*;go_enter func78,ntmps78;generalize Cr:w.alloc (.cells #[cI cJ 25,cS dst,cS nm,cY p1 i.as.length c1,cY p2 l2 c2,cY p3 l3 c3] 133)=W at*;replace hM:=hM.kp (hb1.mono Df);obtain⟨FB,cap,bm,hT,-⟩:=hM.top hfr hl;have hw0:=AB h0 hb1;obtain⟨-,-,i2,i3⟩:=hI.c4;have TQ:N<=W.heap.size:=hM.own.sz;have Db:Below B w W:=hb1.mono (by omega);have hva:=Md hw0 hT hA hk (by omega);go_wp2_with fail;refine hva.mono ?_;rintro e w2 ⟨hb2,v,fp,rfl,hv,hnd⟩;obtain⟨pv,kv,rfl⟩:=hv.slice;rw[List.length_map,List.length_map]at hv⊢;have hw2:=AB hw0 hb2;have hM2:=hM.kp (hb2.mono TQ);have i2':=(hI.nx hb2).c 2 _ rfl;generalize hvs:i.as.map (Ar x.vars)=vs at*;generalize hnl:i.as.length=nl at*;clear hva hT;go_upto_if 15 with fail;have hnn:nl=0↔i.as=[]:=by rw[<-hnl];exact List.length_eq_zero_iff
 have yO:W.heap.size<=w2.heap.size:=hb2.size;replace hnl:=Wx hnl;replace hvs:=Wx hvs;go_cut[4,5,6,8]from 16 to 39 (λu _ _ _ wx=>∃fp,AZ wx W.heap.size 34 2 ((Em p nm vs).map C9) u fp/\fp.Nodup/\AA6 W wx)
 ·clear Cr i3 hA;by_cases hn0:i.as=[]
  ·have hz:((nl:Int)==0)=cC:=(by simp[hnn.2 hn0]);have hm0:Em p nm vs=c.fs.map (λv=>Ap v.t):=(by rw[OI.out,if_pos hn0]);have hv0:vs=[]:=(by rw[<-hvs.out,hn0];rfl);have hz0:=hnn.2 hn0;subst hz0 hv0;replace hm0:=Wx hm0;obtain⟨g0,g1,g2,g3,g4,-⟩:=hM2.hd;clear OI hnn hn0 hM hM2 hI hvs;go_wp2;refine ALR (S:=Ck w2 10 11 [cS ⟨#[]⟩,cY cX 0 0] [cS c.n,cY pc c.fs.length cc]) (Ck.start Ac) ?_;(iterate 6((refine AU.f (λz=>z.s.keep rfl rfl) (λz=>ALS (AA z.s.1 g0) (ALS (AA z.s.1 g1) (ALS (AA z.s.1 g2) (ALS (AA z.s.1 g3) (ALS (AA z.s.1 g4) (AA z.s.1 i2')))))) ?_)));(apply AU.y rfl;intro V L w1 _ _ z hK;go_simp;go_wp2_with((refine(hLk _ (AB hw2 z.s.1)).mono ?_;rintro e w2 ⟨hb,rfl⟩));(try simp only[pE]);exact hK.out _ (z.s.call hb rfl rfl);intros;rfl);(iterate 3((refine AU.q (λz=>z.s.keep rfl rfl) ?_)));(apply AU.w rfl;intro V L w1 _ _ _ z hK;go_simp;exact hK rfl (z.s.made rfl z.i _);(try simp only[pE]));(apply AU.val undef (λ_=>rfl);intro V L w1 _ _ hS hi hR' hd hK;have hl:=hd.out (10) (by kernel_rfl);obtain⟨pb,hp,hp0,hp1,hx⟩:=hS.at hl hi;have k0:=hx.c 0 _ rfl;have k1:=hx.c 1 _ rfl;have f0:=hx.f 0 (by decide);have f1:=hx.f 1 (by decide);go_simp;refine hK.out _ _ (by simp only[hp];rfl) (hS.fill hl hp hp0 (by simpa using hp1) ((hS.1.setCell hp0 _).setCell hp0 _) ((hx.set (i:=0) (by simp) _).set (i:=1) (by simp) _) rfl);simp only[Act.put]);(refine AU.q (λz=>z.s.keep rfl rfl) ?_);refine AU.nil λV w5 hS=>?_;obtain⟨pb,hpb,hp0,hp1,hxb⟩:=hS.done rfl rfl;have hb5:=hS.1;simp only[hpb];have x1:=hxb.c 1 _ rfl;have hv5:=hv.same (λb hb=>hb5.block b (hv.fp b hb).2);clear hS hpb g0 g1 g2 g3 g4 hLk i2' hv;obtain⟨i0,hi,hz0,hz1,hz2⟩:=Cq VW;go_wp2;go_loopw[4,29] (λu i wr=>∃(q:Nat) (fp:List Nat),q<=c.fs.length/\i=cI cJ (q:Int)/\AZ wr W.heap.size 34 2 (((c.fs.take q).map (λv=>Ap v.t)).map C9) u fp/\fp.Nodup/\AA6 W wr) (λ_ i _=>c.fs.length-(intOf i).toNat);exact⟨0,fp,AY,rfl,hv5,hnd,AB hb2 hb5⟩;clear hv5 hnd fp;obtain⟨q,fp,hq,rfl,hv,hnd,hb⟩:=hrel;by_cases hend:q=c.fs.length
   ·subst hend;rw[List.take_length]at hv;go_wp2;go_meet;exact⟨fp,by rw[hm0.out];exact hv,hnd,hb⟩
   ·have hlt:q<c.fs.length:=(by omega);have A8:(q:Int)<c.fs.length:=(by omega);obtain⟨a,rfl,⟨v0,-⟩,v1,-⟩:=hcs q c.fs[q] (by simp[hlt]);have hbw:=AB hw0 hb;replace v0:=AA hbw v0;replace v1:=AA hbw v1;obtain⟨xs,PU⟩:=hv.owns;have hlen:(((c.fs.take q).map (λv=>Ap v.t)).map C9).length=q:=(by simp;omega);rw[hlen]at PU;have hn:=λw=>Ju c.fs[q].t w;rw[show∀t:ByteArray,Ending.returned (Value.agg #[cS (F9 t),cI cJ 0])=.returned (Kn (Ap t))from λt=>by rw[<-I7]]at hn;have hlq:c.fs.take (q+1)=c.fs.take q++[c.fs[q]]:=List.take_succ_eq_append_getElem hlt;generalize hcq:c.fs[q]=cq at*;go_wp2_with fail;refine(hn _).mono ?_;rintro e w7 ⟨rfl,BJ⟩;obtain⟨-,Bp⟩:=BR (w:=wr) (c1:=[cS cq.n,cS cq.t]) (t1:=71) BJ;generalize hvq:Ap cq.t=vq at*;have hx2:=Dh PU Bp (AQ);have hv2:AZ w7 W.heap.size 34 2 (((c.fs.take q).map (λv=>Ap v.t)).map C9) u4 fp:=hv.same (λb hb=>Bp.block b (hv.fp b hb).2);have hbz:AA6 W w7:=hb.trans (Bp.mono hb.size);have hB2:=Ae.alloc w7 [cS vq.1,cI cJ vq.2] 34;have hWz:W.heap.size<=w7.heap.size:=hbz.size;(go_wp2_with(at_builtin;refine wpList_append_own' rfl _ _ 37 rfl W.heap.size 34 i0 _ 2 24 underlying37 hi hz0 hz1 hz2 rfl (by decide) _ q xs rfl (World.ownsRow.alloc hx2 _) ⟨w7.heap.size,0,cX⟩ 1 1 [cS vq.1,cI cJ vq.2] rfl rfl (λj u hu=>by rw[Dk,Nat.zero_add];exact hB2.c j u hu) (by simp[Value.oneCell']) (by unfold maxLen;omega) (by omega) (by simp;omega) ?_;intro v' w3 ho hg hf));have hv3:AZ (w7.alloc (Obj.cells #[cS vq.1,cI cJ vq.2] 34)) W.heap.size 34 2 (((c.fs.take q).map (λv=>Ap v.t)).map C9) u4 fp:=hv2.same (λb hb=>Below.heap_alloc _ _ _ (hv2.fp b hb).2);obtain⟨fp',k1,k2,-⟩:=AZ.app1 (d:=C9 vq) (w2:=w3) (v':=v') hv3 hnd (by rw[hlen];exact World.ownsRow.alloc hx2 _) hB2 (Tw hB2) (by simp) (by simp) rfl rfl (by rw[hlen];exact ho) hg hf;have hbf:AA6 W w3:=(hbz.alloc hbz.size _).grown hg (by have:=hbz.size;simp;omega) (λk hk=>(hx2.lt k hk).1);have hfin:(((c.fs.take (q+1)).map (λv=>Ap v.t)).map C9)=((c.fs.take q).map (λv=>Ap v.t)).map C9++[C9 vq]:=(by rw[hlq,List.map_append,List.map_append,List.map_singleton,List.map_singleton,hvq]);rw[<-hfin]at k1;go_roundw;exact⟨q+1,fp',by omega,by go_num,k1,k2,hbf⟩;simp[intOf];omega
  ·have hz:((nl:Int)==0)=cA:=by
    have:nl≠0:=λe=>hn0 (hnn.1 e);simp;omega
   have hm0:Em p nm vs=vs:=(by rw[OI.out,if_neg hn0]);replace hm0:=Wx hm0;go_wp2;go_meet;exact⟨fp,by rw[hm0.out];exact hv,hnd,hb2⟩
 obtain⟨fp2,hv2,xk,hb3⟩:=hcut;obtain⟨pu,ku,rfl⟩:=hv2.slice;rw[List.length_map]at hv2⊢;generalize hmv:Em p nm vs=ms at*;clear hvs hb2 hmv;have hw3:=AB hw0 hb3;replace hM:=hM.kp (hb3.mono TQ);replace hI:=hI.nx hb3;replace i2:=hI.c 2 _ rfl;replace Db:=Db.trans (hb3.mono (by have:=Db.size;omega));have hNc:N<=wc.heap.size:=hM.own.sz;have s0:=hM.st;unfold Eh at s0;have s1:=s0.nth 4 rfl (n:=5) (by simp[Dt.DF,Dt.wd,C9,dN,dS]);obtain⟨vt,xs,ct,PU,pt,kt,rfl⟩:=s1.owns;rw[List.length_map]at ct PU;have IW:=s1.OE ct;have hot:=λk hk=>s1.JI (k:=k) ct hk;have hfz:=hM.Bw 10;have Pk:=hM.own.lt;have A8:=hI.lt;have hsd:wc.drew.heap.size=wc.heap.size:=rfl;generalize hnt:s.heap.length=nt at*;generalize hnm:ms.length=nms at*;have hxd:=Dh PU (Al (w:=wc) 1) (AQ);go_wp2;refine ALR (S:=Ad wc.drew B 119 2 10 11 15 [cS nm,cY pu nms ku] nt xs (cY pt nt kt) ⟨M,10,cX⟩) (Ad.start (AL)) ?_;iterate 5((refine AU.q (λz=>z.s.keep rfl rfl rfl) ?_))
 (refine AU.f (λz=>z.s.keep rfl rfl rfl) (λz=>AA (z.s.below (z.o 11)) (show wc.drew.cell? ⟨M,10,cX⟩=cP (cY pt nt kt)from ct)) ?_);(refine AU.q (λz=>z.s.keep rfl rfl rfl) ?_);(refine AU.f (λz=>z.s.keep rfl rfl rfl) (λz=>((hI.drew).below A8 (z.s.below (z.r 11 10 (by kernel_rfl) (z.r 10 9 (by kernel_rfl) (z.o 9))))).c 2 _ rfl) ?_);iterate 2((refine AU.q (λz=>z.s.keep rfl rfl rfl) ?_))
 (apply AU.w rfl;intro V L w1 _ _ _ z hK;go_simp;exact hK rfl (z.s.made (z.o 11) rfl _);(try simp only[pE]));(refine Ad.aq (aK) (underlying36) (hxd) ?_;(try simp only[pE]));iterate 3((refine AU.q (λz=>z.s.keep rfl rfl rfl) ?_))
 (refine Ad.sv (λhS hi=>ALS (hS.cellOf hi (show wc.drew.cell? ⟨M,10,cX⟩=cP (cY pt nt kt)from ct) IW) (hS.EA hi (o:=10) (show M<wc.drew.heap.size from A9 Pk hNc) hfz IW)) ?_;simp only[Act.put]);refine AU.nil λV w1 hS=>?_;obtain⟨⟨N1,ho⟩,hbel,-,w9,u9,rfl,Y9⟩:=hS.done rfl rfl (s1.kp ((Al (w:=wc) 1).mono hNc)) (AL) ct hxd (by rw[List.length_map,hnt]) (d:=Ld ⟨nm,ms⟩)
  (λw1 pb b1 _ _ hx=>⟨fp2++[],Af.of (AP.cc (hx.c 0 _ rfl) rfl (AP.cr (hx.c 1 _ rfl) (AZ.mono TQ (hnm▸hv2.same (λb hb=>b1.block b (hv2.fp b hb).2))) AP.cn)),by simpa using xk⟩) rfl rfl
 have hI1:Ae (w9.setCell ⟨M,5+5,cX⟩ u9) w.heap.size [cI cJ 25,cS dst,cS nm,cY p1 nl c1,cY p2 l2 c2,cY p3 l3 c3]:=by
  refine hI.same (hS.far rfl rfl (by omega) (λe=>?_) A8);have:=hot _ e;omega
 have hH:(w9.setCell ⟨M,5+5,cX⟩ u9).heap.size=(w9.setCell ⟨M,5+5,cX⟩ u9).heap.size:=rfl;have h1:Am (w9.setCell ⟨M,5+5,cX⟩ u9) B N1 M k {s with heap:=s.heap++[⟨nm,ms⟩]} j:=by
  obtain⟨cur,T,e1⟩:=hM.typ;refine⟨?_,Iq (Y9.trans e1) _ _⟩;unfold dM Eh;simpa using ho
 generalize w9.setCell ⟨M,5+5,cX⟩ u9=W2 at*;replace Db:Below B w W2:=Db.trans ((Al (w:=wc) 1|>.mono (by omega)).trans hbel);clear hS ho hbel Y9 PU hxd ct s0 s1 hfz IW hI hM hv2 hot xk hH hw3 hb3 hb1 hw0 i2 Cr;obtain⟨-,-,-,-,n14,-⟩:=h1.ns;have fz:=h1.Bw 14;have nE:=h1.UZ (s.allocs+1);have hb1:=Db.trans (h1.low 14 (cI cJ (s.allocs+1)));have hMI:M≠w.heap.size:=by omega
 have hI2:=hI1.far (q:=⟨M,14,cX⟩) hMI (cI cJ (s.allocs+1));replace n14:W2.cell? ⟨M,14,cX⟩=cP (cI cJ s.allocs):=n14;generalize hAl:s.allocs=al at*;go_wp2;generalize W2.setCell ⟨M,14,cX⟩ (cI cJ (al+1))=W3 at*;have Nr:=hb1.size;have AEb:N1<=W3.heap.size:=nE.own.sz;have AGg:=hI2.lt;obtain⟨i0,i1,i2,i3,i4,i5⟩:=hI2.c6;have s0:=nE.st;unfold Eh at s0;have s1:=s0.nth 4 rfl (n:=5) (by simp[Dt.DF,Dt.wd,C9,dN,dS]);obtain⟨vt,xs2,ct,PU,pt2,kt2,rfl⟩:=s1.owns;have hln:((s.heap++[Ob.mk nm ms]).map Ld).length=nt+1:=by simp[hnt]
 rw[hln]at ct;replace ct:W3.cell? ⟨M,10,cX⟩=cP (cY pt2 (nt+1) kt2):=ct;have hset:=λu (hu:AA6 W3 u)=>Co (nE.kp (hu.mono AEb)) (rest:=rest) (x:=x) hfr hl hx 25 dst nm p1 p2 p3 nl l2 l3 c1 c2 c3 (E9,(nt:Int)+1);have AEi:B<=W3.heap.size:=by omega
 refine ALQ (S:=Ah 9 (λv=>AA6 W3 v) (λv=>BI B M k (BP {s with heap:=s.heap++[⟨nm,ms⟩],allocs:=al+1} rest x dst (E9,(nt:Int)+1)) j W3 (.returned (.tuple #[])) v)) (Ah.start Ac) ?_;(refine Ab.q (λz=>z.s.pass rfl) ?_);(refine Ab.f (λz=>z.s.pass rfl) (λz=>have hI:=z.s.1 (z.o 9);ALS (AA hI i0) (ALS (AA hI i1) (ALS (AA hI i2) (ALS (AA hI i3) (ALS (AA hI i4) (AA hI i5)))))) ?_);iterate 4((refine Ab.q (λz=>z.s.pass rfl) ?_))
 (refine Ab.f (λz=>z.s.pass rfl) (λz=>AA (z.s.1 (z.r 9 8 (by kernel_rfl) (z.r 8 7 (by kernel_rfl) (z.o 7)))) ct) ?_);iterate 2((refine Ab.q (λz=>z.s.pass rfl) ?_))
 (apply Ab.y rfl;intro L w1 _ _ z hK;go_simp;go_wp2_with((refine(hset _ (z.s.1 z.i)).mono ?_;rintro e w8 ⟨rfl,hm,hb⟩));(try simp only[pE]);exact hK.out _ (Ah.done ⟨rfl,⟨_,hm⟩,(z.s.1 z.i).mono AEi|>.trans hb⟩);rfl);refine Ab.nil λw6 H6=>?_;obtain⟨-,hm,hb⟩:=H6.2 rfl;go_wp2;go_end0;exact⟨rfl,hm,hb1.trans hb⟩
end Go.Proofs.YtlffomedflegdaaGreatDoor
