/- Part 08 of the proof: Wr, Mt, Mu, Mv, Mw, Mx, My, Mz, Na, Nb, Nc. -/
import Derived.Test.YtlffomedflegdaaGreatDoorPc07
set_option linter.all false
set_option maxHeartbeats 16000000
set_option maxRecDepth 100000
namespace Go.Proofs.YtlffomedflegdaaGreatDoor
open Go.Proofs.Tryz
open Go.RowKit
variable {B M N c1 c2 c3 i j l1 l2 l3:Nat}{L:Nat->Bool}{a:Ag}{b:Bk}{d n y:ByteArray}{f:Fn}{p1 p2 p3:Option Addr}{r:List Ag}{rest:List Lv}{s t:St}{v w w0 w1 w2:World}{x:Lv}
section
open Num Dp
abbrev Bo(n:Int):Prop:= -9223372036854775808<=n/\n<=9223372036854775807
theorem EG(n:Int):Bo (wrap64 n):=FR n
theorem Ki{n:Int}(h:Bo n):Bo (Ba n):=by grind [Ba,Pe]
theorem YO(op:BinOp)(x y:Nat):Bo (Eo op x y):=by
 unfold Eo;split
 ·exact Ki (EG _)
 simp[Bo,Eo,Pe]
theorem tF(b:Bool):Bo (tr b):=by grind [tr]
theorem Ll(b:Bool):Bo (mX b):=by grind [mX]
theorem lC(op a b:Int):Bo (OA op a b).1:=by
 unfold OA;repeat' split
 all_goals first|exact YO _ _ _|exact tF _|exact⟨by decide,by decide⟩
theorem YN(n:Int):Bo (MR n):=Ki (EG _)
theorem YM(n:Int):Bo (CU n):=by
 unfold CU;grind [Vx]
theorem eO{a:Int}(h:Bo a)(k:Nat):Bo (a/2^k):=by
 have hp:(0:Int)<2^k:=Int.pow_pos (by decide);by_cases h0:0<=a
 ·have h1:=Int.ediv_nonneg h0 (Int.le_of_lt hp);have h2:=Int.ediv_le_self (2^k) h0;exact⟨by omega,by omega⟩
 ·have h1:a<=a/2^k:=by
   rw[Int.le_ediv_iff_mul_le hp];have:a*2^k<=a*1:=Int.mul_le_mul_of_nonpos_left (by omega) (by omega);omega
  have h2:a/2^k<0:=Int.ediv_neg_of_neg_of_pos (by omega) hp;exact⟨by omega,by omega⟩
theorem FH{c:Prop}[Decidable c]{x y:Int×Bool}(h1:c->Bo x.1)(h2:¬c->Bo y.1):Bo (if c then x else y).1:=by grind
theorem eF{a:Int}(b:Int)(ha:Bo a):Bo (a.tmod b):=by
 have h1:(a.tmod b).natAbs<=a.natAbs:=by rw[Int.natAbs_tmod];exact Nat.mod_le _ _
 obtain⟨h4,h5⟩:=ha;by_cases h0:0<=a
 ·have:=Int.tmod_nonneg b h0;exact⟨by omega,by omega⟩
 ·have:=Int.tmod_nonneg b (show 0<=-a by omega);rw[Int.neg_tmod]at this;exact⟨by omega,by omega⟩
theorem lD{op a b:Int}(ha:Bo a):Bo (Kv op a b).1:=by
 have z0:Bo 0:=⟨by decide,by decide⟩;unfold Kv;refine FH (fun _=>EG _) fun _=>FH (fun _=>EG _) fun _=>FH (fun _=>EG _) fun _=>FH (fun _=>FH (fun _=>z0) fun _=>EG _) fun _=>FH (fun _=>FH (fun _=>z0) fun _=>eF _ ha) fun _=>?_;refine FH (fun _=>?_) fun _=>FH (fun _=>?_) fun _=>FH (fun _=>?_) fun _=>FH (fun _=>EG _) fun _=>FH (fun _=>eO ha _) fun _=>FH (fun _=>Ll _) fun _=>FH (fun _=>Ll _) fun _=>FH (fun _=>Ll _) fun _=>FH (fun _=>Ll _) fun _=>z0
 ·rw[WE];exact EG _
 ·rw[sJ];exact EG _
 ·rw[jY];exact EG _
def JG(m:Vm):Prop:=∀y∈m,Bo y.2.2
structure Ga(s:St):Prop where
 fr:∀x∈s.frames,JG x.vars
 hp:∀ob∈s.heap,∀v∈ob.vs,Bo v.2
 gl:∀v∈s.globals,Bo v.2
def rP(i:Is):Prop:=∀a∈i.as,Bo a.n
def Zp(p:Pg):Prop:=∀f∈p.fs,∀b∈f.bs,(∀i∈b.cs,rP i)/\Bo b.e.a.n
theorem fB{m:Vm}(h:JG m)(x:ByteArray):Bo (getM m x).2:=by grind [JG,getM]
theorem Jt:∀{m:Vm},JG m->∀(x:ByteArray) {v:Vu},Bo v.2->JG (Ei m x v)
 | [],_,x,v,hv=>by
  intro y hy;obtain rfl:y=(x,v):=by simpa[Ei]using hy
  exact hv
 |z::r,h,x,v,hv=>by
  unfold Ei;split
  ·intro y hy;rcases List.mem_cons.1 hy with rfl|hy
   ·exact hv
   ·exact h y (by simp[hy])
  ·intro y hy;rcases List.mem_cons.1 hy with rfl|hy
   ·exact h y (by simp)
   ·exact Jt (fun y hy=>h y (by simp[hy])) x hv y hy
theorem Me{m:Vm}(h:JG m)(ha:Bo a.n):Bo (Ar m a).2:=by
 unfold Ar;repeat' split
 all_goals first|exact fB h _|exact ha|exact⟨by decide,by decide⟩
theorem JW(t:ByteArray):Bo (Ap t).2:=by grind [Ap]
section
variable {p : Pg} {ans fails : List Int} {fuel : Int} {s s1 t u : St} {j j1 k : Nat} {rest : List Lv} {x : Lv}
theorem Ih{s':St}(hf:∀y∈rest,JG y.vars)(hx:JG x.vars)(h1:∀ob∈s'.heap,∀v∈ob.vs,Bo v.2)(h2:∀v∈s'.globals,Bo v.2)(d:ByteArray){v:Vu}(hv:Bo v.2):Ga (BP s' rest x d v):=by
 refine⟨fun y hy=>?_,h1,h2⟩;grind [JG,BP,Jt,cases St,cases Ga]
theorem Lm{s':St}(hf:∀y∈rest,JG y.vars)(hx:JG x.vars)(h1:∀ob∈s'.heap,∀v∈ob.vs,Bo v.2)(h2:∀v∈s'.globals,Bo v.2)(h:TU s' rest x d=some t):Ga t:=by grind [JG,TU,Ih,cases St,cases Ga]
theorem PO:∀(ps:List Vr) (l:List Vu) (m m1:Vm),JG m->(∀v∈l,Bo v.2)->bindM ps l m=some m1->JG m1
 |_,[],m,m1,hm,_,h=>by
  unfold bindM at h;injection h with h;subst h
  exact hm
 | [],_::_,m,m1,_,_,h=>by unfold bindM at h;cases h
 |v::r,u::l,m,m1,hm,hl,h=>by
  unfold bindM at h;exact PO r l _ m1 (Jt hm _ (hl u (by simp))) (fun v hv=>hl v (by simp[hv])) h
theorem KX{α:Type}{l:List α}{k:Nat}{v y:α}(h:y∈setAt l k v):y=v\/y∈l:=by grind [setAt]
theorem LG{o:Vu}{r:Nat×ByteArray×List Vu×Nat×Vu}(hs:Ga s)(h:fieldAt p s o y=some r):Bo r.2.2.2.2.2/\∀v∈r.2.2.1,Bo v.2:=by
 unfold fieldAt at h;repeat'(first|cases h;done|split at h)
 rename_i x1 ob Nc x2 cl hcl x3 k hk x4 v hv
 injection h with h;subst h;have:=hs.hp ob (List.mem_of_getElem? Nc);exact⟨this v (List.mem_of_getElem? hv),this⟩
theorem YL(hs:Ga s)(hl:s.frames=rest++[x]){i:Is}(hi:rP i)(ha:∀n∈ans,Bo n)(hh:s.heap.length<=1000000)(h:Bq p ans fails s rest x i=some t):Ga t:=by
 have hf:∀y∈rest,JG y.vars:=fun y hy=>hs.fr y (by rw[hl];simp[hy]);have hx:JG x.vars:=hs.fr x (by rw[hl];simp);have hval:∀a∈i.as,Bo (Ar x.vars a).2:=fun a h=>Me hx (hi a h);have st:∀{d:ByteArray} {v:Vu},Bo v.2->Ga (BP s rest x d v):=fun hv=>Ih hf hx hs.hp hs.gl _ hv;have hvl:∀v∈i.as.map (Ar x.vars),Bo v.2:=fun v hv=>by
  obtain⟨a,h1,rfl⟩:=List.mem_map.1 hv;exact hval a h1
 have z0:Bo 0:=⟨by decide,by decide⟩;unfold Bq at h;by_cases ZG:i.op=25
 ·rw[if_pos ZG]at h;injection h with h;subst h;refine Ih hf hx ?_ (by exact hs.gl) _ (by show Bo ((s.heap.length:Int)+1);exact⟨by omega,by omega⟩);intro ob Nc;rcases List.mem_append.1 Nc with h1|h1
  ·exact hs.hp ob h1
  ·obtain rfl:ob=_:=(by simpa using h1);intro v hv;dsimp only at hv;unfold Em at hv;split at hv
   ·split at hv
    ·cases hv
    ·obtain⟨u,_,rfl⟩:=List.mem_map.1 hv;exact JW _
   ·exact hvl v hv
 rw[if_neg ZG]at h;by_cases iM:i.op=29
 ·rw[if_pos iM]at h;split at h
  ·cases h
  split at h
  ·cases h
  rename_i v hv
  injection h with h;subst h;exact st (hs.gl v (List.mem_of_getElem? hv))
 rw[if_neg iM]at h;by_cases c31:i.op=31
 ·rw[if_pos c31]at h;split at h
  ·cases h
  split at h
  ·cases h
  split at h
  ·cases h
  rename_i m1 hm1
  injection h with h;subst h;refine⟨fun y hy=>?_,hs.hp,hs.gl⟩;dsimp only at hy;rw[<-hl]at hy;rcases List.mem_append.1 hy with hy|hy
  ·exact hs.fr y hy
  ·obtain rfl:y=_:=(by simpa using hy);exact PO _ _ _ _ (fun y hy=>by cases hy) hvl hm1
 rw[if_neg c31]at h;by_cases c32:i.op=32
 ·rw[if_pos c32]at h;injection h with h;subst h;refine Ih hf hx (by exact hs.hp) (by exact hs.gl) _ ?_;(try dsimp only)
  cases hg:ans[s.asked.toNat]? with
  |none=>exact z0
  |some n=>exact ha n (List.mem_of_getElem? hg)
 rw[if_neg c32]at h;by_cases c34:i.op=34
 ·rw[if_pos c34]at h;split at h
  ·injection h with h;subst h;exact⟨hs.fr,hs.hp,hs.gl⟩
  ·exact Lm hf hx (by exact hs.hp) (by exact hs.gl) h
 rw[if_neg c34]at h;split at h
 ·cases h
 rename_i a r has
 have hva:=hval a (by rw[has];simp);by_cases iN:i.op=22
 ·rw[if_pos iN]at h;injection h with h;subst h;exact st (YN _)
 rw[if_neg iN]at h;by_cases c23:i.op=23
 ·rw[if_pos c23]at h;injection h with h;subst h;exact st (YM _)
 rw[if_neg c23]at h;by_cases c24:i.op=24
 ·rw[if_pos c24]at h;injection h with h;subst h;exact st hva
 rw[if_neg c24]at h;by_cases gT:i.op=26
 ·rw[if_pos gT]at h;split at h
  ·injection h with h;subst h;exact⟨hs.fr,hs.hp,hs.gl⟩
  split at h
  ·cases h
  rename_i q hq
  injection h with h;subst h;exact st (LG hs hq).1
 rw[if_neg gT]at h;by_cases ZF:i.op=30
 ·rw[if_pos ZF]at h;split at h
  ·cases h
  split at h
  ·cases h
  refine Lm hf hx (by exact hs.hp) ?_ h;intro v hv;rcases KX hv with rfl|hv
  ·exact hva
  ·exact hs.gl v hv
 rw[if_neg ZF]at h;by_cases gQ:i.op=33
 ·rw[if_pos gQ]at h;exact Lm hf hx (by exact hs.hp) (by exact hs.gl) h
 rw[if_neg gQ]at h;split at h
 ·cases h
 rename_i x0 x1 b r2
 have hvb:=hval b (by rw[has];simp);by_cases Yy:i.op=27
 ·rw[if_pos Yy]at h;split at h
  ·injection h with h;subst h;exact⟨hs.fr,hs.hp,hs.gl⟩
  split at h
  ·cases h
  rename_i q hq
  refine Lm hf hx ?_ (by exact hs.gl) h;intro ob Nc;rcases KX Nc with rfl|Nc
  ·intro v hv;dsimp only at hv;rcases KX hv with rfl|hv
   ·exact hvb
   ·exact(LG hs hq).2 v hv
  ·exact hs.hp ob Nc
 rw[if_neg Yy]at h;by_cases c28:i.op=28
 ·rw[if_pos c28]at h;injection h with h;subst h;refine st ?_;dsimp only;split<;>exact⟨by decide,by decide⟩
 rw[if_neg c28]at h;split at h
 ·split at h
  ·injection h with h;subst h;exact st (lD hva)
  ·injection h with h;subst h;exact⟨hs.fr,hs.hp,hs.gl⟩
 split at h
 ·injection h with h;subst h;exact st (lC _ _ _)
 ·cases h
theorem RU(hs:Ga s)(hl:s.frames=rest++[x])(h:H7 f s rest x y=some t):Ga t:=by
 rw[KS h];refine⟨fun z hz=>?_,hs.hp,hs.gl⟩;grind [KS,cases Ga,cases Fn]
theorem eY(hs:Ga s)(hl:s.frames=rest++[x]){v:Vu}(hv:Bo v.2)(h:K4 p s rest v=some t):Ga t:=by
 unfold K4 at h;split at h
 ·injection h with h;subst h;exact⟨(fun y hy=>by cases hy),hs.hp,hs.gl⟩
 rename_i y hy
 repeat'(first|cases h;done|split at h)
 injection h with h;subst h;have hm:∀z∈rest,JG z.vars:=fun z hz=>hs.fr z (by rw[hl];simp[hz]);exact Ih (fun z hz=>hm z (List.dropLast_subset _ hz)) (hm y (List.mem_of_getLast? hy)) hs.hp hs.gl _ hv
theorem lu(hs:Ga s)(hl:s.frames=rest++[x]){e:Tm}(he:Bo e.a.n)(h:La p f s rest x e=some t):Ga t:=by
 unfold La at h;split at h
 ·split at h
  ·cases h
  ·exact RU hs hl h
 split at h
 ·split at h
  ·exact RU hs hl h
  ·cases h
 split at h
 ·exact eY hs hl (Me (hs.fr x (by rw[hl];simp)) he) h
 split at h
 ·injection h with h;subst h;exact⟨hs.fr,hs.hp,hs.gl⟩
 ·cases h
theorem RY(hr:Zp p)(hs:Ga s)(hl:s.frames=s.frames.dropLast++[x])(hx:Ca p s.heap x f b)(ha:∀n∈ans,Bo n)(hh:s.heap.length<=1000000)(h:El p ans fails s x f b=some t):Ga t:=by
 have hb:=hr f (Ak hx.1).1 b (Ak hx.2.1).1;unfold El at h;split at h
 ·exact lu hs hl hb.2 h
 ·split at h
  ·cases h
  ·rename_i i hi
   exact YL hs hl (hb.1 i (List.mem_of_getElem? hi)) ha hh h
theorem Xj(hg:DJ p)(hr:Zp p)(hs:Ga s)(hw:WT p s)(hst:s.status=0)(ha:∀n∈ans,Bo n)(hh:s.heap.length<=1000000)(h:EP p ans fails fuel s j=some (t,k)):Ga t:=by
 obtain⟨x,f,b,h1,h2,h3,h4⟩:=Il hg hw hst h;rcases h4 with⟨_,_,rfl,_⟩|⟨_,_,_,h⟩|⟨_,_,rfl,_⟩|⟨_,_,_,h⟩
 ·exact⟨hs.fr,hs.hp,hs.gl⟩
 ·exact RY hr hs h2 h3 ha hh h
 ·exact⟨hs.fr,hs.hp,hs.gl⟩
 ·exact RY (s:={s with steps:=s.steps+1}) hr ⟨hs.fr,hs.hp,hs.gl⟩ h2 h3 ha hh h
end
end
section
open Dp
theorem Yi{k:Hd}{j:Int}{i:Is}(h:Qd w0 w B N M k s j rest x i p1 c1)(has:i.as=a::r)(hop:i.op=22):Calls prog 53 #[.pointer (some ⟨M,0,none⟩),.agg #[.int .i64 i.op,.string i.d,.string i.n,.slice p1 i.as.length c1,.slice p2 l2 c2,.slice p3 l3 c3]] w (BI B M k (BP s rest x i.d (Ao,MR (Ar x.vars a).2)) j w):=by
 obtain⟨h0,hA,hM,hfr,hl,hx,hin,hk⟩:=h;obtain⟨pa,ca,hpa,-,-,hA⟩:=hA;have hka:NZ a:=hk a (by rw[has];simp);obtain⟨aa,e1,d0,⟨d1,-⟩,d2⟩:=hA 0 a (by rw[has];rfl);obtain⟨nl,hnl,hn0⟩:∃nl:Nat,i.as.length=nl/\(0:Int)<nl:=⟨i.as.length,rfl,by rw[has];simp⟩;have ZO:0<nl:=by omega
 rw[hnl]at hpa hin⊢;rw[hop];obtain⟨rfl,rfl⟩:p1=pa/\c1=ca:=by simpa using hpa
 subst e1;replace d0:w0.cell? aa=some (.int .i64 a.k):=d0;replace d1:w0.cell? ⟨aa.block,aa.off+1,none⟩=some (.string a.s):=d1;replace d2:w0.cell? ⟨aa.block,aa.off+2,none⟩=some (.int .i64 a.n):=d2;generalize i.d=dst at*;generalize i.n=nm at*;obtain⟨hI,hb1⟩:=BR (w:=w) (c1:=[.int .i64 22,.string dst,.string nm,.slice (some aa) nl c1,.slice p2 l2 c2,.slice p3 l3 c3]) (t1:=133) (AL);have Df:N<=w.heap.size:=hM.own.sz;have hBN:B<=N:=by have:=hM.own.ge;have:=hM.own.lt;omega
 go_enter func53,ntmps53;generalize Cr:w.alloc (.cells #[.int .i64 22,.string dst,.string nm,.slice (some aa) nl c1,.slice p2 l2 c2,.slice p3 l3 c3] 133)=W at*;replace hM:=hM.kp (hb1.mono Df);obtain⟨FB,cap,bm,hT,-⟩:=hM.top hfr hl;have hw0:=AB h0 hb1;replace d0:=AA hw0 d0;replace d1:=AA hw0 d1;replace d2:=AA hw0 d2;have hva:=fun v (hT:DX v M FB rest.length cap bm x)=>Cm hT a hka;generalize Yt:Ar x.vars a=ua at*;obtain⟨i0,i1,i2,i3,i4,i5⟩:=hI.c6;have hcv:=fun v=>X6 ua.2 v;generalize hcn:MR ua.2=cn at*;have Db:Below B w W:=hb1.mono (by omega);go_wp2;refine AO (S:=Ah 11 (fun v=>AA6 W v) (fun v=>Am v B N M k (BP s rest x dst (Ao,cn)) j/\Below B W v)) rfl (by kernel_rfl) (Ah.start Ac) ?_;(apply Ab.z rfl;intro L w1 _ _ _ z hK;go_simp;exact hK (z.s.pass rfl);rfl);(apply Ab.z rfl;intro L w1 _ _ _ z hK;(have hI:=z.s.1 (z.r 11 1 (by kernel_rfl) z.i);have b0:=AA hI i0;have b1:=AA hI i1;have b2:=AA hI i2;have b3:=AA hI i3;have b4:=AA hI i4;have b5:=AA hI i5);go_simp;exact hK (z.s.pass rfl);rfl);iterate 2((apply Ab.z rfl;intro L w1 _ _ _ z hK;go_simp;exact hK (z.s.pass rfl);rfl))
 (apply Ab.z rfl;intro L w1 _ _ _ z hK;(have hI:=z.s.1 (z.r 11 9 (by kernel_rfl)<|z.r 9 7 (by kernel_rfl)<|(z.r 7 6 (by kernel_rfl) (z.r 6 5 (by kernel_rfl) (z.r 5 4 (by kernel_rfl) z.i))));have b3:=AA hI i3);go_simp;exact hK (z.s.pass rfl);rfl);(apply Ab.z rfl;intro L w1 _ _ _ z hK;go_simp;exact hK (z.s.pass rfl);rfl);(apply Ab.z rfl;intro L w1 _ _ _ z hK;(have hI:=z.s.1 (z.r 11 9 (by kernel_rfl)<|z.r 9 7 (by kernel_rfl)<|(z.r 7 6 (by kernel_rfl) z.i));have m0:=AA hI d0;have m1:=AA hI d1;have m2:=AA hI d2);go_simp;exact hK (z.s.pass rfl);rfl);(apply Ab.y rfl;intro L w1 _ _ z hK;go_simp;go_wp2_with((refine(hva _ (hT.kp (z.s.1 (z.r 11 9 (by kernel_rfl)<|z.r 9 7 (by kernel_rfl)<|z.i)))).mono ?_;rintro e w3 ⟨rfl,hb⟩));(try simp only[pE]);exact hK.out _ (Ah.keep (z.r 11 9 (by kernel_rfl)<|z.r 9 7 (by kernel_rfl)<|z.i) (AB (z.s.1 (z.r 11 9 (by kernel_rfl)<|z.r 9 7 (by kernel_rfl)<|z.i)) hb) rfl);rfl);(apply Ab.z rfl;intro L w1 _ _ _ z hK;go_simp;exact hK (z.s.pass rfl);rfl);(apply Ab.y rfl;intro L w1 _ _ z hK;go_simp;go_wp2_with((refine(hcv _).mono ?_;rintro e w3 ⟨rfl,rfl⟩));(try simp only[pE]);exact hK.out _ (Ah.keep (z.r 11 9 (by kernel_rfl) z.i) (z.s.1 (z.r 11 9 (by kernel_rfl) z.i)) rfl);rfl);(apply Ab.z rfl;intro L w1 _ _ _ z hK;go_simp;exact hK (z.s.pass rfl);rfl);(apply Ab.y rfl;intro L w1 _ _ z hK;go_simp;go_wp2_with((refine(Co (hM.kp ((z.s.1 z.i).mono hM.own.sz)) hfr hl hx 22 dst nm (some aa) p2 p3 nl l2 l3 c1 c2 c3 (Ao,cn)).mono ?_;rintro e w3 ⟨rfl,hm,hb⟩));(try simp only[pE]);exact hK.out _ (Ah.done ⟨hm,(z.s.1 z.i).mono (AX hBN hM.own.sz)|>.trans hb⟩);rfl);refine Ab.nil fun w6 H6=>?_;obtain⟨hm,hb⟩:=H6.2 rfl;go_wp2;go_end0;exact⟨rfl,⟨_,hm⟩,Db.trans hb⟩
theorem Yj{k:Hd}{j:Int}{i:Is}(h:Qd w0 w B N M k s j rest x i p1 c1)(has:i.as=a::r)(hop:i.op=23)(hr:Bo (Ar x.vars a).2):Calls prog 53 #[.pointer (some ⟨M,0,none⟩),.agg #[.int .i64 i.op,.string i.d,.string i.n,.slice p1 i.as.length c1,.slice p2 l2 c2,.slice p3 l3 c3]] w (BI B M k (BP s rest x i.d (BA,CU (Ar x.vars a).2)) j w):=by
 obtain⟨h0,hA,hM,hfr,hl,hx,hin,hk⟩:=h;obtain⟨pa,ca,hpa,-,-,hA⟩:=hA;have hka:NZ a:=hk a (by rw[has];simp);obtain⟨aa,e1,d0,⟨d1,-⟩,d2⟩:=hA 0 a (by rw[has];rfl);obtain⟨nl,hnl,hn0⟩:∃nl:Nat,i.as.length=nl/\(0:Int)<nl:=⟨i.as.length,rfl,by rw[has];simp⟩;have ZO:0<nl:=by omega
 rw[hnl]at hpa hin⊢;rw[hop];obtain⟨rfl,rfl⟩:p1=pa/\c1=ca:=by simpa using hpa
 subst e1;replace d0:w0.cell? aa=some (.int .i64 a.k):=d0;replace d1:w0.cell? ⟨aa.block,aa.off+1,none⟩=some (.string a.s):=d1;replace d2:w0.cell? ⟨aa.block,aa.off+2,none⟩=some (.int .i64 a.n):=d2;generalize i.d=dst at*;generalize i.n=nm at*;obtain⟨hI,hb1⟩:=BR (w:=w) (c1:=[.int .i64 23,.string dst,.string nm,.slice (some aa) nl c1,.slice p2 l2 c2,.slice p3 l3 c3]) (t1:=133) (AL);have Df:N<=w.heap.size:=hM.own.sz;have hBN:B<=N:=by have:=hM.own.ge;have:=hM.own.lt;omega
 go_enter func53,ntmps53;generalize Cr:w.alloc (.cells #[.int .i64 23,.string dst,.string nm,.slice (some aa) nl c1,.slice p2 l2 c2,.slice p3 l3 c3] 133)=W at*;replace hM:=hM.kp (hb1.mono Df);obtain⟨FB,cap,bm,hT,-⟩:=hM.top hfr hl;have hw0:=AB h0 hb1;replace d0:=AA hw0 d0;replace d1:=AA hw0 d1;replace d2:=AA hw0 d2;have hva:=fun v (hT:DX v M FB rest.length cap bm x)=>Cm hT a hka;generalize Yt:Ar x.vars a=ua at*;obtain⟨i0,i1,i2,i3,i4,i5⟩:=hI.c6;have hcv:=fun v=>XK ua.2 v hr.1 hr.2;generalize hcn:CU ua.2=cn at*;have Db:Below B w W:=hb1.mono (by omega);go_wp2;refine AO (S:=Ah 11 (fun v=>AA6 W v) (fun v=>Am v B N M k (BP s rest x dst (BA,cn)) j/\Below B W v)) rfl (by kernel_rfl) (Ah.start Ac) ?_;(apply Ab.z rfl;intro L w1 _ _ _ z hK;go_simp;exact hK (z.s.pass rfl);rfl);(apply Ab.z rfl;intro L w1 _ _ _ z hK;(have hI:=z.s.1 (z.r 11 1 (by kernel_rfl) z.i);have b0:=AA hI i0;have b1:=AA hI i1;have b2:=AA hI i2;have b3:=AA hI i3;have b4:=AA hI i4;have b5:=AA hI i5);go_simp;exact hK (z.s.pass rfl);rfl);iterate 2((apply Ab.z rfl;intro L w1 _ _ _ z hK;go_simp;exact hK (z.s.pass rfl);rfl))
 (apply Ab.z rfl;intro L w1 _ _ _ z hK;(have hI:=z.s.1 (z.r 11 9 (by kernel_rfl)<|z.r 9 7 (by kernel_rfl)<|(z.r 7 6 (by kernel_rfl) (z.r 6 5 (by kernel_rfl) (z.r 5 4 (by kernel_rfl) z.i))));have b3:=AA hI i3);go_simp;exact hK (z.s.pass rfl);rfl);(apply Ab.z rfl;intro L w1 _ _ _ z hK;go_simp;exact hK (z.s.pass rfl);rfl);(apply Ab.z rfl;intro L w1 _ _ _ z hK;(have hI:=z.s.1 (z.r 11 9 (by kernel_rfl)<|z.r 9 7 (by kernel_rfl)<|(z.r 7 6 (by kernel_rfl) z.i));have m0:=AA hI d0;have m1:=AA hI d1;have m2:=AA hI d2);go_simp;exact hK (z.s.pass rfl);rfl);(apply Ab.y rfl;intro L w1 _ _ z hK;go_simp;go_wp2_with((refine(hva _ (hT.kp (z.s.1 (z.r 11 9 (by kernel_rfl)<|z.r 9 7 (by kernel_rfl)<|z.i)))).mono ?_;rintro e w3 ⟨rfl,hb⟩));(try simp only[pE]);exact hK.out _ (Ah.keep (z.r 11 9 (by kernel_rfl)<|z.r 9 7 (by kernel_rfl)<|z.i) (AB (z.s.1 (z.r 11 9 (by kernel_rfl)<|z.r 9 7 (by kernel_rfl)<|z.i)) hb) rfl);rfl);(apply Ab.z rfl;intro L w1 _ _ _ z hK;go_simp;exact hK (z.s.pass rfl);rfl);(apply Ab.y rfl;intro L w1 _ _ z hK;go_simp;go_wp2_with((refine(hcv _).mono ?_;rintro e w3 ⟨rfl,rfl⟩));(try simp only[pE]);exact hK.out _ (Ah.keep (z.r 11 9 (by kernel_rfl) z.i) (z.s.1 (z.r 11 9 (by kernel_rfl) z.i)) rfl);rfl);(apply Ab.z rfl;intro L w1 _ _ _ z hK;go_simp;exact hK (z.s.pass rfl);rfl);(apply Ab.y rfl;intro L w1 _ _ z hK;go_simp;go_wp2_with((refine(Co (hM.kp ((z.s.1 z.i).mono hM.own.sz)) hfr hl hx 23 dst nm (some aa) p2 p3 nl l2 l3 c1 c2 c3 (BA,cn)).mono ?_;rintro e w3 ⟨rfl,hm,hb⟩));(try simp only[pE]);exact hK.out _ (Ah.done ⟨hm,(z.s.1 z.i).mono (AX hBN hM.own.sz)|>.trans hb⟩);rfl);refine Ab.nil fun w6 H6=>?_;obtain⟨hm,hb⟩:=H6.2 rfl;go_wp2;go_end0;exact⟨rfl,⟨_,hm⟩,Db.trans hb⟩
end
theorem Yh{k:Hd}{j:Int}{i:Is}(h:Qd w0 w B N M k s j rest x i p1 c1){b:Ag}(has:i.as=a::b::r)(hop:i.op=28):Calls prog 53 #[.pointer (some ⟨M,0,none⟩),.agg #[.int .i64 i.op,.string i.d,.string i.n,.slice p1 i.as.length c1,.slice p2 l2 c2,.slice p3 l3 c3]] w (BI B M k (BP s rest x i.d (BA,if(Ar x.vars a).2=(Ar x.vars b).2 then 1 else 0)) j w):=by
 obtain⟨h0,hA,hM,hfr,hl,hx,hin,hk⟩:=h;obtain⟨pa,ca,hpa,-,-,hA⟩:=hA;have hka:NZ a:=hk a (by rw[has];simp);obtain⟨aa,e1,d0,⟨d1,-⟩,d2⟩:=hA 0 a (by rw[has];rfl);have hkb:NZ b:=hk b (by rw[has];simp);obtain⟨xJ,e2,g0,⟨g1,-⟩,g2⟩:=hA 1 b (by rw[has];rfl);obtain⟨nl,hnl,hn0,hn1⟩:∃nl:Nat,i.as.length=nl/\(0:Int)<nl/\(1:Int)<nl:=⟨i.as.length,rfl,by rw[has];simp;omega,by rw[has];simp;omega⟩;have ZO:0<nl:=by omega
 have hn1':1<nl:=by omega
 rw[hnl]at hpa hin⊢;rw[hop];obtain⟨rfl,rfl⟩:p1=pa/\c1=ca:=by simpa using hpa
 subst e1;obtain rfl:aa=xJ:=by simpa using e2
 replace d0:w0.cell? aa=some (.int .i64 a.k):=d0;replace d1:w0.cell? ⟨aa.block,aa.off+1,none⟩=some (.string a.s):=d1;replace g0:w0.cell? ⟨aa.block,aa.off+3,none⟩=some (.int .i64 b.k):=g0;replace g1:w0.cell? ⟨aa.block,aa.off+3+1,none⟩=some (.string b.s):=g1;replace g2:w0.cell? ⟨aa.block,aa.off+3+2,none⟩=some (.int .i64 b.n):=g2;replace d2:w0.cell? ⟨aa.block,aa.off+2,none⟩=some (.int .i64 a.n):=d2;generalize i.d=dst at*;generalize i.n=nm at*;obtain⟨hI,hb1⟩:=BR (w:=w) (c1:=[.int .i64 28,.string dst,.string nm,.slice (some aa) nl c1,.slice p2 l2 c2,.slice p3 l3 c3]) (t1:=133) (AL);have Df:N<=w.heap.size:=hM.own.sz;have hBN:B<=N:=by have:=hM.own.ge;have:=hM.own.lt;omega
 go_enter func53,ntmps53;generalize Cr:w.alloc (.cells #[.int .i64 28,.string dst,.string nm,.slice (some aa) nl c1,.slice p2 l2 c2,.slice p3 l3 c3] 133)=W at*;replace hM:=hM.kp (hb1.mono Df);obtain⟨FB,cap,bm,hT,-⟩:=hM.top hfr hl;have hw0:=AB h0 hb1;replace d0:=AA hw0 d0;replace d1:=AA hw0 d1;replace d2:=AA hw0 d2;replace g0:=AA hw0 g0;replace g1:=AA hw0 g1;replace g2:=AA hw0 g2;have hva:=fun v (hT:DX v M FB rest.length cap bm x)=>Cm hT a hka;have hvb:=fun v (hT:DX v M FB rest.length cap bm x)=>Cm hT b hkb;generalize Yt:Ar x.vars a=ua at*;generalize hub:Ar x.vars b=ub at*;have hsm:=fun v=>bW ua ub v;generalize hcn:(if ua.2=ub.2 then(1:Int)else 0)=cn at*;obtain⟨i0,i1,i2,i3,i4,i5⟩:=hI.c6;have Db:Below B w W:=hb1.mono (by omega);go_wp2;refine AO (S:=Ah 15 (fun v=>AA6 W v) (fun v=>Am v B N M k (BP s rest x dst (BA,cn)) j/\Below B W v)) rfl (by kernel_rfl) (Ah.start Ac) ?_;(apply Ab.z rfl;intro L w1 _ _ _ z hK;go_simp;exact hK (z.s.pass rfl);rfl);(apply Ab.z rfl;intro L w1 _ _ _ z hK;(have hI:=z.s.1 (z.r 15 1 (by kernel_rfl) z.i);have b0:=AA hI i0;have b1:=AA hI i1;have b2:=AA hI i2;have b3:=AA hI i3;have b4:=AA hI i4;have b5:=AA hI i5);go_simp;exact hK (z.s.pass rfl);rfl);iterate 2((apply Ab.z rfl;intro L w1 _ _ _ z hK;go_simp;exact hK (z.s.pass rfl);rfl))
 (apply Ab.z rfl;intro L w1 _ _ _ z hK;(have hI:=z.s.1 (z.r 15 14 (by kernel_rfl) (z.r 14 7 (by kernel_rfl) (z.r 7 6 (by kernel_rfl) (z.r 6 5 (by kernel_rfl) (z.r 5 4 (by kernel_rfl) z.i)))));have b3:=AA hI i3);go_simp;exact hK (z.s.pass rfl);rfl);(apply Ab.z rfl;intro L w1 _ _ _ z hK;go_simp;exact hK (z.s.pass rfl);rfl);(apply Ab.z rfl;intro L w1 _ _ _ z hK;(have hI:=z.s.1 (z.r 15 14 (by kernel_rfl) (z.r 14 7 (by kernel_rfl) (z.r 7 6 (by kernel_rfl) z.i)));have m0:=AA hI d0;have m1:=AA hI d1;have m2:=AA hI d2);go_simp;exact hK (z.s.pass rfl);rfl);(apply Ab.y rfl;intro L w1 _ _ z hK;go_simp;go_wp2_with((refine(hva _ (hT.kp (z.s.1 (z.r 15 14 (by kernel_rfl) (z.r 14 7 (by kernel_rfl) z.i))))).mono ?_;rintro e w3 ⟨rfl,hb⟩));(try simp only[pE]);exact hK.out _ (Ah.keep (z.r 15 14 (by kernel_rfl) (z.r 14 7 (by kernel_rfl) z.i)) (AB (z.s.1 (z.r 15 14 (by kernel_rfl) (z.r 14 7 (by kernel_rfl) z.i))) hb) rfl);rfl);iterate 2((apply Ab.z rfl;intro L w1 _ _ _ z hK;go_simp;exact hK (z.s.pass rfl);rfl))
 (apply Ab.z rfl;intro L w1 _ _ _ z hK;(have hI:=z.s.1 (z.r 15 14 (by kernel_rfl) (z.r 14 13 (by kernel_rfl) (z.r 13 12 (by kernel_rfl) (z.r 12 11 (by kernel_rfl) (z.r 11 10 (by kernel_rfl) z.i)))));have b3:=AA hI i3);go_simp;exact hK (z.s.pass rfl);rfl);(apply Ab.z rfl;intro L w1 _ _ _ z hK;go_simp;exact hK (z.s.pass rfl);rfl);(apply Ab.z rfl;intro L w1 _ _ _ z hK;(have hI:=z.s.1 (z.r 15 14 (by kernel_rfl) (z.r 14 13 (by kernel_rfl) (z.r 13 12 (by kernel_rfl) z.i)));have m0:=AA hI g0;have m1:=AA hI g1;have m2:=AA hI g2);go_simp;exact hK (z.s.pass rfl);rfl);(apply Ab.y rfl;intro L w1 _ _ z hK;go_simp;go_wp2_with((refine(hvb _ (hT.kp (z.s.1 (z.r 15 14 (by kernel_rfl) (z.r 14 13 (by kernel_rfl) z.i))))).mono ?_;rintro e w3 ⟨rfl,hb⟩));(try simp only[pE]);exact hK.out _ (Ah.keep (z.r 15 14 (by kernel_rfl) (z.r 14 13 (by kernel_rfl) z.i)) (AB (z.s.1 (z.r 15 14 (by kernel_rfl) (z.r 14 13 (by kernel_rfl) z.i))) hb) rfl);rfl);(apply Ab.y rfl;intro L w1 _ _ z hK;go_simp;go_wp2_with((refine(hsm _).mono ?_;rintro e w3 ⟨rfl,hb⟩));(try simp only[pE]);exact hK.out _ (Ah.keep (z.r 15 14 (by kernel_rfl) z.i) (AB (z.s.1 (z.r 15 14 (by kernel_rfl) z.i)) hb) rfl);rfl);(apply Ab.y rfl;intro L w1 _ _ z hK;go_simp;go_wp2_with((refine(Co (hM.kp ((z.s.1 z.i).mono hM.own.sz)) hfr hl hx 28 dst nm (some aa) p2 p3 nl l2 l3 c1 c2 c3 (BA,cn)).mono ?_;rintro e w3 ⟨rfl,hm,hb⟩));(try simp only[pE]);exact hK.out _ (Ah.done ⟨hm,(z.s.1 z.i).mono (AX hBN hM.own.sz)|>.trans hb⟩);rfl);refine Ab.nil fun w6 H6=>?_;obtain⟨hm,hb⟩:=H6.2 rfl;go_wp2;go_end0;exact⟨rfl,⟨_,hm⟩,Db.trans hb⟩
theorem jh{P:World->Prop}(hc:Calls prog 78 #[.pointer (some ⟨M,0,none⟩),.agg #[.int .i64 25,.string d,.string n,.slice p1 l1 c1,.slice p2 l2 c2,.slice p3 l3 c3]] (w.alloc (.cells #[.int .i64 25,.string d,.string n,.slice p1 l1 c1,.slice p2 l2 c2,.slice p3 l3 c3] 133)) fun e w'=>e=.returned (.tuple #[])/\P w'):Calls prog 53 #[.pointer (some ⟨M,0,none⟩),.agg #[.int .i64 25,.string d,.string n,.slice p1 l1 c1,.slice p2 l2 c2,.slice p3 l3 c3]] w fun e w'=>e=.returned (.tuple #[])/\P w':=by
 go_enter func53,ntmps53;go_wp2_with fail;refine hc.mono ?_;rintro e w2 ⟨rfl,hP⟩;clear hc;go_wp2;go_end0;exact⟨rfl,hP⟩
theorem Vb{P:World->Prop}(hc:Calls prog 79 #[.pointer (some ⟨M,0,none⟩),.agg #[.int .i64 26,.string d,.string n,.slice p1 l1 c1,.slice p2 l2 c2,.slice p3 l3 c3]] (w.alloc (.cells #[.int .i64 26,.string d,.string n,.slice p1 l1 c1,.slice p2 l2 c2,.slice p3 l3 c3] 133)) fun e w'=>e=.returned (.tuple #[])/\P w'):Calls prog 53 #[.pointer (some ⟨M,0,none⟩),.agg #[.int .i64 26,.string d,.string n,.slice p1 l1 c1,.slice p2 l2 c2,.slice p3 l3 c3]] w fun e w'=>e=.returned (.tuple #[])/\P w':=by
 go_enter func53,ntmps53;go_wp2_with fail;refine hc.mono ?_;rintro e w2 ⟨rfl,hP⟩;clear hc;go_wp2;go_end0;exact⟨rfl,hP⟩
theorem RS{P:World->Prop}(hc:Calls prog 79 #[.pointer (some ⟨M,0,none⟩),.agg #[.int .i64 27,.string d,.string n,.slice p1 l1 c1,.slice p2 l2 c2,.slice p3 l3 c3]] (w.alloc (.cells #[.int .i64 27,.string d,.string n,.slice p1 l1 c1,.slice p2 l2 c2,.slice p3 l3 c3] 133)) fun e w'=>e=.returned (.tuple #[])/\P w'):Calls prog 53 #[.pointer (some ⟨M,0,none⟩),.agg #[.int .i64 27,.string d,.string n,.slice p1 l1 c1,.slice p2 l2 c2,.slice p3 l3 c3]] w fun e w'=>e=.returned (.tuple #[])/\P w':=by
 go_enter func53,ntmps53;go_wp2_with fail;refine hc.mono ?_;rintro e w2 ⟨rfl,hP⟩;clear hc;go_wp2;go_end0;exact⟨rfl,hP⟩
theorem AB1{P:World->Prop}(hc:Calls prog 81 #[.pointer (some ⟨M,0,none⟩),.agg #[.int .i64 29,.string d,.string n,.slice p1 l1 c1,.slice p2 l2 c2,.slice p3 l3 c3]] (w.alloc (.cells #[.int .i64 29,.string d,.string n,.slice p1 l1 c1,.slice p2 l2 c2,.slice p3 l3 c3] 133)) fun e w'=>e=.returned (.tuple #[])/\P w'):Calls prog 53 #[.pointer (some ⟨M,0,none⟩),.agg #[.int .i64 29,.string d,.string n,.slice p1 l1 c1,.slice p2 l2 c2,.slice p3 l3 c3]] w fun e w'=>e=.returned (.tuple #[])/\P w':=by
 go_enter func53,ntmps53;go_wp2_with fail;refine hc.mono ?_;rintro e w2 ⟨rfl,hP⟩;clear hc;go_wp2;go_end0;exact⟨rfl,hP⟩
theorem XM{P:World->Prop}(hc:Calls prog 81 #[.pointer (some ⟨M,0,none⟩),.agg #[.int .i64 30,.string d,.string n,.slice p1 l1 c1,.slice p2 l2 c2,.slice p3 l3 c3]] (w.alloc (.cells #[.int .i64 30,.string d,.string n,.slice p1 l1 c1,.slice p2 l2 c2,.slice p3 l3 c3] 133)) fun e w'=>e=.returned (.tuple #[])/\P w'):Calls prog 53 #[.pointer (some ⟨M,0,none⟩),.agg #[.int .i64 30,.string d,.string n,.slice p1 l1 c1,.slice p2 l2 c2,.slice p3 l3 c3]] w fun e w'=>e=.returned (.tuple #[])/\P w':=by
 go_enter func53,ntmps53;go_wp2_with fail;refine hc.mono ?_;rintro e w2 ⟨rfl,hP⟩;clear hc;go_wp2;go_end0;exact⟨rfl,hP⟩
theorem ji{P:World->Prop}(hc:Calls prog 82 #[.pointer (some ⟨M,0,none⟩),.agg #[.int .i64 31,.string d,.string n,.slice p1 l1 c1,.slice p2 l2 c2,.slice p3 l3 c3]] (w.alloc (.cells #[.int .i64 31,.string d,.string n,.slice p1 l1 c1,.slice p2 l2 c2,.slice p3 l3 c3] 133)) fun e w'=>e=.returned (.tuple #[])/\P w'):Calls prog 53 #[.pointer (some ⟨M,0,none⟩),.agg #[.int .i64 31,.string d,.string n,.slice p1 l1 c1,.slice p2 l2 c2,.slice p3 l3 c3]] w fun e w'=>e=.returned (.tuple #[])/\P w':=by
 go_enter func53,ntmps53;go_wp2_with fail;refine hc.mono ?_;rintro e w2 ⟨rfl,hP⟩;clear hc;go_wp2;go_end0;exact⟨rfl,hP⟩
theorem rX{P:World->Prop}(hc:Calls prog 83 #[.pointer (some ⟨M,0,none⟩),.agg #[.int .i64 32,.string d,.string n,.slice p1 l1 c1,.slice p2 l2 c2,.slice p3 l3 c3]] (w.alloc (.cells #[.int .i64 32,.string d,.string n,.slice p1 l1 c1,.slice p2 l2 c2,.slice p3 l3 c3] 133)) fun e w'=>e=.returned (.tuple #[])/\P w'):Calls prog 53 #[.pointer (some ⟨M,0,none⟩),.agg #[.int .i64 32,.string d,.string n,.slice p1 l1 c1,.slice p2 l2 c2,.slice p3 l3 c3]] w fun e w'=>e=.returned (.tuple #[])/\P w':=by
 go_enter func53,ntmps53;go_wp2_with fail;refine hc.mono ?_;rintro e w2 ⟨rfl,hP⟩;clear hc;go_wp2;go_end0;exact⟨rfl,hP⟩
theorem AB0{P:World->Prop}(hc:Calls prog 85 #[.pointer (some ⟨M,0,none⟩),.agg #[.int .i64 34,.string d,.string n,.slice p1 l1 c1,.slice p2 l2 c2,.slice p3 l3 c3]] (w.alloc (.cells #[.int .i64 34,.string d,.string n,.slice p1 l1 c1,.slice p2 l2 c2,.slice p3 l3 c3] 133)) fun e w'=>e=.returned (.tuple #[])/\P w'):Calls prog 53 #[.pointer (some ⟨M,0,none⟩),.agg #[.int .i64 34,.string d,.string n,.slice p1 l1 c1,.slice p2 l2 c2,.slice p3 l3 c3]] w fun e w'=>e=.returned (.tuple #[])/\P w':=by
 go_enter func53,ntmps53;go_wp2_with fail;refine hc.mono ?_;rintro e w2 ⟨rfl,hP⟩;clear hc;go_wp2;go_end0;exact⟨rfl,hP⟩
theorem XL{op:Int}(hop:1<=op/\op<=21){P:World->Prop}(hc:Calls prog 86 #[.pointer (some ⟨M,0,none⟩),.agg #[.int .i64 op,.string d,.string n,.slice p1 l1 c1,.slice p2 l2 c2,.slice p3 l3 c3]] (w.alloc (.cells #[.int .i64 op,.string d,.string n,.slice p1 l1 c1,.slice p2 l2 c2,.slice p3 l3 c3] 133)) fun e w'=>e=.returned (.tuple #[])/\P w'):Calls prog 53 #[.pointer (some ⟨M,0,none⟩),.agg #[.int .i64 op,.string d,.string n,.slice p1 l1 c1,.slice p2 l2 c2,.slice p3 l3 c3]] w fun e w'=>e=.returned (.tuple #[])/\P w':=by
 have no:∀k:Int,22<=k->(op==k)=false:=fun k hk=>by simp;omega
 have n22:=no 22 (by decide);have n23:=no 23 (by decide);have n24:=no 24 (by decide);have n25:=no 25 (by decide);have n26:=no 26 (by decide);have n27:=no 27 (by decide);have n28:=no 28 (by decide);have n29:=no 29 (by decide);have n30:=no 30 (by decide);have n31:=no 31 (by decide);have n32:=no 32 (by decide);have n33:=no 33 (by decide);have n34:=no 34 (by decide);go_enter func53,ntmps53;go_wp2_with fail;refine hc.mono ?_;rintro e w2 ⟨rfl,hP⟩;go_wp2;go_end0;exact⟨rfl,hP⟩
theorem Am.cut{k:Hd}{j:Int}(h:Am w B N M k s j)(hfr:s.frames=rest++[x]):∃FB cap,w.cell? ⟨M,9,none⟩=some (.slice (some ⟨FB,0,none⟩) (rest.length+1) cap)/\rest.length+1<=cap/\Am (w.setCell ⟨M,9,none⟩ (.slice (some ⟨FB,0,none⟩) rest.length cap)) B N M k {s with frames:=rest} j:=by
 have hSt:Eh s=.agg ([dN s.status,C9 s.result,dN s.code]++ .row 84 4 (rest.map Kw++[Kw x])::[.row 119 2 (s.heap.map Ld),.row 34 2 (s.globals.map C9),
   .row 59 4 (s.trace.map Qc),.row 2 1 (s.marks.map dN),dN s.allocs,dN s.steps,dN s.guards,dN s.asked]):=by
  unfold Eh;rw[hfr];simp
 have s0:=h.st;rw[hSt]at s0;have s1:=s0.agg;obtain⟨FB,cap,c9,hcap,ho⟩:=s1.cut;rw[List.length_map]at c9 hcap ho;refine⟨FB,cap,?_,hcap,?_⟩
 ·simpa[Dt.DF,Dt.wd,dN,C9,dS]using c9
 ·have:=h.of (v:=.slice (some ⟨FB,0,none⟩) rest.length cap) (a:=⟨M,9,none⟩) (s':={s with frames:=rest}) (j':=j) (by simpa[Dt.DF,Dt.wd,dN,C9,dS]using ho) (by unfold dM Eh;simp[dN,C9,dS]);exact this
def Ej(i j:Nat)(w0 w1 w2:World)(L:Nat->Bool)(v:World):Prop:=v=if L j=true then w2 else if L i=true then w1 else w0
theorem Ej.start:Ej i j w0 w1 w2 (fun _=>false) w0:=rfl
theorem Ej.keep(h:Ej i j w0 w1 w2 L v){m:Nat}(h1:(i==m)=false)(h2:(j==m)=false):Ej i j w0 w1 w2 (upd L m) v:=by simp_all[Ej,upd]
theorem Ej.s0(h:Ej i j w0 w1 w2 L v)(h1:L i=false)(h2:L j=false):v=w0:=by grind [Ej]
theorem Ej.s1(h:Ej i j w0 w1 w2 L v)(h1:L i=true)(h2:L j=false):v=w1:=by grind [Ej]
theorem Ej.s2(h:Ej i j w0 w1 w2 L v)(h2:L j=true):v=w2:=by grind [Ej]
theorem Ej.low(h:Ej i j w0 w1 w2 L v)(h2:L j=false){X:World->Prop}(x0:X w0)(x1:X w1):X v:=by grind [Ej]
theorem Ej.t1(h1:(j==i)=false)(h2:L j=false):Ej i j w0 w1 w2 (upd L i) w1:=by simp_all[Ej,upd]
theorem Ej.t2:Ej i j w0 w1 w2 (upd L j) w2:=by simp[Ej,upd]
theorem eZ{k:Hd}{j:Int}(hM:Am w B N M k s j)(hfr:s.frames=[]++[x])(v:Vu):Calls prog 88 #[.pointer (some ⟨M,0,none⟩),Kn v] w (BI B M k {s with frames:=[],status:=1,result:=v} j w):=by
 obtain⟨hV,hb1⟩:=BR (w:=w) (c1:=[.string v.1,.int .i64 v.2]) (t1:=34) (AL);have Df:N<=w.heap.size:=hM.own.sz;have hBN:B<=N:=by have:=hM.own.ge;have:=hM.own.lt;omega
 go_enter func88,ntmps88;generalize Cr:w.alloc (.cells #[.string v.1,.int .i64 v.2] 34)=W at*;replace hM:=hM.kp (hb1.mono Df);have Db:Below B w W:=hb1.mono (by omega);have pW:=hM.kp (Al (w:=W) 1|>.mono hM.own.sz);obtain⟨FB,cap,c9,hcap,hM2⟩:=pW.cut hfr;have fz:=pW.Bw 9;change W.drew.cell? _=_ at c9;change W.drew.frozen? _=_ at fz;change Am (W.drew.setCell _ _) _ _ _ _ _ _ at hM2;go_wp2;refine AO (S:=Ah 17 (fun v=>v=W.drew) (fun v=>v=W.drew.setCell ⟨M,9,none⟩ (.slice (some ⟨FB,0,none⟩) 0 cap))) rfl (by kernel_rfl) (Ah.start rfl) ?_;iterate 17(first|(apply Ab.z rfl;intro L w1 _ _ _ z hK;go_simp;exact hK (z.s.pass rfl);rfl)|(apply Ab.z rfl;intro L w1 _ _ _ z hK;(obtain rfl:=(z.s.1 (z.o 17 (by kernel_rfl))));go_simp;exact hK (z.s.pass rfl);rfl))
 (refine Ab.step (a1:=?_) rfl (fun L w1 K' Q' hS hi hR hd hK=>?_) ?_ ?_;rotate_left)
 ·obtain rfl:=hS.1 hi;go_simp;exact hK.out _ (Ah.done rfl)
 ·rfl
 refine Ab.nil fun w3 WQ=>?_;have hw3:=WQ.2 rfl;have GX:Ae w3 w.heap.size [.string v.1,.int .i64 v.2]:=by
  rw[hw3];refine hV.drew.far (q:=⟨M,9,none⟩) ?_ _;have:=hM.own.lt;dsimp only;omega
 have hb3:Below B W w3:=by
  rw[hw3];exact Ac.setCell (p:=⟨M,9,none⟩) hM.own.ge _
 rw[List.length_nil,<-hw3]at hM2;have c93:w3.cell? ⟨M,9,none⟩=some (.slice (some ⟨FB,0,none⟩) 0 cap):=by
  rw[hw3];exact World.cell?_setCell_same _ _ _ c9
 have hlt:=hM.own.lt;have hMv:M≠w.heap.size:=by omega
 replace Db:=Db.trans hb3;clear WQ hw3 hV hb1 hM pW Cr c9 fz hb3;go_wp2;have hA:=hM2.kp (Al (w:=w3) 1|>.mono hM2.own.sz);have hA1:=hA.ER 1;have hA2:=hA1.UW v;have hbl:=((Below.refl B w3).drew.setCell (p:=⟨M,5,none⟩) hA.own.ge (.int .i64 1)).setCell (p:=⟨M,6,none⟩) hA.own.ge (.string v.1)|>.setCell (p:=⟨M,7,none⟩) hA.own.ge (.int .i64 v.2);obtain⟨n5,-⟩:=hA.ns;obtain⟨q5,q6,q7,-⟩:=hM2.ns;have g5:=hM2.Bw 5;have g6:=hM2.Bw 6;have g7:=hM2.Bw 7;obtain⟨-,m6,m7,-⟩:=hA1.ns;have vW:=hA.Bw 5;have fz6:=hA1.Bw 6;have fz7:=hA1.Bw 7;obtain⟨v0,v1⟩:=(GX.drew).c2;obtain⟨v0',v1'⟩:=((GX.drew).far (q:=⟨M,5,none⟩) hMv (.int .i64 1)).c2;change (w3.drew).cell? _=_ at n5;change (w3.drew).frozen? _=_ at vW;change (w3.drew.setCell _ _).cell? _=_ at m6 m7;change (w3.drew.setCell _ _).frozen? _=_ at fz6 fz7;refine AO (S:=Ej 6 10 w3.drew (w3.drew.setCell ⟨M,5,none⟩ (.int .i64 1)) (((w3.drew.setCell ⟨M,5,none⟩ (.int .i64 1)).setCell ⟨M,6,none⟩ (.string v.1)).setCell ⟨M,7,none⟩ (.int .i64 v.2))) rfl (by kernel_rfl) Ej.start ?_;iterate 2((apply Ab.z rfl;intro L w1 _ _ _ z hK;go_simp;exact hK (z.s.keep rfl rfl);rfl))
 (apply Ab.z rfl;intro L w1 _ _ _ z hK;(have x0:=z.s.low (z.r 10 2 (by kernel_rfl) z.i) (X:=fun u=>u.cell? ⟨w.heap.size,0,none⟩=some (.string v.1)) v0 v0';have x1:=z.s.low (z.r 10 2 (by kernel_rfl) z.i) (X:=fun u=>u.cell? ⟨w.heap.size,1,none⟩=some (.int .i64 v.2)) v1 v1');go_simp;exact hK (z.s.keep rfl rfl);rfl);iterate 3((apply Ab.z rfl;intro L w1 _ _ _ z hK;go_simp;exact hK (z.s.keep rfl rfl);rfl))
 (refine Ab.step (a1:=?_) rfl (fun L w1 K' Q' hS hi hR hd hK=>?_) ?_ ?_;rotate_left)
 ·have h10:=hR.out 10 6 (by kernel_rfl) hi;obtain rfl:=hS.s0 hi h10;go_simp;exact hK.out _ (Ej.t1 rfl h10)
 ·rfl
 iterate 3((apply Ab.z rfl;intro L w1 _ _ _ z hK;go_simp;exact hK (z.s.keep rfl rfl);rfl))
 (refine Ab.step (a1:=?_) rfl (fun L w1 K' Q' hS hi hR hd hK=>?_) ?_ ?_;rotate_left)
 ·have h6:=hd.out 6 (by kernel_rfl);obtain rfl:=hS.s1 h6 hi;go_simp;exact hK.out _ Ej.t2
 ·rfl
 refine Ab.nil fun w4 Bb=>?_;have hw4:=Bb.s2 rfl;have AEF:Below B w3 w4:=by rw[hw4];exact hbl
 have hA3:Am w4 B N M k {s with frames:=[],status:=1,result:=v} j:=by rw[hw4];exact hA2
 clear Bb hw4 hbl q5 q6 q7 g5 g6 g7 hA hA1 hA2 n5 m6 m7 vW fz6 fz7 v0 v1 v0' v1' GX hM2 c93;go_wp2;go_end0;exact⟨rfl,⟨_,hA3⟩,Db.trans AEF⟩
theorem fK{k:Hd}{j:Int}(hM:Am w B N M k s j)(fn fr:ByteArray)(p1 p2 p3 p4:Option Addr)(l1 c1 l2 c2 l3 c3 l4 c4:Nat)(tk ak:Int)(ar:ByteArray)(an n:Int)(hk:tk=4):Calls prog 54 #[.pointer (some ⟨M,0,none⟩),.agg #[.string fn,.string fr,.slice p1 l1 c1,.slice p2 l2 c2,.slice p3 l3 c3],.agg #[.int .i64 tk,.int .i64 ak,.string ar,.int .i64 an,.slice p4 l4 c4,.int .i64 n]] w (BI B M k (Gd s n) j w):=by
 subst hk;obtain⟨hF,hT,hb2⟩:=Ch (w:=w) (c1:=[.string fn,.string fr,.slice p1 l1 c1,.slice p2 l2 c2,.slice p3 l3 c3]) (c2:=[.int .i64 4,.int .i64 ak,.string ar,.int .i64 an,.slice p4 l4 c4,.int .i64 n]) (t1:=66) (t2:=80) (AL);have Df:N<=w.heap.size:=hM.own.sz;have hBN:B<=N:=by have:=hM.own.ge;have:=hM.own.lt;omega
 have Db:=hb2.mono (AX hBN Df);have htr:=Mg (hM.kp (hb2.mono Df)) n;go_enter func54,ntmps54;go_wp2_with fail;refine htr.mono ?_;rintro e w2 ⟨rfl,hm,hb⟩;go_wp2;go_end0;exact⟨rfl,⟨_,hm⟩,Db.trans hb⟩
theorem l6{k:Hd}{j:Int}(hM:Am w B N M k s j)(hfr:s.frames=rest++[x])(hl:rest.length+1<=140737488351232)(fn fr:ByteArray)(p1 p2 p3 p4:Option Addr)(l1 c1 l2 c2 l3 c3 l4 c4:Nat)(tk n:Int)(a:Ag)(hka:NZ a)(hk:tk=3)(hg:∀v,AA6 w v->Calls prog 88 #[.pointer (some ⟨M,0,none⟩),Kn (Ar x.vars a)] v (BI B M k t j v)):Calls prog 54 #[.pointer (some ⟨M,0,none⟩),.agg #[.string fn,.string fr,.slice p1 l1 c1,.slice p2 l2 c2,.slice p3 l3 c3],.agg #[.int .i64 tk,.int .i64 a.k,.string a.s,.int .i64 a.n,.slice p4 l4 c4,.int .i64 n]] w (BI B M k t j w):=by
 subst hk;obtain⟨hF,hT,hb2⟩:=Ch (w:=w) (c1:=[.string fn,.string fr,.slice p1 l1 c1,.slice p2 l2 c2,.slice p3 l3 c3]) (c2:=[.int .i64 3,.int .i64 a.k,.string a.s,.int .i64 a.n,.slice p4 l4 c4,.int .i64 n]) (t1:=66) (t2:=80) (AL);have Df:N<=w.heap.size:=hM.own.sz;have hBN:B<=N:=by have:=hM.own.ge;have:=hM.own.lt;omega
 have hBw:=AX hBN Df;have hM2:=hM.kp (hb2.mono Df);obtain⟨FB,cap,bm,hTp,-⟩:=hM2.top hfr hl;have hva:=Cm hTp a hka;generalize Yt:Ar x.vars a=ua at*;go_enter func54,ntmps54;go_wp2_with fail;refine hva.mono ?_;rintro e w2 ⟨rfl,hb⟩;have hb3:=AB hb2 hb;have hg2:=hg w2 hb3;go_wp2_with fail;refine hg2.mono ?_;rintro e w3 ⟨rfl,hm,hb4⟩;go_wp2;go_end0;exact⟨rfl,hm,(hb3.mono hBw).trans hb4⟩
theorem Am.way{k:Hd}{j:Int}(h:Am w B N M k s j)(hfr:s.frames=rest++[x]){FB cap b:Nat}(hT:DX w M FB rest.length cap b x)(y:ByteArray):B<=FB/\(w.setCell ⟨FB,rest.length*4+1,none⟩ (.string y)).cell? ⟨FB,rest.length*4+2,none⟩=some (.int .i64 x.i)/\Am ((w.setCell ⟨FB,rest.length*4+1,none⟩ (.string y)).setCell ⟨FB,rest.length*4+2,none⟩ (.int .i64 0)) B N M k {s with frames:=rest++[⟨x.f,y,0,x.vars⟩]} j:=by
 obtain⟨a1,a2,a3,a3',a4,a5,a6⟩:=h.upd hfr hT;have h1:=a5 y;obtain⟨TY,cap',b2,hT',-,-,-,-,hi,-,-⟩:=h1.top rfl hT.l;have z:=(Jp hT.bl hT'.sl).symm.trans hT.sl;grind [Jp,cases Hd,cases St,cases Am,cases Lv,cases DX]
theorem bI{k:Hd}{j:Int}(hM:Am w B N M k s j)(hfr:s.frames=rest++[x])(hl:rest.length+1<=140737488351232)(h0:AA6 w0 w){f1 f2 f3:Value}(hvf:EL w0 (.agg #[.string f.n,.string f.r,f1,f2,f3]) f f1 f2 f3)  {p0:Option Addr} {c0:Nat} {b2 b3:Value} {q:Nat} {a:Addr} (sb:jS w0 f3 f.bs y b (.slice p0 0 c0) b2 b3 q a):Calls prog 87 #[.pointer (some ⟨M,0,none⟩),.agg #[.string f.n,.string f.r,f1,f2,f3],.string y] w (BI B M k {s with frames:=rest++[⟨x.f,y,0,x.vars⟩]} j w):=by
 have hP:=fun v (hw:AA6 w0 v)=>Og hw hvf y;rw[sb.ix]at hP;obtain⟨-,hlt,hn,⟨cb,rfl⟩,-,-,d1,-⟩:=sb;obtain⟨NY,Nb,rfl⟩:=hvf.p.slice;obtain⟨NW,Na,rfl⟩:=hvf.v.slice;generalize f.ps.length=Y3 at*;generalize f.vs.length=Y2 at*;generalize f.bs.length=nb at*;generalize f.n=fn at*;generalize f.r=fr at*;obtain⟨hF,hb1⟩:=BR (w:=w) (c1:=[.string fn,.string fr,.slice NY Y3 Nb,.slice NW Y2 Na,.slice (some a) nb cb]) (t1:=66) (AL);have Df:N<=w.heap.size:=hM.own.sz;have hBN:B<=N:=by have:=hM.own.ge;have:=hM.own.lt;omega
 go_enter func87,ntmps87;generalize Cr:w.alloc (.cells #[.string fn,.string fr,.slice NY Y3 Nb,.slice NW Y2 Na,.slice (some a) nb cb] 66)=W at*;replace hM:=hM.kp (hb1.mono Df);obtain⟨FB,cap,bm,hT,-⟩:=hM.top hfr hl;go_wp2_with fail;refine(He hT.sl hT.l).mono ?_;rintro e w2 ⟨rfl,qq,rfl⟩;have hq:=Al (w:=W) qq;generalize W.drewN qq=W2 at*;replace hM:=hM.kp (hq.mono hM.own.sz);replace hT:=hT.kp hq;replace hF:=hF.nx hq;obtain⟨g0,g1,g2,g3,g4⟩:=hF.c5;have hb2:=hb1.trans (hq.mono hb1.size);go_wp2_with fail;refine(hP _ (AB h0 hb2)).mono ?_;rintro e w3 ⟨hb3,rfl⟩;have gN:=AB (AB h0 hb2) hb3;replace hM:=hM.kp (hb3.mono hM.own.sz);replace hT:=hT.kp hb3;have i4:=AA hb3 g4;replace d1:=AA gN d1;have t3:=hT.v;have t1:=hT.bl;have t2:=hT.i;have tz:=hT.z;have nA:(q:Int)<nb:=by omega
 obtain⟨hBF,t2',hM2⟩:=hM.way hfr hT y;have Db:Below B w w3:=(hb2.trans (hb3.mono hb2.size)).mono (by omega);have hb5:=(Db.setCell (p:=⟨FB,rest.length*4+1,none⟩) hBF (.string y)).setCell (p:=⟨FB,rest.length*4+2,none⟩) hBF (.int .i64 0);go_wp2;go_loopw[46] (fun i wr=>i=.int .i64 0/\wr=w3) (fun _ _=>0);exact⟨rfl,rfl⟩;obtain⟨rfl,rfl⟩:=hrel;go_wp2;go_end0;exact⟨rfl,⟨_,hM2⟩,hb5⟩
theorem fM(h0:AA6 w0 w){k:Hd}{j:Int}(hM:Am w B N M k s j)(fn fr:ByteArray)(p1 p2 p3:Option Addr)(t0:Addr)(l1 c1 l2 c2 l3 c3 l4 c4:Nat)(tk ak:Int)(ar:ByteArray)(an n:Int)(hk:tk=1)(hl4:0<l4)(hc:w0.cell? t0=some (.string y))(hg:∀v,AA6 w v->Calls prog 87 #[.pointer (some ⟨M,0,none⟩),.agg #[.string fn,.string fr,.slice p1 l1 c1,.slice p2 l2 c2,.slice p3 l3 c3],.string y] v (BI B M k t j v)):Calls prog 54 #[.pointer (some ⟨M,0,none⟩),.agg #[.string fn,.string fr,.slice p1 l1 c1,.slice p2 l2 c2,.slice p3 l3 c3],.agg #[.int .i64 tk,.int .i64 ak,.string ar,.int .i64 an,.slice (some t0) l4 c4,.int .i64 n]] w (BI B M k t j w):=by
 subst hk;obtain⟨hF,hT,hb2⟩:=Ch (w:=w) (c1:=[.string fn,.string fr,.slice p1 l1 c1,.slice p2 l2 c2,.slice p3 l3 c3]) (c2:=[.int .i64 1,.int .i64 ak,.string ar,.int .i64 an,.slice (some t0) l4 c4,.int .i64 n]) (t1:=66) (t2:=80) (AL);have Df:N<=w.heap.size:=hM.own.sz;have hBN:B<=N:=by have:=hM.own.ge;have:=hM.own.lt;omega
 have hBw:=AX hBN Df;have iI:(0:Int)<l4:=by omega
 replace hc:=AA (AB h0 hb2) hc;go_enter func54,ntmps54;generalize Cr:World.alloc _ _=W at*;obtain⟨f0,f1,f2,f3,f4⟩:=hF.c5;obtain⟨e0,-,-,-,e4⟩:=hT.c5;go_wp2;refine AO (S:=Ah 6 (fun v=>AA6 W v) (fun v=>(∃N',Am v B N' M k t j)/\Below B w v)) rfl (by kernel_rfl) (Ah.start Ac) ?_;(apply Ab.z rfl;intro L w1 _ _ _ z hK;go_simp;exact hK (z.s.pass rfl);rfl);(apply Ab.z rfl;intro L w1 _ _ _ z hK;(have hI:=z.s.1 (z.r 6 1 (by kernel_rfl) z.i);have b0:=AA hI f0;have b1:=AA hI f1;have b2:=AA hI f2;have b3:=AA hI f3;have b4:=AA hI f4);go_simp;exact hK (z.s.pass rfl);rfl);(apply Ab.z rfl;intro L w1 _ _ _ z hK;go_simp;exact hK (z.s.pass rfl);rfl);(apply Ab.z rfl;intro L w1 _ _ _ z hK;(have hI:=z.s.1 (z.r 6 5 (by kernel_rfl) (z.r 5 4 (by kernel_rfl) (z.r 4 3 (by kernel_rfl) z.i)));have b4:=AA hI e4);go_simp;exact hK (z.s.pass rfl);rfl);(apply Ab.z rfl;intro L w1 _ _ _ z hK;go_simp;exact hK (z.s.pass rfl);rfl);(apply Ab.z rfl;intro L w1 _ _ _ z hK;(have hI:=z.s.1 (z.r 6 5 (by kernel_rfl) z.i);have b5:=AA hI hc);go_simp;exact hK (z.s.pass rfl);rfl);(apply Ab.y rfl;intro L w1 _ _ z hK;go_simp;go_wp2_with((refine(hg _ (hb2.trans ((z.s.1 z.i).mono hb2.size))).mono ?_;rintro e w3 ⟨rfl,hm,hb⟩));(try simp only[pE]);exact hK.out _ (Ah.done ⟨hm,((hb2.trans ((z.s.1 z.i).mono hb2.size)).mono hBw).trans hb⟩);rfl);refine Ab.nil fun w6 H6=>?_;obtain⟨hm,hb⟩:=H6.2 rfl;go_wp2;go_end0;exact⟨rfl,hm,hb⟩
theorem U7(h0:AA6 w0 w){k:Hd}{j:Int}(hM:Am w B N M k s j)(hfr:s.frames=rest++[x])(hl:rest.length+1<=140737488351232)(fn fr:ByteArray)(p1 p2 p3:Option Addr)(t0:Addr)(l1 c1 l2 c2 l3 c3 l4 c4:Nat)(tk n:Int)(a:Ag)(hka:NZ a)(hk:tk=2){y0 y1:ByteArray} (hl4:1<l4) (hc:w0.cell? t0=some (.string y0)) (hc1:w0.cell? ⟨t0.block,t0.off+1,none⟩=some (.string y1)) (hg:∀v,AA6 w v->Calls prog 87 #[.pointer (some ⟨M,0,none⟩),.agg #[.string fn,.string fr,.slice p1 l1 c1,.slice p2 l2 c2,.slice p3 l3 c3],.string (if(Ar x.vars a).2=0 then y1 else y0)] v (BI B M k t j v)):Calls prog 54 #[.pointer (some ⟨M,0,none⟩),.agg #[.string fn,.string fr,.slice p1 l1 c1,.slice p2 l2 c2,.slice p3 l3 c3],.agg #[.int .i64 tk,.int .i64 a.k,.string a.s,.int .i64 a.n,.slice (some t0) l4 c4,.int .i64 n]] w (BI B M k t j w):=by
 subst hk;obtain⟨hF,hT,hb2⟩:=Ch (w:=w) (c1:=[.string fn,.string fr,.slice p1 l1 c1,.slice p2 l2 c2,.slice p3 l3 c3]) (c2:=[.int .i64 2,.int .i64 a.k,.string a.s,.int .i64 a.n,.slice (some t0) l4 c4,.int .i64 n]) (t1:=66) (t2:=80) (AL);have Df:N<=w.heap.size:=hM.own.sz;have hBN:B<=N:=by have:=hM.own.ge;have:=hM.own.lt;omega
 have hBw:=AX hBN Df;have iI:(1:Int)<l4:=by omega
 have AJe:(0:Int)<l4:=by omega
 have hl0:0<l4:=by omega
 have h02:=AB h0 hb2;replace hc:=AA h02 hc;replace hc1:=AA h02 hc1;have hM2:=hM.kp (hb2.mono Df);obtain⟨FB,cap,bm,hTp,-⟩:=hM2.top hfr hl;have hva:=Cm hTp a hka;generalize Yt:Ar x.vars a=ua at*;go_enter func54,ntmps54;generalize Cr:World.alloc _ _=W at*;obtain⟨f0,f1,f2,f3,f4⟩:=hF.c5;obtain⟨e0,e1,e2,e3,e4⟩:=hT.c5;go_wp2_with fail;refine hva.mono ?_;rintro e w3 ⟨he,hb⟩;obtain⟨ut,un⟩:=ua;replace he:e=.returned (.agg #[.string ut,.int .i64 un]):=he;subst he;dsimp only at hg;have FJ:∀w,(Instr.field 34 (.agg #[.string ut,.int .i64 un]) 1).run prog w=.ok (.int .i64 un) w:=fun w=>by first|rfl|(go_simp;done)|(unfold Instr.field;go_simp;done)
 replace f0:=AA hb f0;replace f1:=AA hb f1;replace f2:=AA hb f2;replace f3:=AA hb f3;replace f4:=AA hb f4;replace e4:=AA hb e4;replace hc1:=AA hb hc1;have hb3:=AB hb2 hb;have hg2:=hg _ hb3;by_cases hz:un=0
 ·rw[if_pos hz]at hg2;have hzb:(un==0)=true:=by simpa using hz
  clear hz;go_wp2_with fail;refine hg2.mono ?_;rintro e w4 ⟨rfl,hm,hb4⟩;go_wp2;go_end0;exact⟨rfl,hm,(hb3.mono hBw).trans hb4⟩
 ·rw[if_neg hz]at hg2;have hzb:(un==0)=false:=by simpa using hz
  clear hz;go_wp2_with fail;refine hg2.mono ?_;rintro e w4 ⟨rfl,hm,hb4⟩;go_wp2;go_end0;exact⟨rfl,hm,(hb3.mono hBw).trans hb4⟩
theorem WZ.parts{a:Addr}{x:Is}(h:WZ w a x):∃p1 c1 p2 l2 c2 p3 l3 c3,w.cell? a=some (.int .i64 x.op)/\At w a 1 (.string x.d)/\At w a 2 (.string x.n)/\At w a 3 (.slice p1 x.as.length c1)/\At w a 4 (.slice p2 l2 c2)/\At w a 5 (.slice p3 l3 c3)/\Row Lg 3 w (.slice p1 x.as.length c1) x.as:=by grind [WZ,Row,Lg,cases Is]
theorem YU(h0:AA6 w0 w)(hB0:w0.heap.size<=B){k:Hd}{j:Int}(hM:Am w B N M k s j){y:Lv}(hfr:s.frames=(rest++[y])++[x])(hl:(rest++[y]).length+1<=1000000)(hy:y.i<=1000000)(v:Vu){p:Pg}   {f1 f2 f3 b1 b2 b3:Value} {q:Nat} {a:Addr} (hh:Here w0 p k y f b f1 f2 f3 b1 b2 b3 q a) {i:Is} (hin:b.cs[y.i]? =some i):Calls prog 88 #[.pointer (some ⟨M,0,none⟩),Kn v] w (BI B M k (BP s rest y i.d v) j w):=by
 obtain⟨hV,hb1⟩:=BR (w:=w) (c1:=[.string v.1,.int .i64 v.2]) (t1:=34) (AL);have Df:N<=w.heap.size:=hM.own.sz;have hBN:B<=N:=by have:=hM.own.ge;have:=hM.own.lt;omega
 go_enter func88,ntmps88;generalize Cr:w.alloc (.cells #[.string v.1,.int .i64 v.2] 34)=W at*;replace hM:=hM.kp (hb1.mono Df);have Db:Below B w W:=hb1.mono (by omega);have pW:=hM.kp (Al (w:=W) 1|>.mono hM.own.sz);obtain⟨FB,cap,c9,hcap,hM2⟩:=pW.cut hfr;have fz:=pW.Bw 9;change W.drew.cell? _=_ at c9;change W.drew.frozen? _=_ at fz;change Am (W.drew.setCell _ _) _ _ _ _ _ _ at hM2;have hln:(rest++[y]).length=rest.length+1:=by simp
 generalize hnn:(rest++[y]).length=nn at*;have hI1:((nn+1:Nat):Int)-1=(nn:Int):=by omega
 have hI2:(nn:Int)<=cap:=by omega
 have PW:=wrN (n:=nn) (by omega);have qW:=Wx hln;clear hln hnn;go_wp2;refine AO (S:=Ah 17 (fun v=>v=W.drew) (fun v=>v=W.drew.setCell ⟨M,9,none⟩ (.slice (some ⟨FB,0,none⟩) nn cap))) rfl (by kernel_rfl) (Ah.start rfl) ?_;iterate 17(first|(apply Ab.z rfl;intro L w1 _ _ _ z hK;go_simp;exact hK (z.s.pass rfl);rfl)|(apply Ab.z rfl;intro L w1 _ _ _ z hK;(obtain rfl:=(z.s.1 (z.o 17 (by kernel_rfl))));go_simp;exact hK (z.s.pass rfl);rfl))
 (refine Ab.step (a1:=?_) rfl (fun L w1 K' Q' hS hi hR hd hK=>?_) ?_ ?_;rotate_left)
 ·obtain rfl:=hS.1 hi;go_simp;exact hK.out _ (Ah.done rfl)
 ·rfl
 refine Ab.nil fun w3 WQ=>?_;have hw3:=WQ.2 rfl;have hlt:=hM.own.lt;have GX:Ae w3 w.heap.size [.string v.1,.int .i64 v.2]:=by
  rw[hw3];refine hV.drew.far (q:=⟨M,9,none⟩) ?_ _;dsimp only;omega
 have hb3:Below B W w3:=by
  rw[hw3];exact Ac.setCell (p:=⟨M,9,none⟩) hM.own.ge _
 rw[<-hw3]at hM2;have c93:w3.cell? ⟨M,9,none⟩=some (.slice (some ⟨FB,0,none⟩) nn cap):=by
  rw[hw3];exact World.cell?_setCell_same _ _ _ c9
 replace Db:=Db.trans hb3;have gN:AA6 w0 w3:=h0.trans (Db.mono hB0);have hnz:((nn:Int)==0)=false:=by
  have:=qW.out;simp;omega
 have AJR:¬nn=0:=by have:=qW.out;omega
 have hl2:rest.length+1<=140737488351232:=by have:=qW.out;omega
 have hBl:=PN hM2 (rest:=rest) (x:=y) rfl hl2 gN hh;clear WQ hw3 hV hb1 hM pW Cr c9 fz hb3 hI1 hI2 PW;go_wp2_with fail;refine hBl.mono ?_;rintro e w4 ⟨rfl,hb4⟩;obtain⟨-,-,hvf,-,hvb⟩:=hh;obtain⟨NY,Nb,rfl⟩:=hvf.p.slice;obtain⟨NW,Na,rfl⟩:=hvf.v.slice;obtain⟨uq,Yr,rfl⟩:=hvf.b.slice;obtain⟨gy,iE,rfl⟩:=hvb.p.slice;obtain⟨gZ,iD,rfl⟩:=hvb.t.slice;obtain⟨pc,cc,rfl,-,hnc,hcs⟩:=hvb.c;obtain⟨ai,rfl,hAi⟩:=hcs y.i i hin;have hyl:y.i<b.cs.length:=(List.getElem?_eq_some_iff.1 hin).1;have hyI:(y.i:Int)<b.cs.length:=by omega
 obtain⟨p1,c1,p2,l2,c2,p3,l3,c3,d0,d1,d2,d3,d4,d5,-⟩:=hAi.parts;clear hcs hAi hvf hvb hBl hin;unfold vk;generalize f.ps.length=Y3 at*;generalize f.vs.length=Y2 at*;generalize f.bs.length=nf3 at*;generalize f.n=fn at*;generalize f.r=fr at*;generalize b.ps.length=o7 at*;generalize b.cs.length=oz at*;generalize b.e.to.length=ou at*;generalize b.n=bn at*;generalize b.e.k=bk at*;generalize b.e.a.k=bak at*;generalize b.e.a.s=qF at*;generalize b.e.a.n=ban at*;generalize b.e.n=qE at*;obtain⟨hF,hBx,hb5⟩:=Ch (w:=w4) (c1:=[.string fn,.string fr,.slice NY Y3 Nb,.slice NW Y2 Na,.slice uq nf3 Yr]) (c2:=[.string bn,.slice gy o7 iE,.slice (some ai) oz cc,.int .i64 bk,.int .i64 bak,.string qF,.int .i64 ban,.slice gZ ou iD,.int .i64 qE]) (t1:=66) (t2:=82) (AL);have jI:=AB hb4 hb5;go_wp2;generalize pR:World.alloc _ _=W5 at*;have Ku:=gN.trans (jI.mono gN.size);replace GX:=GX.nx jI;replace hM2:=hM2.kp (jI.mono hM2.own.sz);have TQ:N<=W5.heap.size:=hM2.own.sz;replace Db:Below B w W5:=Db.trans (jI.mono (AX hBN (AX Df Db.size)));obtain⟨vo,cap2,bm,hT,-⟩:=hM2.top (rest:=rest) (x:=y) rfl hl2;have x2:=hBx.c 2 _ rfl;obtain⟨v0,v1⟩:=GX.c2;replace d0:=AA Ku d0;replace d1:=AA Ku d1;replace d2:=AA Ku d2;replace d3:=AA Ku d3;replace d4:=AA Ku d4;replace d5:=AA Ku d5;have hset:=fun u (hu:AA6 W5 u)=>Co (hM2.kp (hu.mono hM2.own.sz)) (rest:=rest) (x:=y) rfl hl2 hy i.op i.d i.n p1 p2 p3 i.as.length l2 l3 c1 c2 c3 v;have hst:BP {s with frames:=rest++[y]} rest y i.d v=BP s rest y i.d v:=rfl;rw[hst]at hset;generalize i.op=iop at*;generalize i.d=dst at*;generalize i.n=nm at*;generalize i.as.length=nas at*;refine AO (S:=Ah 11 (fun u=>AA6 W5 u) (fun u=>Am u B N M k (BP s rest y dst v) j/\Below B W5 u)) rfl (by kernel_rfl) (Ah.start Ac) ?_;iterate 2((apply Ab.z rfl;intro L w1 _ _ _ z hK;go_simp;exact hK (z.s.pass rfl);rfl))
 (apply Ab.z rfl;intro L w1 _ _ _ z hK;(have hI:=z.s.1 (z.r 11 9 (by kernel_rfl) (z.r 9 8 (by kernel_rfl) (z.r 8 2 (by kernel_rfl) z.i)));have m2:=AA hI x2);go_simp;exact hK (z.s.pass rfl);rfl);(apply Ab.z rfl;intro L w1 _ _ _ z hK;go_simp;exact hK (z.s.pass rfl);rfl);(apply Ab.y rfl;intro L w1 _ _ z hK;go_simp;go_wp2_with((have hTT:=hT.kp (z.s.1 (z.r 11 4 (by kernel_rfl) z.i));refine(He hTT.sl hTT.l).mono ?_;rintro e w8 ⟨rfl,qq,rfl⟩));(try simp only[pE]);exact hK.out _ (Ah.keep (z.r 11 4 (by kernel_rfl) z.i) (AB (z.s.1 (z.r 11 4 (by kernel_rfl) z.i)) (Al _)) rfl);rfl);iterate 2((apply Ab.z rfl;intro L w1 _ _ _ z hK;go_simp;exact hK (z.s.pass rfl);rfl))
 (apply Ab.z rfl;intro L w1 _ _ _ z hK;(have hI:=z.s.1 (z.r 11 9 (by kernel_rfl) (z.r 9 8 (by kernel_rfl) (z.r 8 7 (by kernel_rfl) z.i)));have m2:=(hT.kp hI).i);go_simp;exact hK (z.s.pass rfl);rfl);(apply Ab.z rfl;intro L w1 _ _ _ z hK;go_simp;exact hK (z.s.pass rfl);rfl);(apply Ab.z rfl;intro L w1 _ _ _ z hK;(have hI:=z.s.1 (z.r 11 9 (by kernel_rfl) z.i);have m0:=AA hI d0;have m1:=AA hI d1;have m2:=AA hI d2;have m3:=AA hI d3;have m4:=AA hI d4;have m5:=AA hI d5);go_simp;exact hK (z.s.pass rfl);rfl);(apply Ab.z rfl;intro L w1 _ _ _ z hK;(have hI:=z.s.1 (z.r 11 10 (by kernel_rfl) z.i);have m0:=AA hI v0;have m1:=AA hI v1);go_simp;exact hK (z.s.pass rfl);rfl);(apply Ab.y rfl;intro L w1 _ _ z hK;go_simp;go_wp2_with((refine(hset _ (z.s.1 z.i)).mono ?_;rintro e w8 ⟨rfl,hm,hb⟩));(try simp only[pE]);exact hK.out _ (Ah.done ⟨hm,(z.s.1 z.i).mono (AX hBN hM2.own.sz)|>.trans hb⟩);rfl);refine Ab.nil fun w6 H6=>?_;obtain⟨hm,hb⟩:=H6.2 rfl;go_wp2;go_end0;exact⟨rfl,⟨_,hm⟩,Db.trans hb⟩
theorem dx{n:Int}(hN:N<=w.heap.size):AZ (w.alloc (Obj.cells #[.int .i64 n] 2)) N 2 1 ([n].map dN) (.slice (some ⟨w.heap.size,0,none⟩) 1 1) [w.heap.size]:=by
 refine .inr ⟨w.heap.size,1,#[.int .i64 n],[],rfl,hN,(MapKept.heap_alloc w _).1,by simp,by unfold maxLen;omega,rfl,rfl,?_,?_⟩
 ·intro d hd;obtain rfl:d=dN n:=by simpa using hd
  rfl
 ·exact AP.cc ((Ae.alloc w [.int .i64 n] 2).c 0 _ rfl) rfl AP.cn
theorem fU{k:Hd}{j:Int}{i:Is}(h:Qd w0 w B N M k s j rest x i p1 c1)(has:i.as=a::r)(hop:i.op=33)(hd0:i.d=Bv)(htr:s.trace.length<=1000000)(hmk:s.marks.length<=1000000):Calls prog 53 #[.pointer (some ⟨M,0,none⟩),.agg #[.int .i64 i.op,.string i.d,.string i.n,.slice p1 i.as.length c1,.slice p2 l2 c2,.slice p3 l3 c3]] w (BI B M k (BP (JN s ⟨Bv,[(Ar x.vars a).2],0,decide ((Ar x.vars a).1=Ao)⟩) rest x i.d (Bv,0)) j w):=by
 obtain⟨h0,hA,hM,hfr,hl,hx,hin,hk⟩:=h;obtain⟨pa,ca,hpa,-,-,hA⟩:=hA;have hka:NZ a:=hk a (by rw[has];simp);obtain⟨aa,e1,d0,⟨d1,-⟩,d2⟩:=hA 0 a (by rw[has];rfl);obtain⟨nl,hnl,hn0⟩:∃nl:Nat,i.as.length=nl/\(0:Int)<nl:=⟨i.as.length,rfl,by rw[has];simp⟩;have ZO:0<nl:=by omega
 rw[hnl]at hpa hin⊢;rw[hop];obtain⟨rfl,rfl⟩:p1=pa/\c1=ca:=by simpa using hpa
 subst e1;replace hd0:=Wx hd0;replace d0:w0.cell? aa=some (.int .i64 a.k):=d0;replace d1:w0.cell? ⟨aa.block,aa.off+1,none⟩=some (.string a.s):=d1;replace d2:w0.cell? ⟨aa.block,aa.off+2,none⟩=some (.int .i64 a.n):=d2;generalize i.d=dst at*;generalize i.n=nm at*;obtain⟨hI,hb1⟩:=BR (w:=w) (c1:=[.int .i64 33,.string dst,.string nm,.slice (some aa) nl c1,.slice p2 l2 c2,.slice p3 l3 c3]) (t1:=133) (AL);have Df:N<=w.heap.size:=hM.own.sz;have hBN:B<=N:=by have:=hM.own.ge;have:=hM.own.lt;omega
 go_enter func53,ntmps53;generalize Cr:w.alloc (.cells #[.int .i64 33,.string dst,.string nm,.slice (some aa) nl c1,.slice p2 l2 c2,.slice p3 l3 c3] 133)=W at*;replace hM:=hM.kp (hb1.mono Df);obtain⟨FB,cap,bm,hT,-⟩:=hM.top hfr hl;have hw0:=AB h0 hb1;replace d0:=AA hw0 d0;replace d1:=AA hw0 d1;replace d2:=AA hw0 d2;have hva:=Cm hT a hka;generalize Yt:Ar x.vars a=ua at*;obtain⟨ut,un⟩:=ua;obtain⟨i0,i1,i2,i3,i4,i5⟩:=hI.c6;have Db:Below B w W:=hb1.mono (by omega);have hBW:=AX hBN (AX Df hb1.size);go_wp2_with fail;refine hva.mono ?_;rintro e w2 ⟨he,hb2⟩;replace he:e=.returned (.agg #[.string ut,.int .i64 un]):=he;subst he;obtain⟨hU,hb4⟩:=BR (w:=w2) (c1:=[.string ut,.int .i64 un]) (t1:=34) (AL);obtain⟨u0,u1⟩:=hU.c2;have hb5:=AB hb2 hb4;go_wp2_with fail;have hfl:(ut.toList==[102,108,111,97,116])=decide (ut=Ao):=by
  have:=Li ut [102,108,111,97,116];by_cases h:ut=Ao
  ·rw[decide_eq_true h,this.2 h];rfl
  ·rw[decide_eq_false h,beq_eq_false_iff_ne];exact fun e=>h (this.1 e)
 rw[hfl];generalize hU2:w2.alloc (.cells #[.string ut,.int .i64 un] 34)=W3 at*;have hsz:W3.heap.size=w2.heap.size+1:=by rw[<-hU2];simp
 replace hM:=hM.kp (hb5.mono hM.own.sz);have hL:=dx (w:=W3) (N:=N) (n:=un) hM.own.sz;have hb6:=AJ W3 (.cells #[.int .i64 un] 2);rw[<-hsz];have hU6:=hU.nx hb6;have jH:=AB hb5 hb6;replace hM:=hM.kp (hb6.mono hM.own.sz);generalize W3.alloc (.cells #[.int .i64 un] 2)=W4 at*;have hse:=Vh hM ⟨Bv,[un],0,decide (ut=Ao)⟩ hL (by simp) htr hmk;have AJs:N<=W4.heap.size:=hM.own.sz;refine hse.mono ?_;rintro e w5 ⟨rfl,⟨N5,Yw⟩,BJ,Pn⟩;have TA:=(hI.nx jH).same (Pn _ Df (hI.nx jH).lt);have hU5:=hU6.same (Pn _ (AX Df (AX hb1.size hb2.size)) hU6.lt);obtain⟨i0,i1,i2,i3,i4,i5⟩:=TA.c6;obtain⟨u0,u1⟩:=hU5.c2;have Nf:=(Db.trans (jH.mono hBW)).trans BJ;have hset:=Co Yw (s:=JN s ⟨Bv,[un],0,decide (ut=Ao)⟩) hfr hl hx 33 dst nm (some aa) p2 p3 nl l2 l3 c1 c2 c3 (ut,un);have hst:BP (JN s ⟨Bv,[un],0,decide (ut=Ao)⟩) rest x dst (ut,un)=BP (JN s ⟨Bv,[un],0,decide (ut=Ao)⟩) rest x dst (Bv,0):=by
  unfold BP;rw[if_pos hd0.out,if_pos hd0.out]
 rw[hst]at hset;go_wp2_with fail;refine hset.mono ?_;rintro e w6 ⟨rfl,hm,Bp⟩;go_wp2;go_end0;exact⟨rfl,⟨_,hm⟩,Nf.trans Bp⟩
end Go.Proofs.YtlffomedflegdaaGreatDoor
