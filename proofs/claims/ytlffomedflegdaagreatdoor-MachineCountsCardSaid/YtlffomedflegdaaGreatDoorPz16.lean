/- Part 16 of 49 of the proof: Ms, Wr, Mt, Mu, Mv. -/
import Derived.Test.YtlffomedflegdaaGreatDoorPz00
import Derived.Test.YtlffomedflegdaaGreatDoorPz09
import Derived.Test.YtlffomedflegdaaGreatDoorPz15
set_option linter.all false
set_option maxHeartbeats 16000000
set_option maxRecDepth 100000
namespace Go.Proofs.YtlffomedflegdaaGreatDoor
open Go.Proofs.Tryz
open Go.RowKit
variable {B M N c1 c2 c3 l1 l2 l3:Nat}{a:Ag}{d n:ByteArray}{f:Fn}{i:Is}{p1 p2 p3:Option Addr}{r:List Ag}{rest:List Lv}{s:St}{w w0:World}{x:Lv}
theorem fV{k:Hd}{j:Int}(h:Qd w0 w B N M k s j rest x i p1 c1)(has:i.as=a::r)(hop:i.op=24):Calls prog 53 #[.pointer (some ⟨M,0,none⟩),.agg #[.int .i64 i.op,.string i.d,.string i.n,.slice p1 i.as.length c1,.slice p2 l2 c2,.slice p3 l3 c3]] w (BI B M k (BP s rest x i.d (Ar x.vars a)) j w):=by
 obtain⟨h0,hA,hM,hfr,hl,hx,hin,hk⟩:=h;obtain⟨pa,ca,hpa,-,-,hA⟩:=hA;have hka:NZ a:=hk a (by rw[has];simp);obtain⟨aa,e1,d0,⟨d1,-⟩,d2⟩:=hA 0 a (by rw[has];rfl);obtain⟨nl,hnl,hn0⟩:∃nl:Nat,i.as.length=nl/\(0:Int)<nl:=⟨i.as.length,rfl,by rw[has];simp⟩;have ZO:0<nl:=by omega
 rw[hnl]at hpa hin⊢;rw[hop];obtain⟨rfl,rfl⟩:p1=pa/\c1=ca:=by simpa using hpa
 subst e1;replace d0:w0.cell? aa=some (.int .i64 a.k):=d0;replace d1:w0.cell? ⟨aa.block,aa.off+1,none⟩=some (.string a.s):=d1;replace d2:w0.cell? ⟨aa.block,aa.off+2,none⟩=some (.int .i64 a.n):=d2;generalize i.d=dst at*;generalize i.n=nm at*;obtain⟨hI,hb1⟩:=BR (w:=w) (c1:=[.int .i64 24,.string dst,.string nm,.slice (some aa) nl c1,.slice p2 l2 c2,.slice p3 l3 c3]) (t1:=133) (AL);have Df:N<=w.heap.size:=hM.own.sz;have hBN:B<=N:=by have:=hM.own.ge;have:=hM.own.lt;omega
 go_enter func53,ntmps53;generalize Cr:w.alloc (.cells #[.int .i64 24,.string dst,.string nm,.slice (some aa) nl c1,.slice p2 l2 c2,.slice p3 l3 c3] 133)=W at*;replace hM:=hM.kp (hb1.mono Df);obtain⟨FB,cap,bm,hT,-⟩:=hM.top hfr hl;have hw0:=AB h0 hb1;replace d0:=AA hw0 d0;replace d1:=AA hw0 d1;replace d2:=AA hw0 d2;have hva:=fun v (hT:DX v M FB rest.length cap bm x)=>Cm hT a hka;generalize Yt:Ar x.vars a=ua at*;obtain⟨i0,i1,i2,i3,i4,i5⟩:=hI.c6;have Db:Below B w W:=hb1.mono (by omega);go_wp2_with fail;refine AO (S:=Ah 8 (fun v=>AA6 W v) (fun v=>Am v B N M k (BP s rest x dst ua) j/\Below B W v)) rfl (by kernel_rfl) (Ah.start Ac) ?_;(apply Ab.z rfl;intro L w1 _ _ _ z hK;go_simp;exact hK (z.s.pass rfl);rfl);(apply Ab.z rfl;intro L w1 _ _ _ z hK;(have hI:=z.s.1 (z.r 8 1 (by kernel_rfl) z.i);have b0:=AA hI i0;have b1:=AA hI i1;have b2:=AA hI i2;have b3:=AA hI i3;have b4:=AA hI i4;have b5:=AA hI i5);go_simp;exact hK (z.s.pass rfl);rfl);iterate 2((apply Ab.z rfl;intro L w1 _ _ _ z hK;go_simp;exact hK (z.s.pass rfl);rfl))
 (apply Ab.z rfl;intro L w1 _ _ _ z hK;(have hI:=z.s.1 (z.r 8 7 (by kernel_rfl) (z.r 7 6 (by kernel_rfl) (z.r 6 5 (by kernel_rfl) (z.r 5 4 (by kernel_rfl) z.i))));have b3:=AA hI i3);go_simp;exact hK (z.s.pass rfl);rfl);(apply Ab.z rfl;intro L w1 _ _ _ z hK;go_simp;exact hK (z.s.pass rfl);rfl);(apply Ab.z rfl;intro L w1 _ _ _ z hK;(have hI:=z.s.1 (z.r 8 7 (by kernel_rfl) (z.r 7 6 (by kernel_rfl) z.i));have m0:=AA hI d0;have m1:=AA hI d1;have m2:=AA hI d2);go_simp;exact hK (z.s.pass rfl);rfl);(apply Ab.y rfl;intro L w1 _ _ z hK;go_simp;go_wp2_with((refine(hva _ (hT.kp (z.s.1 (z.r 8 7 (by kernel_rfl) z.i)))).mono ?_;rintro e w3 ⟨rfl,hb⟩));(try simp only[pE]);exact hK.out _ (Ah.keep (z.r 8 7 (by kernel_rfl) z.i) (AB (z.s.1 (z.r 8 7 (by kernel_rfl) z.i)) hb) rfl);rfl);(apply Ab.y rfl;intro L w1 _ _ z hK;go_simp;go_wp2_with((refine(Co (hM.kp ((z.s.1 z.i).mono hM.own.sz)) hfr hl hx 24 dst nm (some aa) p2 p3 nl l2 l3 c1 c2 c3 ua).mono ?_;rintro e w3 ⟨rfl,hm,hb⟩));(try simp only[pE]);exact hK.out _ (Ah.done ⟨hm,(z.s.1 z.i).mono (AX hBN hM.own.sz)|>.trans hb⟩);rfl);refine Ab.nil fun w6 H6=>?_;obtain⟨hm,hb⟩:=H6.2 rfl;go_wp2;go_end0;exact⟨rfl,⟨_,hm⟩,Db.trans hb⟩
section
open Num Dp
abbrev Bo(n:Int):Prop:= -9223372036854775808<=n/\n<=9223372036854775807
theorem EG(n:Int):Bo (wrap64 n):=FR n
theorem Ki{n:Int}(h:Bo n):Bo (Ba n):=by grind [Ba,Pe]
theorem YO(op:BinOp)(x y:Nat):Bo (Eo op x y):=by
 unfold Eo;split
 ·exact Ki (EG _)
 simp[Bo,Eo,Pe]
theorem tF(b:Bool):Bo (tr b):=by grind [tr]
theorem Ll(b:Bool):Bo (mX b):=by grind [mX]
theorem lC(op a b:Int):Bo (OA op a b).1:=by
 unfold OA;repeat' split
 all_goals first|exact YO _ _ _|exact tF _|exact⟨by decide,by decide⟩
theorem YN(n:Int):Bo (MR n):=Ki (EG _)
theorem YM(n:Int):Bo (CU n):=by
 unfold CU;grind [Vx]
theorem eO{a:Int}(h:Bo a)(k:Nat):Bo (a/2^k):=by
 have hp:(0:Int)<2^k:=Int.pow_pos (by decide);by_cases h0:0<=a
 ·have h1:=Int.ediv_nonneg h0 (Int.le_of_lt hp);have h2:=Int.ediv_le_self (2^k) h0;exact⟨by omega,by omega⟩
 ·have h1:a<=a/2^k:=by
   rw[Int.le_ediv_iff_mul_le hp];have:a*2^k<=a*1:=Int.mul_le_mul_of_nonpos_left (by omega) (by omega);omega
  have h2:a/2^k<0:=Int.ediv_neg_of_neg_of_pos (by omega) hp;exact⟨by omega,by omega⟩
theorem FH{c:Prop}[Decidable c]{x y:Int×Bool}(h1:c->Bo x.1)(h2:¬c->Bo y.1):Bo (if c then x else y).1:=by grind
theorem eF{a:Int}(b:Int)(ha:Bo a):Bo (a.tmod b):=by
 have h1:(a.tmod b).natAbs<=a.natAbs:=by rw[Int.natAbs_tmod];exact Nat.mod_le _ _
 obtain⟨h4,h5⟩:=ha;by_cases h0:0<=a
 ·have:=Int.tmod_nonneg b h0;exact⟨by omega,by omega⟩
 ·have:=Int.tmod_nonneg b (show 0<=-a by omega);rw[Int.neg_tmod]at this;exact⟨by omega,by omega⟩
theorem lD{op a b:Int}(ha:Bo a):Bo (Kv op a b).1:=by
 have z0:Bo 0:=⟨by decide,by decide⟩;unfold Kv;refine FH (fun _=>EG _) fun _=>FH (fun _=>EG _) fun _=>FH (fun _=>EG _) fun _=>FH (fun _=>FH (fun _=>z0) fun _=>EG _) fun _=>FH (fun _=>FH (fun _=>z0) fun _=>eF _ ha) fun _=>?_;refine FH (fun _=>?_) fun _=>FH (fun _=>?_) fun _=>FH (fun _=>?_) fun _=>FH (fun _=>EG _) fun _=>FH (fun _=>eO ha _) fun _=>FH (fun _=>Ll _) fun _=>FH (fun _=>Ll _) fun _=>FH (fun _=>Ll _) fun _=>FH (fun _=>Ll _) fun _=>z0
 ·rw[WE];exact EG _
 ·rw[sJ];exact EG _
 ·rw[jY];exact EG _
def JG(m:Vm):Prop:=∀y∈m,Bo y.2.2
structure Ga(s:St):Prop where
 fr:∀x∈s.frames,JG x.vars
 hp:∀ob∈s.heap,∀v∈ob.vs,Bo v.2
 gl:∀v∈s.globals,Bo v.2
def rP(i:Is):Prop:=∀a∈i.as,Bo a.n
def Zp(p:Pg):Prop:=∀f∈p.fs,∀b∈f.bs,(∀i∈b.cs,rP i)/\Bo b.e.a.n
theorem fB{m:Vm}(h:JG m)(x:ByteArray):Bo (getM m x).2:=by grind [JG,getM]
theorem Jt:∀{m:Vm},JG m->∀(x:ByteArray) {v:Vu},Bo v.2->JG (Ei m x v)
 | [],_,x,v,hv=>by
  intro y hy;obtain rfl:y=(x,v):=by simpa[Ei]using hy
  exact hv
 |z::r,h,x,v,hv=>by
  unfold Ei;split
  ·intro y hy;rcases List.mem_cons.1 hy with rfl|hy
   ·exact hv
   ·exact h y (by simp[hy])
  ·intro y hy;rcases List.mem_cons.1 hy with rfl|hy
   ·exact h y (by simp)
   ·exact Jt (fun y hy=>h y (by simp[hy])) x hv y hy
theorem Me{m:Vm}(h:JG m)(ha:Bo a.n):Bo (Ar m a).2:=by
 unfold Ar;repeat' split
 all_goals first|exact fB h _|exact ha|exact⟨by decide,by decide⟩
theorem JW(t:ByteArray):Bo (Ap t).2:=by grind [Ap]
section
variable {p : Pg} {ans fails : List Int} {fuel : Int} {s s1 t u : St} {j j1 k : Nat} {rest : List Lv} {x : Lv}
theorem Ih{s':St}(hf:∀y∈rest,JG y.vars)(hx:JG x.vars)(h1:∀ob∈s'.heap,∀v∈ob.vs,Bo v.2)(h2:∀v∈s'.globals,Bo v.2)(d:ByteArray){v:Vu}(hv:Bo v.2):Ga (BP s' rest x d v):=by
 refine⟨fun y hy=>?_,h1,h2⟩;grind [JG,BP,Jt,cases St,cases Ga]
theorem Lm{s':St}(hf:∀y∈rest,JG y.vars)(hx:JG x.vars)(h1:∀ob∈s'.heap,∀v∈ob.vs,Bo v.2)(h2:∀v∈s'.globals,Bo v.2)(h:TU s' rest x d=some t):Ga t:=by grind [JG,TU,Ih,cases St,cases Ga]
theorem PO:∀(ps:List Vr) (l:List Vu) (m m1:Vm),JG m->(∀v∈l,Bo v.2)->bindM ps l m=some m1->JG m1
 |_,[],m,m1,hm,_,h=>by
  unfold bindM at h;injection h with h;subst h
  exact hm
 | [],_::_,m,m1,_,_,h=>by unfold bindM at h;cases h
 |v::r,u::l,m,m1,hm,hl,h=>by
  unfold bindM at h;exact PO r l _ m1 (Jt hm _ (hl u (by simp))) (fun v hv=>hl v (by simp[hv])) h
theorem KX{α:Type}{l:List α}{k:Nat}{v y:α}(h:y∈setAt l k v):y=v\/y∈l:=by grind [setAt]
theorem LG{o:Vu}{y:ByteArray}{r:Nat×ByteArray×List Vu×Nat×Vu}(hs:Ga s)(h:fieldAt p s o y=some r):Bo r.2.2.2.2.2/\∀v∈r.2.2.1,Bo v.2:=by
 unfold fieldAt at h;repeat'(first|cases h;done|split at h)
 rename_i x1 ob Nc x2 cl hcl x3 k hk x4 v hv
 injection h with h;subst h;have:=hs.hp ob (List.mem_of_getElem? Nc);exact⟨this v (List.mem_of_getElem? hv),this⟩
theorem YL(hs:Ga s)(hl:s.frames=rest++[x])(hi:rP i)(ha:∀n∈ans,Bo n)(hh:s.heap.length<=1000000)(h:Bq p ans fails s rest x i=some t):Ga t:=by
 have hf:∀y∈rest,JG y.vars:=fun y hy=>hs.fr y (by rw[hl];simp[hy]);have hx:JG x.vars:=hs.fr x (by rw[hl];simp);have hval:∀a∈i.as,Bo (Ar x.vars a).2:=fun a h=>Me hx (hi a h);have st:∀{d:ByteArray} {v:Vu},Bo v.2->Ga (BP s rest x d v):=fun hv=>Ih hf hx hs.hp hs.gl _ hv;have hvl:∀v∈i.as.map (Ar x.vars),Bo v.2:=fun v hv=>by
  obtain⟨a,h1,rfl⟩:=List.mem_map.1 hv;exact hval a h1
 have z0:Bo 0:=⟨by decide,by decide⟩;unfold Bq at h;by_cases ZG:i.op=25
 ·rw[if_pos ZG]at h;injection h with h;subst h;refine Ih hf hx ?_ (by exact hs.gl) _ (by show Bo ((s.heap.length:Int)+1);exact⟨by omega,by omega⟩);intro ob Nc;rcases List.mem_append.1 Nc with h1|h1
  ·exact hs.hp ob h1
  ·obtain rfl:ob=_:=(by simpa using h1);intro v hv;dsimp only at hv;unfold Em at hv;split at hv
   ·split at hv
    ·cases hv
    ·obtain⟨u,_,rfl⟩:=List.mem_map.1 hv;exact JW _
   ·exact hvl v hv
 rw[if_neg ZG]at h;by_cases iM:i.op=29
 ·rw[if_pos iM]at h;split at h
  ·cases h
  split at h
  ·cases h
  rename_i v hv
  injection h with h;subst h;exact st (hs.gl v (List.mem_of_getElem? hv))
 rw[if_neg iM]at h;by_cases c31:i.op=31
 ·rw[if_pos c31]at h;split at h
  ·cases h
  split at h
  ·cases h
  split at h
  ·cases h
  rename_i m1 hm1
  injection h with h;subst h;refine⟨fun y hy=>?_,hs.hp,hs.gl⟩;dsimp only at hy;rw[<-hl]at hy;rcases List.mem_append.1 hy with hy|hy
  ·exact hs.fr y hy
  ·obtain rfl:y=_:=(by simpa using hy);exact PO _ _ _ _ (fun y hy=>by cases hy) hvl hm1
 rw[if_neg c31]at h;by_cases c32:i.op=32
 ·rw[if_pos c32]at h;injection h with h;subst h;refine Ih hf hx (by exact hs.hp) (by exact hs.gl) _ ?_;(try dsimp only)
  cases hg:ans[s.asked.toNat]? with
  |none=>exact z0
  |some n=>exact ha n (List.mem_of_getElem? hg)
 rw[if_neg c32]at h;by_cases c34:i.op=34
 ·rw[if_pos c34]at h;split at h
  ·injection h with h;subst h;exact⟨hs.fr,hs.hp,hs.gl⟩
  ·exact Lm hf hx (by exact hs.hp) (by exact hs.gl) h
 rw[if_neg c34]at h;split at h
 ·cases h
 rename_i a r has
 have hva:=hval a (by rw[has];simp);by_cases iN:i.op=22
 ·rw[if_pos iN]at h;injection h with h;subst h;exact st (YN _)
 rw[if_neg iN]at h;by_cases c23:i.op=23
 ·rw[if_pos c23]at h;injection h with h;subst h;exact st (YM _)
 rw[if_neg c23]at h;by_cases c24:i.op=24
 ·rw[if_pos c24]at h;injection h with h;subst h;exact st hva
 rw[if_neg c24]at h;by_cases gT:i.op=26
 ·rw[if_pos gT]at h;split at h
  ·injection h with h;subst h;exact⟨hs.fr,hs.hp,hs.gl⟩
  split at h
  ·cases h
  rename_i q hq
  injection h with h;subst h;exact st (LG hs hq).1
 rw[if_neg gT]at h;by_cases ZF:i.op=30
 ·rw[if_pos ZF]at h;split at h
  ·cases h
  split at h
  ·cases h
  refine Lm hf hx (by exact hs.hp) ?_ h;intro v hv;rcases KX hv with rfl|hv
  ·exact hva
  ·exact hs.gl v hv
 rw[if_neg ZF]at h;by_cases gQ:i.op=33
 ·rw[if_pos gQ]at h;exact Lm hf hx (by exact hs.hp) (by exact hs.gl) h
 rw[if_neg gQ]at h;split at h
 ·cases h
 rename_i x0 x1 b r2
 have hvb:=hval b (by rw[has];simp);by_cases Yy:i.op=27
 ·rw[if_pos Yy]at h;split at h
  ·injection h with h;subst h;exact⟨hs.fr,hs.hp,hs.gl⟩
  split at h
  ·cases h
  rename_i q hq
  refine Lm hf hx ?_ (by exact hs.gl) h;intro ob Nc;rcases KX Nc with rfl|Nc
  ·intro v hv;dsimp only at hv;rcases KX hv with rfl|hv
   ·exact hvb
   ·exact(LG hs hq).2 v hv
  ·exact hs.hp ob Nc
 rw[if_neg Yy]at h;by_cases c28:i.op=28
 ·rw[if_pos c28]at h;injection h with h;subst h;refine st ?_;dsimp only;split<;>exact⟨by decide,by decide⟩
 rw[if_neg c28]at h;split at h
 ·split at h
  ·injection h with h;subst h;exact st (lD hva)
  ·injection h with h;subst h;exact⟨hs.fr,hs.hp,hs.gl⟩
 split at h
 ·injection h with h;subst h;exact st (lC _ _ _)
 ·cases h
theorem RU(hs:Ga s)(hl:s.frames=rest++[x]){y:ByteArray}(h:H7 f s rest x y=some t):Ga t:=by
 rw[KS h];refine⟨fun z hz=>?_,hs.hp,hs.gl⟩;grind [KS,cases Ga,cases Fn]
theorem eY(hs:Ga s)(hl:s.frames=rest++[x]){v:Vu}(hv:Bo v.2)(h:K4 p s rest v=some t):Ga t:=by
 unfold K4 at h;split at h
 ·injection h with h;subst h;exact⟨(fun y hy=>by cases hy),hs.hp,hs.gl⟩
 rename_i y hy
 repeat'(first|cases h;done|split at h)
 injection h with h;subst h;have hm:∀z∈rest,JG z.vars:=fun z hz=>hs.fr z (by rw[hl];simp[hz]);exact Ih (fun z hz=>hm z (List.dropLast_subset _ hz)) (hm y (List.mem_of_getLast? hy)) hs.hp hs.gl _ hv
theorem lu(hs:Ga s)(hl:s.frames=rest++[x]){e:Tm}(he:Bo e.a.n)(h:La p f s rest x e=some t):Ga t:=by
 unfold La at h;split at h
 ·split at h
  ·cases h
  ·exact RU hs hl h
 split at h
 ·split at h
  ·exact RU hs hl h
  ·cases h
 split at h
 ·exact eY hs hl (Me (hs.fr x (by rw[hl];simp)) he) h
 split at h
 ·injection h with h;subst h;exact⟨hs.fr,hs.hp,hs.gl⟩
 ·cases h
theorem RY(hr:Zp p)(hs:Ga s){b:Bk}(hl:s.frames=s.frames.dropLast++[x])(hx:Ca p s.heap x f b)(ha:∀n∈ans,Bo n)(hh:s.heap.length<=1000000)(h:El p ans fails s x f b=some t):Ga t:=by
 have hb:=hr f (Ak hx.1).1 b (Ak hx.2.1).1;unfold El at h;split at h
 ·exact lu hs hl hb.2 h
 ·split at h
  ·cases h
  ·rename_i i hi
   exact YL hs hl (hb.1 i (List.mem_of_getElem? hi)) ha hh h
theorem Xj(hg:DJ p)(hr:Zp p)(hs:Ga s)(hw:WT p s)(hst:s.status=0)(ha:∀n∈ans,Bo n)(hh:s.heap.length<=1000000)(h:EP p ans fails fuel s j=some (t,k)):Ga t:=by
 obtain⟨x,f,b,h1,h2,h3,h4⟩:=Il hg hw hst h;rcases h4 with⟨_,_,rfl,_⟩|⟨_,_,_,h⟩|⟨_,_,rfl,_⟩|⟨_,_,_,h⟩
 ·exact⟨hs.fr,hs.hp,hs.gl⟩
 ·exact RY hr hs h2 h3 ha hh h
 ·exact⟨hs.fr,hs.hp,hs.gl⟩
 ·exact RY (s:={s with steps:=s.steps+1}) hr ⟨hs.fr,hs.hp,hs.gl⟩ h2 h3 ha hh h
end
end
section
open Dp
theorem Yi{k:Hd}{j:Int}(h:Qd w0 w B N M k s j rest x i p1 c1)(has:i.as=a::r)(hop:i.op=22):Calls prog 53 #[.pointer (some ⟨M,0,none⟩),.agg #[.int .i64 i.op,.string i.d,.string i.n,.slice p1 i.as.length c1,.slice p2 l2 c2,.slice p3 l3 c3]] w (BI B M k (BP s rest x i.d (Ao,MR (Ar x.vars a).2)) j w):=by
 obtain⟨h0,hA,hM,hfr,hl,hx,hin,hk⟩:=h;obtain⟨pa,ca,hpa,-,-,hA⟩:=hA;have hka:NZ a:=hk a (by rw[has];simp);obtain⟨aa,e1,d0,⟨d1,-⟩,d2⟩:=hA 0 a (by rw[has];rfl);obtain⟨nl,hnl,hn0⟩:∃nl:Nat,i.as.length=nl/\(0:Int)<nl:=⟨i.as.length,rfl,by rw[has];simp⟩;have ZO:0<nl:=by omega
 rw[hnl]at hpa hin⊢;rw[hop];obtain⟨rfl,rfl⟩:p1=pa/\c1=ca:=by simpa using hpa
 subst e1;replace d0:w0.cell? aa=some (.int .i64 a.k):=d0;replace d1:w0.cell? ⟨aa.block,aa.off+1,none⟩=some (.string a.s):=d1;replace d2:w0.cell? ⟨aa.block,aa.off+2,none⟩=some (.int .i64 a.n):=d2;generalize i.d=dst at*;generalize i.n=nm at*;obtain⟨hI,hb1⟩:=BR (w:=w) (c1:=[.int .i64 22,.string dst,.string nm,.slice (some aa) nl c1,.slice p2 l2 c2,.slice p3 l3 c3]) (t1:=133) (AL);have Df:N<=w.heap.size:=hM.own.sz;have hBN:B<=N:=by have:=hM.own.ge;have:=hM.own.lt;omega
 go_enter func53,ntmps53;generalize Cr:w.alloc (.cells #[.int .i64 22,.string dst,.string nm,.slice (some aa) nl c1,.slice p2 l2 c2,.slice p3 l3 c3] 133)=W at*;replace hM:=hM.kp (hb1.mono Df);obtain⟨FB,cap,bm,hT,-⟩:=hM.top hfr hl;have hw0:=AB h0 hb1;replace d0:=AA hw0 d0;replace d1:=AA hw0 d1;replace d2:=AA hw0 d2;have hva:=fun v (hT:DX v M FB rest.length cap bm x)=>Cm hT a hka;generalize Yt:Ar x.vars a=ua at*;obtain⟨i0,i1,i2,i3,i4,i5⟩:=hI.c6;have hcv:=fun v=>X6 ua.2 v;generalize hcn:MR ua.2=cn at*;have Db:Below B w W:=hb1.mono (by omega);go_wp2_with fail;refine AO (S:=Ah 11 (fun v=>AA6 W v) (fun v=>Am v B N M k (BP s rest x dst (Ao,cn)) j/\Below B W v)) rfl (by kernel_rfl) (Ah.start Ac) ?_;(apply Ab.z rfl;intro L w1 _ _ _ z hK;go_simp;exact hK (z.s.pass rfl);rfl);(apply Ab.z rfl;intro L w1 _ _ _ z hK;(have hI:=z.s.1 (z.r 11 1 (by kernel_rfl) z.i);have b0:=AA hI i0;have b1:=AA hI i1;have b2:=AA hI i2;have b3:=AA hI i3;have b4:=AA hI i4;have b5:=AA hI i5);go_simp;exact hK (z.s.pass rfl);rfl);iterate 2((apply Ab.z rfl;intro L w1 _ _ _ z hK;go_simp;exact hK (z.s.pass rfl);rfl))
 (apply Ab.z rfl;intro L w1 _ _ _ z hK;(have hI:=z.s.1 (z.r 11 9 (by kernel_rfl)<|z.r 9 7 (by kernel_rfl)<|(z.r 7 6 (by kernel_rfl) (z.r 6 5 (by kernel_rfl) (z.r 5 4 (by kernel_rfl) z.i))));have b3:=AA hI i3);go_simp;exact hK (z.s.pass rfl);rfl);(apply Ab.z rfl;intro L w1 _ _ _ z hK;go_simp;exact hK (z.s.pass rfl);rfl);(apply Ab.z rfl;intro L w1 _ _ _ z hK;(have hI:=z.s.1 (z.r 11 9 (by kernel_rfl)<|z.r 9 7 (by kernel_rfl)<|(z.r 7 6 (by kernel_rfl) z.i));have m0:=AA hI d0;have m1:=AA hI d1;have m2:=AA hI d2);go_simp;exact hK (z.s.pass rfl);rfl);(apply Ab.y rfl;intro L w1 _ _ z hK;go_simp;go_wp2_with((refine(hva _ (hT.kp (z.s.1 (z.r 11 9 (by kernel_rfl)<|z.r 9 7 (by kernel_rfl)<|z.i)))).mono ?_;rintro e w3 ⟨rfl,hb⟩));(try simp only[pE]);exact hK.out _ (Ah.keep (z.r 11 9 (by kernel_rfl)<|z.r 9 7 (by kernel_rfl)<|z.i) (AB (z.s.1 (z.r 11 9 (by kernel_rfl)<|z.r 9 7 (by kernel_rfl)<|z.i)) hb) rfl);rfl);(apply Ab.z rfl;intro L w1 _ _ _ z hK;go_simp;exact hK (z.s.pass rfl);rfl);(apply Ab.y rfl;intro L w1 _ _ z hK;go_simp;go_wp2_with((refine(hcv _).mono ?_;rintro e w3 ⟨rfl,rfl⟩));(try simp only[pE]);exact hK.out _ (Ah.keep (z.r 11 9 (by kernel_rfl) z.i) (z.s.1 (z.r 11 9 (by kernel_rfl) z.i)) rfl);rfl);(apply Ab.z rfl;intro L w1 _ _ _ z hK;go_simp;exact hK (z.s.pass rfl);rfl);(apply Ab.y rfl;intro L w1 _ _ z hK;go_simp;go_wp2_with((refine(Co (hM.kp ((z.s.1 z.i).mono hM.own.sz)) hfr hl hx 22 dst nm (some aa) p2 p3 nl l2 l3 c1 c2 c3 (Ao,cn)).mono ?_;rintro e w3 ⟨rfl,hm,hb⟩));(try simp only[pE]);exact hK.out _ (Ah.done ⟨hm,(z.s.1 z.i).mono (AX hBN hM.own.sz)|>.trans hb⟩);rfl);refine Ab.nil fun w6 H6=>?_;obtain⟨hm,hb⟩:=H6.2 rfl;go_wp2;go_end0;exact⟨rfl,⟨_,hm⟩,Db.trans hb⟩
theorem Yj{k:Hd}{j:Int}(h:Qd w0 w B N M k s j rest x i p1 c1)(has:i.as=a::r)(hop:i.op=23)(hr:Bo (Ar x.vars a).2):Calls prog 53 #[.pointer (some ⟨M,0,none⟩),.agg #[.int .i64 i.op,.string i.d,.string i.n,.slice p1 i.as.length c1,.slice p2 l2 c2,.slice p3 l3 c3]] w (BI B M k (BP s rest x i.d (BA,CU (Ar x.vars a).2)) j w):=by
 obtain⟨h0,hA,hM,hfr,hl,hx,hin,hk⟩:=h;obtain⟨pa,ca,hpa,-,-,hA⟩:=hA;have hka:NZ a:=hk a (by rw[has];simp);obtain⟨aa,e1,d0,⟨d1,-⟩,d2⟩:=hA 0 a (by rw[has];rfl);obtain⟨nl,hnl,hn0⟩:∃nl:Nat,i.as.length=nl/\(0:Int)<nl:=⟨i.as.length,rfl,by rw[has];simp⟩;have ZO:0<nl:=by omega
 rw[hnl]at hpa hin⊢;rw[hop];obtain⟨rfl,rfl⟩:p1=pa/\c1=ca:=by simpa using hpa
 subst e1;replace d0:w0.cell? aa=some (.int .i64 a.k):=d0;replace d1:w0.cell? ⟨aa.block,aa.off+1,none⟩=some (.string a.s):=d1;replace d2:w0.cell? ⟨aa.block,aa.off+2,none⟩=some (.int .i64 a.n):=d2;generalize i.d=dst at*;generalize i.n=nm at*;obtain⟨hI,hb1⟩:=BR (w:=w) (c1:=[.int .i64 23,.string dst,.string nm,.slice (some aa) nl c1,.slice p2 l2 c2,.slice p3 l3 c3]) (t1:=133) (AL);have Df:N<=w.heap.size:=hM.own.sz;have hBN:B<=N:=by have:=hM.own.ge;have:=hM.own.lt;omega
 go_enter func53,ntmps53;generalize Cr:w.alloc (.cells #[.int .i64 23,.string dst,.string nm,.slice (some aa) nl c1,.slice p2 l2 c2,.slice p3 l3 c3] 133)=W at*;replace hM:=hM.kp (hb1.mono Df);obtain⟨FB,cap,bm,hT,-⟩:=hM.top hfr hl;have hw0:=AB h0 hb1;replace d0:=AA hw0 d0;replace d1:=AA hw0 d1;replace d2:=AA hw0 d2;have hva:=fun v (hT:DX v M FB rest.length cap bm x)=>Cm hT a hka;generalize Yt:Ar x.vars a=ua at*;obtain⟨i0,i1,i2,i3,i4,i5⟩:=hI.c6;have hcv:=fun v=>XK ua.2 v hr.1 hr.2;generalize hcn:CU ua.2=cn at*;have Db:Below B w W:=hb1.mono (by omega);go_wp2_with fail;refine AO (S:=Ah 11 (fun v=>AA6 W v) (fun v=>Am v B N M k (BP s rest x dst (BA,cn)) j/\Below B W v)) rfl (by kernel_rfl) (Ah.start Ac) ?_;(apply Ab.z rfl;intro L w1 _ _ _ z hK;go_simp;exact hK (z.s.pass rfl);rfl);(apply Ab.z rfl;intro L w1 _ _ _ z hK;(have hI:=z.s.1 (z.r 11 1 (by kernel_rfl) z.i);have b0:=AA hI i0;have b1:=AA hI i1;have b2:=AA hI i2;have b3:=AA hI i3;have b4:=AA hI i4;have b5:=AA hI i5);go_simp;exact hK (z.s.pass rfl);rfl);iterate 2((apply Ab.z rfl;intro L w1 _ _ _ z hK;go_simp;exact hK (z.s.pass rfl);rfl))
 (apply Ab.z rfl;intro L w1 _ _ _ z hK;(have hI:=z.s.1 (z.r 11 9 (by kernel_rfl)<|z.r 9 7 (by kernel_rfl)<|(z.r 7 6 (by kernel_rfl) (z.r 6 5 (by kernel_rfl) (z.r 5 4 (by kernel_rfl) z.i))));have b3:=AA hI i3);go_simp;exact hK (z.s.pass rfl);rfl);(apply Ab.z rfl;intro L w1 _ _ _ z hK;go_simp;exact hK (z.s.pass rfl);rfl);(apply Ab.z rfl;intro L w1 _ _ _ z hK;(have hI:=z.s.1 (z.r 11 9 (by kernel_rfl)<|z.r 9 7 (by kernel_rfl)<|(z.r 7 6 (by kernel_rfl) z.i));have m0:=AA hI d0;have m1:=AA hI d1;have m2:=AA hI d2);go_simp;exact hK (z.s.pass rfl);rfl);(apply Ab.y rfl;intro L w1 _ _ z hK;go_simp;go_wp2_with((refine(hva _ (hT.kp (z.s.1 (z.r 11 9 (by kernel_rfl)<|z.r 9 7 (by kernel_rfl)<|z.i)))).mono ?_;rintro e w3 ⟨rfl,hb⟩));(try simp only[pE]);exact hK.out _ (Ah.keep (z.r 11 9 (by kernel_rfl)<|z.r 9 7 (by kernel_rfl)<|z.i) (AB (z.s.1 (z.r 11 9 (by kernel_rfl)<|z.r 9 7 (by kernel_rfl)<|z.i)) hb) rfl);rfl);(apply Ab.z rfl;intro L w1 _ _ _ z hK;go_simp;exact hK (z.s.pass rfl);rfl);(apply Ab.y rfl;intro L w1 _ _ z hK;go_simp;go_wp2_with((refine(hcv _).mono ?_;rintro e w3 ⟨rfl,rfl⟩));(try simp only[pE]);exact hK.out _ (Ah.keep (z.r 11 9 (by kernel_rfl) z.i) (z.s.1 (z.r 11 9 (by kernel_rfl) z.i)) rfl);rfl);(apply Ab.z rfl;intro L w1 _ _ _ z hK;go_simp;exact hK (z.s.pass rfl);rfl);(apply Ab.y rfl;intro L w1 _ _ z hK;go_simp;go_wp2_with((refine(Co (hM.kp ((z.s.1 z.i).mono hM.own.sz)) hfr hl hx 23 dst nm (some aa) p2 p3 nl l2 l3 c1 c2 c3 (BA,cn)).mono ?_;rintro e w3 ⟨rfl,hm,hb⟩));(try simp only[pE]);exact hK.out _ (Ah.done ⟨hm,(z.s.1 z.i).mono (AX hBN hM.own.sz)|>.trans hb⟩);rfl);refine Ab.nil fun w6 H6=>?_;obtain⟨hm,hb⟩:=H6.2 rfl;go_wp2;go_end0;exact⟨rfl,⟨_,hm⟩,Db.trans hb⟩
end
theorem Yh{k:Hd}{j:Int}(h:Qd w0 w B N M k s j rest x i p1 c1){b:Ag}(has:i.as=a::b::r)(hop:i.op=28):Calls prog 53 #[.pointer (some ⟨M,0,none⟩),.agg #[.int .i64 i.op,.string i.d,.string i.n,.slice p1 i.as.length c1,.slice p2 l2 c2,.slice p3 l3 c3]] w (BI B M k (BP s rest x i.d (BA,if(Ar x.vars a).2=(Ar x.vars b).2 then 1 else 0)) j w):=by
 obtain⟨h0,hA,hM,hfr,hl,hx,hin,hk⟩:=h;obtain⟨pa,ca,hpa,-,-,hA⟩:=hA;have hka:NZ a:=hk a (by rw[has];simp);obtain⟨aa,e1,d0,⟨d1,-⟩,d2⟩:=hA 0 a (by rw[has];rfl);have hkb:NZ b:=hk b (by rw[has];simp);obtain⟨xJ,e2,g0,⟨g1,-⟩,g2⟩:=hA 1 b (by rw[has];rfl);obtain⟨nl,hnl,hn0,hn1⟩:∃nl:Nat,i.as.length=nl/\(0:Int)<nl/\(1:Int)<nl:=⟨i.as.length,rfl,by rw[has];simp;omega,by rw[has];simp;omega⟩;have ZO:0<nl:=by omega
 have hn1':1<nl:=by omega
 rw[hnl]at hpa hin⊢;rw[hop];obtain⟨rfl,rfl⟩:p1=pa/\c1=ca:=by simpa using hpa
 subst e1;obtain rfl:aa=xJ:=by simpa using e2
 replace d0:w0.cell? aa=some (.int .i64 a.k):=d0;replace d1:w0.cell? ⟨aa.block,aa.off+1,none⟩=some (.string a.s):=d1;replace g0:w0.cell? ⟨aa.block,aa.off+3,none⟩=some (.int .i64 b.k):=g0;replace g1:w0.cell? ⟨aa.block,aa.off+3+1,none⟩=some (.string b.s):=g1;replace g2:w0.cell? ⟨aa.block,aa.off+3+2,none⟩=some (.int .i64 b.n):=g2;replace d2:w0.cell? ⟨aa.block,aa.off+2,none⟩=some (.int .i64 a.n):=d2;generalize i.d=dst at*;generalize i.n=nm at*;obtain⟨hI,hb1⟩:=BR (w:=w) (c1:=[.int .i64 28,.string dst,.string nm,.slice (some aa) nl c1,.slice p2 l2 c2,.slice p3 l3 c3]) (t1:=133) (AL);have Df:N<=w.heap.size:=hM.own.sz;have hBN:B<=N:=by have:=hM.own.ge;have:=hM.own.lt;omega
 go_enter func53,ntmps53;generalize Cr:w.alloc (.cells #[.int .i64 28,.string dst,.string nm,.slice (some aa) nl c1,.slice p2 l2 c2,.slice p3 l3 c3] 133)=W at*;replace hM:=hM.kp (hb1.mono Df);obtain⟨FB,cap,bm,hT,-⟩:=hM.top hfr hl;have hw0:=AB h0 hb1;replace d0:=AA hw0 d0;replace d1:=AA hw0 d1;replace d2:=AA hw0 d2;replace g0:=AA hw0 g0;replace g1:=AA hw0 g1;replace g2:=AA hw0 g2;have hva:=fun v (hT:DX v M FB rest.length cap bm x)=>Cm hT a hka;have hvb:=fun v (hT:DX v M FB rest.length cap bm x)=>Cm hT b hkb;generalize Yt:Ar x.vars a=ua at*;generalize hub:Ar x.vars b=ub at*;have hsm:=fun v=>bW ua ub v;generalize hcn:(if ua.2=ub.2 then(1:Int)else 0)=cn at*;obtain⟨i0,i1,i2,i3,i4,i5⟩:=hI.c6;have Db:Below B w W:=hb1.mono (by omega);go_wp2_with fail;refine AO (S:=Ah 15 (fun v=>AA6 W v) (fun v=>Am v B N M k (BP s rest x dst (BA,cn)) j/\Below B W v)) rfl (by kernel_rfl) (Ah.start Ac) ?_;(apply Ab.z rfl;intro L w1 _ _ _ z hK;go_simp;exact hK (z.s.pass rfl);rfl);(apply Ab.z rfl;intro L w1 _ _ _ z hK;(have hI:=z.s.1 (z.r 15 1 (by kernel_rfl) z.i);have b0:=AA hI i0;have b1:=AA hI i1;have b2:=AA hI i2;have b3:=AA hI i3;have b4:=AA hI i4;have b5:=AA hI i5);go_simp;exact hK (z.s.pass rfl);rfl);iterate 2((apply Ab.z rfl;intro L w1 _ _ _ z hK;go_simp;exact hK (z.s.pass rfl);rfl))
 (apply Ab.z rfl;intro L w1 _ _ _ z hK;(have hI:=z.s.1 (z.r 15 14 (by kernel_rfl) (z.r 14 7 (by kernel_rfl) (z.r 7 6 (by kernel_rfl) (z.r 6 5 (by kernel_rfl) (z.r 5 4 (by kernel_rfl) z.i)))));have b3:=AA hI i3);go_simp;exact hK (z.s.pass rfl);rfl);(apply Ab.z rfl;intro L w1 _ _ _ z hK;go_simp;exact hK (z.s.pass rfl);rfl);(apply Ab.z rfl;intro L w1 _ _ _ z hK;(have hI:=z.s.1 (z.r 15 14 (by kernel_rfl) (z.r 14 7 (by kernel_rfl) (z.r 7 6 (by kernel_rfl) z.i)));have m0:=AA hI d0;have m1:=AA hI d1;have m2:=AA hI d2);go_simp;exact hK (z.s.pass rfl);rfl);(apply Ab.y rfl;intro L w1 _ _ z hK;go_simp;go_wp2_with((refine(hva _ (hT.kp (z.s.1 (z.r 15 14 (by kernel_rfl) (z.r 14 7 (by kernel_rfl) z.i))))).mono ?_;rintro e w3 ⟨rfl,hb⟩));(try simp only[pE]);exact hK.out _ (Ah.keep (z.r 15 14 (by kernel_rfl) (z.r 14 7 (by kernel_rfl) z.i)) (AB (z.s.1 (z.r 15 14 (by kernel_rfl) (z.r 14 7 (by kernel_rfl) z.i))) hb) rfl);rfl);iterate 2((apply Ab.z rfl;intro L w1 _ _ _ z hK;go_simp;exact hK (z.s.pass rfl);rfl))
 (apply Ab.z rfl;intro L w1 _ _ _ z hK;(have hI:=z.s.1 (z.r 15 14 (by kernel_rfl) (z.r 14 13 (by kernel_rfl) (z.r 13 12 (by kernel_rfl) (z.r 12 11 (by kernel_rfl) (z.r 11 10 (by kernel_rfl) z.i)))));have b3:=AA hI i3);go_simp;exact hK (z.s.pass rfl);rfl);(apply Ab.z rfl;intro L w1 _ _ _ z hK;go_simp;exact hK (z.s.pass rfl);rfl);(apply Ab.z rfl;intro L w1 _ _ _ z hK;(have hI:=z.s.1 (z.r 15 14 (by kernel_rfl) (z.r 14 13 (by kernel_rfl) (z.r 13 12 (by kernel_rfl) z.i)));have m0:=AA hI g0;have m1:=AA hI g1;have m2:=AA hI g2);go_simp;exact hK (z.s.pass rfl);rfl);(apply Ab.y rfl;intro L w1 _ _ z hK;go_simp;go_wp2_with((refine(hvb _ (hT.kp (z.s.1 (z.r 15 14 (by kernel_rfl) (z.r 14 13 (by kernel_rfl) z.i))))).mono ?_;rintro e w3 ⟨rfl,hb⟩));(try simp only[pE]);exact hK.out _ (Ah.keep (z.r 15 14 (by kernel_rfl) (z.r 14 13 (by kernel_rfl) z.i)) (AB (z.s.1 (z.r 15 14 (by kernel_rfl) (z.r 14 13 (by kernel_rfl) z.i))) hb) rfl);rfl);(apply Ab.y rfl;intro L w1 _ _ z hK;go_simp;go_wp2_with((refine(hsm _).mono ?_;rintro e w3 ⟨rfl,hb⟩));(try simp only[pE]);exact hK.out _ (Ah.keep (z.r 15 14 (by kernel_rfl) z.i) (AB (z.s.1 (z.r 15 14 (by kernel_rfl) z.i)) hb) rfl);rfl);(apply Ab.y rfl;intro L w1 _ _ z hK;go_simp;go_wp2_with((refine(Co (hM.kp ((z.s.1 z.i).mono hM.own.sz)) hfr hl hx 28 dst nm (some aa) p2 p3 nl l2 l3 c1 c2 c3 (BA,cn)).mono ?_;rintro e w3 ⟨rfl,hm,hb⟩));(try simp only[pE]);exact hK.out _ (Ah.done ⟨hm,(z.s.1 z.i).mono (AX hBN hM.own.sz)|>.trans hb⟩);rfl);refine Ab.nil fun w6 H6=>?_;obtain⟨hm,hb⟩:=H6.2 rfl;go_wp2;go_end0;exact⟨rfl,⟨_,hm⟩,Db.trans hb⟩
theorem jh{P:World->Prop}(hc:Calls prog 78 #[.pointer (some ⟨M,0,none⟩),.agg #[.int .i64 25,.string d,.string n,.slice p1 l1 c1,.slice p2 l2 c2,.slice p3 l3 c3]] (w.alloc (.cells #[.int .i64 25,.string d,.string n,.slice p1 l1 c1,.slice p2 l2 c2,.slice p3 l3 c3] 133)) fun e w'=>e=.returned (.tuple #[])/\P w'):Calls prog 53 #[.pointer (some ⟨M,0,none⟩),.agg #[.int .i64 25,.string d,.string n,.slice p1 l1 c1,.slice p2 l2 c2,.slice p3 l3 c3]] w fun e w'=>e=.returned (.tuple #[])/\P w':=by
 go_enter func53,ntmps53;go_wp2_with fail;refine hc.mono ?_;rintro e w2 ⟨rfl,hP⟩;clear hc;go_wp2;go_end0;exact⟨rfl,hP⟩
theorem Vb{P:World->Prop}(hc:Calls prog 79 #[.pointer (some ⟨M,0,none⟩),.agg #[.int .i64 26,.string d,.string n,.slice p1 l1 c1,.slice p2 l2 c2,.slice p3 l3 c3]] (w.alloc (.cells #[.int .i64 26,.string d,.string n,.slice p1 l1 c1,.slice p2 l2 c2,.slice p3 l3 c3] 133)) fun e w'=>e=.returned (.tuple #[])/\P w'):Calls prog 53 #[.pointer (some ⟨M,0,none⟩),.agg #[.int .i64 26,.string d,.string n,.slice p1 l1 c1,.slice p2 l2 c2,.slice p3 l3 c3]] w fun e w'=>e=.returned (.tuple #[])/\P w':=by
 go_enter func53,ntmps53;go_wp2_with fail;refine hc.mono ?_;rintro e w2 ⟨rfl,hP⟩;clear hc;go_wp2;go_end0;exact⟨rfl,hP⟩
theorem RS{P:World->Prop}(hc:Calls prog 79 #[.pointer (some ⟨M,0,none⟩),.agg #[.int .i64 27,.string d,.string n,.slice p1 l1 c1,.slice p2 l2 c2,.slice p3 l3 c3]] (w.alloc (.cells #[.int .i64 27,.string d,.string n,.slice p1 l1 c1,.slice p2 l2 c2,.slice p3 l3 c3] 133)) fun e w'=>e=.returned (.tuple #[])/\P w'):Calls prog 53 #[.pointer (some ⟨M,0,none⟩),.agg #[.int .i64 27,.string d,.string n,.slice p1 l1 c1,.slice p2 l2 c2,.slice p3 l3 c3]] w fun e w'=>e=.returned (.tuple #[])/\P w':=by
 go_enter func53,ntmps53;go_wp2_with fail;refine hc.mono ?_;rintro e w2 ⟨rfl,hP⟩;clear hc;go_wp2;go_end0;exact⟨rfl,hP⟩
theorem bH{P:World->Prop}(hc:Calls prog 81 #[.pointer (some ⟨M,0,none⟩),.agg #[.int .i64 29,.string d,.string n,.slice p1 l1 c1,.slice p2 l2 c2,.slice p3 l3 c3]] (w.alloc (.cells #[.int .i64 29,.string d,.string n,.slice p1 l1 c1,.slice p2 l2 c2,.slice p3 l3 c3] 133)) fun e w'=>e=.returned (.tuple #[])/\P w'):Calls prog 53 #[.pointer (some ⟨M,0,none⟩),.agg #[.int .i64 29,.string d,.string n,.slice p1 l1 c1,.slice p2 l2 c2,.slice p3 l3 c3]] w fun e w'=>e=.returned (.tuple #[])/\P w':=by
 go_enter func53,ntmps53;go_wp2_with fail;refine hc.mono ?_;rintro e w2 ⟨rfl,hP⟩;clear hc;go_wp2;go_end0;exact⟨rfl,hP⟩
theorem XM{P:World->Prop}(hc:Calls prog 81 #[.pointer (some ⟨M,0,none⟩),.agg #[.int .i64 30,.string d,.string n,.slice p1 l1 c1,.slice p2 l2 c2,.slice p3 l3 c3]] (w.alloc (.cells #[.int .i64 30,.string d,.string n,.slice p1 l1 c1,.slice p2 l2 c2,.slice p3 l3 c3] 133)) fun e w'=>e=.returned (.tuple #[])/\P w'):Calls prog 53 #[.pointer (some ⟨M,0,none⟩),.agg #[.int .i64 30,.string d,.string n,.slice p1 l1 c1,.slice p2 l2 c2,.slice p3 l3 c3]] w fun e w'=>e=.returned (.tuple #[])/\P w':=by
 go_enter func53,ntmps53;go_wp2_with fail;refine hc.mono ?_;rintro e w2 ⟨rfl,hP⟩;clear hc;go_wp2;go_end0;exact⟨rfl,hP⟩
theorem ji{P:World->Prop}(hc:Calls prog 82 #[.pointer (some ⟨M,0,none⟩),.agg #[.int .i64 31,.string d,.string n,.slice p1 l1 c1,.slice p2 l2 c2,.slice p3 l3 c3]] (w.alloc (.cells #[.int .i64 31,.string d,.string n,.slice p1 l1 c1,.slice p2 l2 c2,.slice p3 l3 c3] 133)) fun e w'=>e=.returned (.tuple #[])/\P w'):Calls prog 53 #[.pointer (some ⟨M,0,none⟩),.agg #[.int .i64 31,.string d,.string n,.slice p1 l1 c1,.slice p2 l2 c2,.slice p3 l3 c3]] w fun e w'=>e=.returned (.tuple #[])/\P w':=by
 go_enter func53,ntmps53;go_wp2_with fail;refine hc.mono ?_;rintro e w2 ⟨rfl,hP⟩;clear hc;go_wp2;go_end0;exact⟨rfl,hP⟩
theorem rX{P:World->Prop}(hc:Calls prog 83 #[.pointer (some ⟨M,0,none⟩),.agg #[.int .i64 32,.string d,.string n,.slice p1 l1 c1,.slice p2 l2 c2,.slice p3 l3 c3]] (w.alloc (.cells #[.int .i64 32,.string d,.string n,.slice p1 l1 c1,.slice p2 l2 c2,.slice p3 l3 c3] 133)) fun e w'=>e=.returned (.tuple #[])/\P w'):Calls prog 53 #[.pointer (some ⟨M,0,none⟩),.agg #[.int .i64 32,.string d,.string n,.slice p1 l1 c1,.slice p2 l2 c2,.slice p3 l3 c3]] w fun e w'=>e=.returned (.tuple #[])/\P w':=by
 go_enter func53,ntmps53;go_wp2_with fail;refine hc.mono ?_;rintro e w2 ⟨rfl,hP⟩;clear hc;go_wp2;go_end0;exact⟨rfl,hP⟩
theorem bG{P:World->Prop}(hc:Calls prog 85 #[.pointer (some ⟨M,0,none⟩),.agg #[.int .i64 34,.string d,.string n,.slice p1 l1 c1,.slice p2 l2 c2,.slice p3 l3 c3]] (w.alloc (.cells #[.int .i64 34,.string d,.string n,.slice p1 l1 c1,.slice p2 l2 c2,.slice p3 l3 c3] 133)) fun e w'=>e=.returned (.tuple #[])/\P w'):Calls prog 53 #[.pointer (some ⟨M,0,none⟩),.agg #[.int .i64 34,.string d,.string n,.slice p1 l1 c1,.slice p2 l2 c2,.slice p3 l3 c3]] w fun e w'=>e=.returned (.tuple #[])/\P w':=by
 go_enter func53,ntmps53;go_wp2_with fail;refine hc.mono ?_;rintro e w2 ⟨rfl,hP⟩;clear hc;go_wp2;go_end0;exact⟨rfl,hP⟩
theorem XL{op:Int}(hop:1<=op/\op<=21){P:World->Prop}(hc:Calls prog 86 #[.pointer (some ⟨M,0,none⟩),.agg #[.int .i64 op,.string d,.string n,.slice p1 l1 c1,.slice p2 l2 c2,.slice p3 l3 c3]] (w.alloc (.cells #[.int .i64 op,.string d,.string n,.slice p1 l1 c1,.slice p2 l2 c2,.slice p3 l3 c3] 133)) fun e w'=>e=.returned (.tuple #[])/\P w'):Calls prog 53 #[.pointer (some ⟨M,0,none⟩),.agg #[.int .i64 op,.string d,.string n,.slice p1 l1 c1,.slice p2 l2 c2,.slice p3 l3 c3]] w fun e w'=>e=.returned (.tuple #[])/\P w':=by
 have no:∀k:Int,22<=k->(op==k)=false:=fun k hk=>by simp;omega
 have n22:=no 22 (by decide);have n23:=no 23 (by decide);have n24:=no 24 (by decide);have n25:=no 25 (by decide);have n26:=no 26 (by decide);have n27:=no 27 (by decide);have n28:=no 28 (by decide);have n29:=no 29 (by decide);have n30:=no 30 (by decide);have n31:=no 31 (by decide);have n32:=no 32 (by decide);have n33:=no 33 (by decide);have n34:=no 34 (by decide);go_enter func53,ntmps53;go_wp2_with fail;refine hc.mono ?_;rintro e w2 ⟨rfl,hP⟩;go_wp2;go_end0;exact⟨rfl,hP⟩
end Go.Proofs.YtlffomedflegdaaGreatDoor
