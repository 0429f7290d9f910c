/- Part 4 of 49 of the proof: Kit, Lift, Arg, Find, Typ, RLook, Var, Frm, Fld. -/
import Derived.WalkKit
import Derived.WalkSpells
import Derived.WalkLawsBesides
import Derived.Lib.Hide
import Derived.LoopTactic
import Derived.Laws.IdiomStrings
import Derived.Laws.AppendOwnNone
import Derived.Test.YtlffomedflegdaaGreatDoorRows
import Derived.ProofKit
import Derived.OpenShut
import Derived.Carry
import Derived.Deep.QuietTactic
import Derived.BigQuiet
import Derived.Deep.RegionHeld3
import Derived.Test.YtlffomedflegdaaGreatDoorPz00
import Derived.Test.YtlffomedflegdaaGreatDoorPz03
set_option linter.all false
set_option maxHeartbeats 16000000
set_option maxRecDepth 100000
namespace Go.Proofs.YtlffomedflegdaaGreatDoor
open Go.Proofs.Tryz
open Go.RowKit
variable {H:Type}{P:Program}{W w w0:World}{f:Fn}{l:List UInt8}{s x:ByteArray}{u1 u2 u3 v v1 v2 v3 v4:Value}
theorem FQ{k:IntKind}{a b:Int}(h:a=b):Ending.returned (.int k a)=.returned (.int k b):=by rw[h]
theorem EF{a b:Bool}(h:a=b):Ending.returned (.bool a)=.returned (.bool b):=by rw[h]
theorem Vk{a b:ByteArray}(h:a=b):Ending.returned (.string a)=.returned (.string b):=by rw[h]
theorem Ik{B i j:Nat}(h:i≠j):(⟨B,i,none⟩:Addr)≠⟨B,j,none⟩:=by grind
def Gg(b:UInt8):Value:=.int .u8 (b.toNat:Int)
theorem D7{base:Nat}{src dst e:TypeId}{n:Nat}(hs:P.underlying src=some (.slice e))(he:P.underlying e=some (.int .u8))(hd:P.underlying dst=some .string)(hown:w.ownsRow base e 1 v n (l.map Gg)):(convert src dst v).run P w=.ok (.string ⟨l.toArray⟩) w:=by
 have hlen:l.length=n:=by simpa using hown.1
 rcases hown.2 with⟨rfl,h0⟩|⟨g,cap,cur,rfl,_⟩
 ·have:l=[]:=List.length_eq_zero_iff.1 (by omega);subst this;rw[run_convert_bytes_string w src dst e none 0 0 hs he hd];rfl
 ·subst hlen;refine run_convert_bytes_back w src dst e ⟨g,0,none⟩ cap l hs he hd fun j hj=>?_;exact hown.cells rfl j _ (by simp[Gg,List.getElem?_eq_getElem hj])
theorem NM(w:World)(row:Option Nat):w.grownBy w row:=⟨rfl,rfl,rfl,AQ,fun _ _ _=>rfl⟩
theorem CP{ops:Array Oper}{rest:List Oper}{o:Oper}{a:Act}{Q:Exit->Act->World->Prop}(hgd:o.guard=none)(s x:Operand)(t:TypeId)(ho:o.op=.call {callee:=.builtin .append,args:=#[s,x],argTypes:=#[t,t]})(base:Nat) (e:TypeId) (i:TypeInfo) (z:Value) (size bytes:Nat) (ht:P.underlying t=some (.slice e)) (hi:P.info? e=some i) (hz:i.zero=some z)(hsize:i.size=size) (hby:i.bytes=bytes) (hzs:z.cells.size=size) (hsz:0<size)(v:Value) (n:Nat) (xs:List Value) (hs:a.eval s=v) (hown:w.ownsRow base e size v n xs)(AAu:Nat) (vx:Value) (m:Nat) (news:List Value) (hx:a.eval x=vx) (hsrc:w.ownsRow AAu e size vx m news) (h1:∀u∈news,u.oneCell'=true)(h63:n+m<=maxLen) (hbytes:(n+m)*bytes<=140737488355328) (hbase:base<=w.heap.size)(h:∀v' w',w'.ownsRow base e size v' (n+m) (xs++news)->w.grownBy w' v.ownBlock->wpList P ops Q rest (a.put o.dst v') w'):wpList P ops Q (o::rest) a w:=by
 rcases hsrc.2 with⟨rfl,h0⟩|⟨g,cap,cur,rfl,h2⟩
 ·have hn:news=[]:=List.length_eq_zero_iff.1 (by rw[hsrc.1,h0];simp);subst hn;subst h0;exact wpList_append_own_none hgd s x t ho base e i size ht hi v n xs hs hown hx (h v w (by simpa using hown) (NM _ _))
 ·exact wpList_append_own w hgd s x t ho base e i z size bytes ht hi hz hsize hby hzs hsz v n xs hs hown ⟨g,0,none⟩ m cap news hx hsrc.1 (hsrc.cells rfl) h1 h63 hbytes hbase (fun v' w' k1 k2 _=>h v' w' k1 k2)
theorem Es(l:List UInt8):∀u∈l.map Gg,u.oneCell'=true:=by
 intro u hu;obtain⟨b,_,rfl⟩:=List.mem_map.1 hu;rfl
section
open Go.ChangeShapes Go.WideShapes Go.ChangeAt
theorem Tryz.ownKnob:ownKnob prog.godebug=none:=by kernel_rfl
theorem Tryz.laidOut:laidOutB prog=true:=by kernel_rfl
theorem Nw{enc:TypeId×Value->H}(hl:laidOutB P=true){W':World}(hb:AA6 W W'):∀(ts:List TypeId) (vs:List Value) (ds:List (DataW H)) (ps:List MemPlace),(∀t∈ts,P.readableRec t=true)->(∀t∈ts,t<P.types.size)->DataW.TrodAll enc P W 0 (fun _=>true) true ts vs ds ps->(∀x∈ps,x.block<W.heap.size)->DataW.TrodAll enc P W' 0 (fun b=>decide (b<W.heap.size)) true ts vs ds ps:=by
 intro ts
 induction ts with
 |nil=>
  intro vs ds ps _ _ h _;obtain⟨rfl,rfl,rfl⟩:=trodAll_nil h
  exact trodAll_mk0
 |cons t ts ih=>
  intro vs ds ps hr ht h hlt;obtain⟨v,vs',d,ds',p,q,rfl,rfl,rfl,h1,h2⟩:=trodAll_cons h;exact trodAll_cons_mk (Below.trod hl (hr t (by simp)) (ht t (by simp)) h1 hb (fun x hx=>hlt x (by simp[hx])))
   (ih vs' ds' q (fun t ht=>hr t (by simp[ht])) (fun t h=>ht t (by simp[h])) h2 (fun x hx=>hlt x (by simp[hx])))
theorem law_post{enc:TypeId×Value->H}{f:Func}{s:ChangeSpec}{W':World}{args:Array Value}{ds gs:List (DataW H)}{before:List MemPlace}{T:TypeId}(hl:laidOutB P=true) (hr:∀t∈f.params.toList,P.readableRec t=true) (ht:∀t∈f.params.toList,t<P.types.size) (hvars:s.vars=[]) (hres:f.resultTypes=#[T]) (hT:P.underlying T=some .bool)(hW:DataW.Whole enc P f.params.toList s.vars false W args.toList ds gs before) (hfn:s.fn H (ds++gs)={results:=[.lit (.bool true)],args:=ds}) (hb:AA6 W W'):s.post enc P f false true false false W args (.bool true) W':=by
 have hW':=hW;obtain⟨p,q,hA,hV,rfl,hfz,hnd⟩:=hW;rw[hvars]at hV;obtain⟨rfl,rfl⟩:=trodVars_none hV;have hlt:∀x∈p,x.block<W.heap.size:=fun x hx=>by simpa using hW'.lt x (by simp[hx])
 refine⟨ds,[],_,[],p,[],hW',?_,?_,?_,hb.frame _,fun h=>by cases h⟩
 ·rw[hfn,hres];exact trodAll_cons_mk (shut_bool hT _) trodAll_mk0
 ·rw[hfn];exact Nw hl hb _ _ _ _ hr ht hA hlt
 ·rw[hfn,hvars];exact rfl
theorem law_calls{enc:TypeId×Value->H}{F:FuncId}{f:Func}{s:ChangeSpec}{args:Array Value}{ds gs:List (DataW H)}{before:List MemPlace}{T:TypeId}(hl:laidOutB P=true) (hr:∀t∈f.params.toList,P.readableRec t=true) (ht:∀t∈f.params.toList,t<P.types.size) (hvars:s.vars=[]) (hres:f.resultTypes=#[T]) (hT:P.underlying T=some .bool)(hW:DataW.Whole enc P f.params.toList s.vars false W args.toList ds gs before) (hfn:s.fn H (ds++gs)={results:=[.lit (.bool true)],args:=ds})(hc:Calls P F args W fun e W'=>e=.returned (.bool true)/\AA6 W W'):Calls P F args W fun e W'=>∃v,e=.returned v/\s.post enc P f false true false false W args v W':=
 hc.mono fun _ _ ⟨he,hb⟩=>⟨_,he,law_post hl hr ht hvars hres hT hW hfn hb⟩
theorem AAt{w1 w2:World}(h1:AA6 w w1)(h2:AA6 w1 w2):AA6 w w2:=h1.trans (h2.mono h1.size)
end
section
@[go_sem] theorem AGm (a c b d:Int) (s t:ByteArray) (w:World):(Op.equalIn 10000 77 (.agg #[.int .i64 a,.string s,.int .i64 b]) (.agg #[.int .i64 c,.string t,.int .i64 d])).run prog w=.ok (a==c&& (s.toList==t.toList)&&b==d) w:=by
 have u3:=underlying3;have u9:=underlying9;have u2:=underlying2;have a3:=Tryz.isAgg3;have z3:=Tryz.sizeOf3;have a9:=Tryz.isAgg9;have z9:=Tryz.sizeOf9;have a2:=Tryz.isAgg2;have z2:=Tryz.sizeOf2;have hS:prog.underlying 77=some (.struct (prog.fieldsOf 77)):=by kernel_rfl
 have hp:prog.stoodInHeld 77=false:=by kernel_rfl
 rw[show(10000:Nat)=9999+1 from rfl,run_equalIn_agg w 9999 77 _ _ hS hp];simp only[Program.fieldsOf,underlying77];go_simp;by_cases h1:a=c<;>by_cases h2:b=d<;>by_cases h3:s.toList=t.toList<;>simp[h1,h2,h3]
@[go_sem] theorem AJz (w:World):(Instr.build 77 #[]).run prog w=.ok (.agg #[.int .i64 0,.string {data:=#[]},.int .i64 0]) w:=run_build w 77 _ _ (by kernel_rfl)
@[go_sem] theorem AJy (a:Int) (s:ByteArray) (w:World):(Instr.build 77 #[(0,.int .i64 a),(1,.string s)]).run prog w=.ok (.agg #[.int .i64 a,.string s,.int .i64 0]) w:=run_build w 77 _ _ (by kernel_rfl)
@[go_sem] theorem AJx (a b:Int) (w:World):(Instr.build 77 #[(0,.int .i64 a),(2,.int .i64 b)]).run prog w=.ok (.agg #[.int .i64 a,.string {data:=#[]},.int .i64 b]) w:=run_build w 77 _ _ (by kernel_rfl)
theorem GQ{fn:Func}{p:Tmp}{ty:TypeId}(h:fn.results=#[.cell p ty])(tmps:Array Value)(P:Program)(w:World):(results fn tmps).run P w=((asAddr (tmps.getD p undef)).run P w).andThen fun a w₁=>(loadVar ty a).run P w₁:=by
 simp only[results,h];simp
section
variable {P : Program} {fn : Func} {R : Ending -> World -> Prop} {a : Act} {w : World} {v : Value} {p u t : Tmp} {ty oo : TypeId}
theorem rO(h:fn.results=#[.cell p ty])(hr:(((asAddr (a.tmps.getD p undef)).run P w).andThen fun b w₁=>(loadVar ty b).run P w₁)=.ok v w)(hd:a.defers=[])(hR:R (.returned v) w):bodyPost P fn R .ret a w:=
 bodyPost_ret_by ((GQ h _ _ _).trans hr) hd hR
end
end
theorem EZ(h:s=x):(s.toList==x.toList)=true:=by rw[h];simp
theorem Ea(h:s≠x):(s.toList==x.toList)=false:=by
 rw[beq_eq_false_iff_ne];intro e;apply h;rw[ByteArray.toList_eq,ByteArray.toList_eq]at e;cases s;cases x;simp_all
def Ai{α:Type}(nm:α->ByteArray)(x:ByteArray):List α->Option α
 | []=>none
 |y::r=>if nm y=x then some y else Ai nm x r
def rR(w':World)(r:Option Cl)(e:Ending):Prop:=match r with
 |some c=>∃v u,e=.returned (.tuple #[v,.bool true])/\jQ w' v c u
 |none=>e=.returned (.tuple #[.agg #[.string ⟨#[]⟩,.slice none 0 0],.bool false])
def AEn(w':World)(r:Option Fn)(e:Ending):Prop:=match r with
 |some c=>∃v u1 u2 u3,e=.returned (.tuple #[v,.bool true])/\EL w' v c u1 u2 u3
 |none=>e=.returned (.tuple #[.agg #[.string ⟨#[]⟩,.string ⟨#[]⟩,.slice none 0 0,.slice none 0 0,.slice none 0 0],.bool false])
def XA(_:World)(r:Option Vr)(e:Ending):Prop:=match r with
 |some c=>e=.returned (.tuple #[.agg #[.string c.n,.string c.t],.bool true])/\Sz c.n/\Sz c.t
 |none=>e=.returned (.tuple #[.agg #[.string ⟨#[]⟩,.string ⟨#[]⟩],.bool false])
def AEm(_:World)(r:Option Ex)(e:Ending):Prop:=match r with
 |some c=>e=.returned (.tuple #[.agg #[.string c.n,.int .i64 c.k],.bool true])/\Sz c.n
 |none=>e=.returned (.tuple #[.agg #[.string ⟨#[]⟩,.int .i64 0],.bool false])
theorem Oo(s:ByteArray)(u1:Value)(w:World):Calls prog 192 #[.agg #[.string s,u1]] w fun e w'=>e=.returned (.string s)/\AA6 w w':=by
 go_enter func192,ntmps192;go_wp2;go_ret;exact⟨rfl,AJ _ _⟩
theorem Om(s t:ByteArray)(u1 u2 u3:Value)(w:World):Calls prog 43 #[.agg #[.string s,.string t,u1,u2,u3]] w fun e w'=>e=.returned (.string s)/\AA6 w w':=by
 go_enter func43,ntmps43;go_wp2;go_ret;exact⟨rfl,AJ _ _⟩
abbrev BA:ByteArray:=⟨#[105,110,116]⟩
abbrev Ao:ByteArray:=⟨#[102,108,111,97,116]⟩
abbrev Fx:ByteArray:=⟨#[110,117,108,108]⟩
def Dq(s:ByteArray):Bool:=decide (s≠BA)&&decide (s≠Ao)
def Du(a b:ByteArray):Bool:=decide (a=b)||(decide (a=Fx)&&Dq b)
def varOf(f:Fn)(x:ByteArray):Option Vr:=match Ai Vr.n x f.ps with
 |some v=>some v
 |none=>Ai Vr.n x f.vs
def GJ(f:Fn)(a:Ag):Option ByteArray:=
 if a.k=1 then(varOf f a.s).map Vr.t else if a.k=2 then some BA else if a.k=3 then some Ao else if a.k=4 then some Fx else none
def EH(p:Pg)(c x:ByteArray):Option Vr:=match Ai Cl.n c p.cs with
 |none=>none
 |some c=>Ai Vr.n x c.fs
def rQ(r:Option ByteArray)(e:Ending):Prop:=match r with
 |some t=>e=.returned (.tuple #[.string t,.bool true])/\Sz t
 |none=>e=.returned (.tuple #[.string ⟨#[]⟩,.bool false])
theorem FE(h:s=⟨l.toArray⟩):(s.toList==l)=true:=by simp_all
theorem D9(h:s≠⟨l.toArray⟩):(s.toList==l)=false:=by
 rw[beq_eq_false_iff_ne];intro e;apply h;rw[ByteArray.toList_eq]at e;cases s;simp only[ByteArray.mk.injEq];grind
theorem Ii(s:ByteArray)(w:World):Calls prog 126 #[.string s] w fun e w'=>e=.returned (.bool (Dq s))/\w=w':=by
 unfold Dq;by_cases h1:s=BA
 ·have e1:=FE (l:=[105,110,116]) h1;rw[decide_eq_false (by simpa using h1),Bool.false_and];clear h1;go_enter func126,ntmps126;go_wp2;go_ret;exact⟨rfl,rfl⟩
 ·have e1:=D9 (l:=[105,110,116]) h1;rw[decide_eq_true (by simpa using h1),Bool.true_and];by_cases h2:s=Ao
  ·have e2:=FE (l:=[102,108,111,97,116]) h2;rw[decide_eq_false (by simpa using h2)];clear h1 h2;go_enter func126,ntmps126;go_wp2;go_ret;exact⟨rfl,rfl⟩
  ·have e2:=D9 (l:=[102,108,111,97,116]) h2;rw[decide_eq_true (by simpa using h2)];clear h1 h2;go_enter func126,ntmps126;go_wp2;go_ret;exact⟨rfl,rfl⟩
theorem Gt(s t:ByteArray)(w:World):Calls prog 182 #[.string s,.string t] w fun e w'=>e=.returned (.bool (Du s t))/\w=w':=by
 unfold Du;have hR:=Ii t w;by_cases h1:s=t
 ·have e1:=EZ h1;rw[decide_eq_true h1,Bool.true_or];clear h1 hR;go_enter func182,ntmps182;go_wp2_with fail;go_ret;exact⟨rfl,rfl⟩
 ·have e1:=Ea h1;rw[decide_eq_false h1,Bool.false_or];clear h1;by_cases h2:s=Fx
  ·have e2:=FE (l:=[110,117,108,108]) h2;rw[decide_eq_true h2,Bool.true_and];clear h2;generalize Dq t=b at*;go_enter func182,ntmps182;go_wp2_with fail;refine hR.mono ?_;rintro e w1 ⟨rfl,rfl⟩;go_wp2_with fail;go_ret;exact⟨rfl,rfl⟩
  ·have e2:=D9 (l:=[110,117,108,108]) h2;rw[decide_eq_false h2,Bool.false_and];clear h2 hR;go_enter func182,ntmps182;go_wp2_with fail;go_ret;exact⟨rfl,rfl⟩
theorem MU(h0:AA6 w0 w){l:List Vr}(hl:Row IU 2 w0 v l)(x:ByteArray):Calls prog 220 #[v,.string x] w fun e w'=>AA6 w w'/\XA w0 (Ai Vr.n x l) e:=by
 obtain⟨p,cu,rfl,-,hn,hl⟩:=hl;generalize hf:Ai Vr.n x l=r0;go_enter func220,ntmps220;go_wp2;go_loopw[6] (fun i wr=>∃q:Nat,q<=l.length/\i=.int .i64 (q:Int)/\AA6 w wr/\Ae wr w.heap.size [.string ⟨#[]⟩,.string ⟨#[]⟩]/\Ai Vr.n x (l.drop q)=r0) (fun i _=>l.length-(intOf i).toNat);exact⟨0,AY,rfl,AJ _ _,Ae.alloc w [.string ⟨#[]⟩,.string ⟨#[]⟩] _,hf⟩;obtain⟨q,hq,rfl,hb,hB,hf⟩:=hrel;obtain⟨d0,d1⟩:=hB.c2;obtain⟨g0,g1⟩:=hB.f2;by_cases hend:q=l.length
 ·subst hend;rw[List.drop_length]at hf;subst hf;have hb6:=(hb.setCell (p:=⟨w.heap.size,0,none⟩) (AQ) (.string ⟨#[]⟩)).setCell (p:=⟨w.heap.size,1,none⟩) (AQ) (.string ⟨#[]⟩);go_wp2;(refine rB rfl (by go_simp;try rfl) rfl ?_);exact⟨hb6,rfl⟩
 ·have hlt:q<l.length:=by omega
  have A8:(q:Int)<l.length:=by omega
  rw[List.drop_eq_getElem_cons hlt,Ai]at hf;obtain⟨a,rfl,hA⟩:=hl q l[q] (by simp[hlt]);generalize l[q]=y at*;obtain⟨⟨c0,z0⟩,c1,z1⟩:=hA;have c0:=AA (AB h0 hb) c0;have c1:=AA (AB h0 hb) c1;by_cases hy:y.n=x
  ·have he:=EZ hy;rw[if_pos hy]at hf;subst hf;have hb6:=(hb.setCell (p:=⟨w.heap.size,0,none⟩) (AQ) (.string y.n)).setCell (p:=⟨w.heap.size,1,none⟩) (AQ) (.string y.t);clear hy hB hb hend hq hlt;go_wp2;(refine rB rfl (by go_simp;try rfl) rfl ?_);exact⟨hb6,rfl,z0,z1⟩
  ·have he:=Ea hy;rw[if_neg hy]at hf;go_wp2;go_roundw;exact⟨q+1,by omega,by go_num,hb,hB,hf⟩;simp[intOf];omega
theorem Hq(h0:AA6 w0 w){p:Pg}(hp:Cj w0 v p v1 v2 v3 v4)(x:ByteArray):Calls prog 94 #[v,.string x] w fun e w'=>AA6 w w'/\rR w0 (Ai Cl.n x p.cs) e:=by
 obtain⟨rfl,hc,hg,hx,hf⟩:=hp;obtain⟨pl,kl,rfl,-,hn,hl⟩:=hc;have hb1:=AJ w (.cells #[.bool p.ssa,(.slice pl p.cs.length kl),v2,v3,v4] 27);have hb2:=hb1.alloc hb1.size (.cells #[.string ⟨#[]⟩,.slice none 0 0] 153);have hP:=(Ae.alloc w [.bool p.ssa,(.slice pl p.cs.length kl),v2,v3,v4] 27).al (.cells #[.string ⟨#[]⟩,.slice none 0 0] 153);have hB:=Ae.alloc (w.alloc (.cells #[.bool p.ssa,(.slice pl p.cs.length kl),v2,v3,v4] 27)) [(.string ⟨#[]⟩),(.slice none 0 0)] 153;have hs:(w.alloc (.cells #[.bool p.ssa,(.slice pl p.cs.length kl),v2,v3,v4] 27)).heap.size=w.heap.size+1:=by simp
 rw[hs]at hB;generalize hf:Ai Cl.n x p.cs=r0;go_enter func94,ntmps94;go_wp2;go_loopw[6] (fun i wr=>∃q:Nat,q<=p.cs.length/\i=.int .i64 (q:Int)/\AA6 w wr/\Ae wr w.heap.size [.bool p.ssa,(.slice pl p.cs.length kl),v2,v3,v4]/\Ae wr (w.heap.size+1) [(.string ⟨#[]⟩),(.slice none 0 0)]/\Ai Cl.n x (p.cs.drop q)=r0) (fun i _=>p.cs.length-(intOf i).toNat);exact⟨0,AY,rfl,hb2,hP,hB,hf⟩;clear hb2 hP hB hf;obtain⟨q,hq,rfl,hb,hP,hB,hf⟩:=hrel;have p1:=hP.c 1 _ rfl;have hw1:w.heap.size<=w.heap.size+1:=Aa;have hlt2:=hB.lt;obtain⟨d0,d1⟩:=hB.c2;obtain⟨g0,g1⟩:=hB.f2;by_cases hend:q=p.cs.length
 ·subst hend;rw[List.drop_length]at hf;subst hf;have hb6:=hb;have hb6:=hb6.setCell (p:=⟨w.heap.size+1,0,none⟩) hw1 (.string ⟨#[]⟩);have hb6:=hb6.setCell (p:=⟨w.heap.size+1,1,none⟩) hw1 (.slice none 0 0);go_wp2;(refine rB rfl (by go_simp;try rfl) rfl ?_);exact⟨hb6,rfl⟩
 ·have hlt:q<p.cs.length:=by omega
  have A8:(q:Int)<p.cs.length:=by omega
  rw[List.drop_eq_getElem_cons hlt,Ai]at hf;obtain⟨a,rfl,hA⟩:=hl q p.cs[q] (by simp[hlt]);clear hl;generalize p.cs[q]=y at*;obtain⟨⟨c0,z0⟩,u1,c1,r1⟩:=hA;have hb0:=AB h0 hb;have c0:=AA hb0 c0;have c1:=AA hb0 c1;obtain⟨p1',k1,rfl⟩:=r1.slice;by_cases hy:y.n=x
  ·have he:=EZ hy;rw[if_pos hy]at hf;subst hf;have hb6:=hb;have hb6:=hb6.setCell (p:=⟨w.heap.size+1,0,none⟩) hw1 (.string y.n);have hb6:=hb6.setCell (p:=⟨w.heap.size+1,1,none⟩) hw1 (.slice p1' y.fs.length k1);clear hy hP hB hb hend hq hlt;go_wp2;(refine rB rfl (by go_simp;try rfl) rfl ?_);exact⟨hb6,_,_,rfl,⟨rfl,z0,r1⟩⟩
  ·have he:=Ea hy;rw[if_neg hy]at hf;go_wp2;go_roundw;exact⟨q+1,by omega,by go_num,hb,hP,hB,hf⟩;simp[intOf];omega
theorem Uf(h0:AA6 w0 w){p:Pg}(hp:Cj w0 v p v1 v2 v3 v4)(x:ByteArray):Calls prog 32 #[v,.string x] w fun e w'=>AA6 w w'/\AEn w0 (Ai Fn.n x p.fs) e:=by
 obtain⟨rfl,hc,hg,hx,hf⟩:=hp;obtain⟨pl,kl,rfl,-,hn,hl⟩:=hf;have hb1:=AJ w (.cells #[.bool p.ssa,v1,v2,v3,(.slice pl p.fs.length kl)] 27);have hb2:=hb1.alloc hb1.size (.cells #[.string ⟨#[]⟩,.string ⟨#[]⟩,.slice none 0 0,.slice none 0 0,.slice none 0 0] 66);have hP:=(Ae.alloc w [.bool p.ssa,v1,v2,v3,(.slice pl p.fs.length kl)] 27).al (.cells #[.string ⟨#[]⟩,.string ⟨#[]⟩,.slice none 0 0,.slice none 0 0,.slice none 0 0] 66);have hB:=Ae.alloc (w.alloc (.cells #[.bool p.ssa,v1,v2,v3,(.slice pl p.fs.length kl)] 27)) [(.string ⟨#[]⟩),(.string ⟨#[]⟩),(.slice none 0 0),(.slice none 0 0),(.slice none 0 0)] 66;have hs:(w.alloc (.cells #[.bool p.ssa,v1,v2,v3,(.slice pl p.fs.length kl)] 27)).heap.size=w.heap.size+1:=by simp
 rw[hs]at hB;generalize hf:Ai Fn.n x p.fs=r0;go_enter func32,ntmps32;go_wp2;go_loopw[6] (fun i wr=>∃q:Nat,q<=p.fs.length/\i=.int .i64 (q:Int)/\AA6 w wr/\Ae wr w.heap.size [.bool p.ssa,v1,v2,v3,(.slice pl p.fs.length kl)]/\Ae wr (w.heap.size+1) [(.string ⟨#[]⟩),(.string ⟨#[]⟩),(.slice none 0 0),(.slice none 0 0),(.slice none 0 0)]/\Ai Fn.n x (p.fs.drop q)=r0) (fun i _=>p.fs.length-(intOf i).toNat);exact⟨0,AY,rfl,hb2,hP,hB,hf⟩;clear hb2 hP hB hf;obtain⟨q,hq,rfl,hb,hP,hB,hf⟩:=hrel;have p1:=hP.c 4 _ rfl;have hw1:w.heap.size<=w.heap.size+1:=Aa;have hlt2:=hB.lt;obtain⟨d0,d1,d2,d3,d4⟩:=hB.c5;obtain⟨g0,g1,g2,g3,g4⟩:=hB.f5;by_cases hend:q=p.fs.length
 ·subst hend;rw[List.drop_length]at hf;subst hf;have hb6:=hb;have hb6:=hb6.setCell (p:=⟨w.heap.size+1,0,none⟩) hw1 (.string ⟨#[]⟩);have hb6:=hb6.setCell (p:=⟨w.heap.size+1,1,none⟩) hw1 (.string ⟨#[]⟩);have hb6:=hb6.setCell (p:=⟨w.heap.size+1,2,none⟩) hw1 (.slice none 0 0);have hb6:=hb6.setCell (p:=⟨w.heap.size+1,3,none⟩) hw1 (.slice none 0 0);have hb6:=hb6.setCell (p:=⟨w.heap.size+1,4,none⟩) hw1 (.slice none 0 0);go_wp2;(refine rB rfl (by go_simp;try rfl) rfl ?_);exact⟨hb6,rfl⟩
 ·have hlt:q<p.fs.length:=by omega
  have A8:(q:Int)<p.fs.length:=by omega
  rw[List.drop_eq_getElem_cons hlt,Ai]at hf;obtain⟨a,rfl,hA⟩:=hl q p.fs[q] (by simp[hlt]);clear hl;generalize p.fs[q]=y at*;obtain⟨⟨c0,z0⟩,⟨c1,z1⟩,⟨u1,c2,r1⟩,⟨u2,c3,r2⟩,u3,c4,r3⟩:=hA;have hb0:=AB h0 hb;have c0:=AA hb0 c0;have c1:=AA hb0 c1;have c2:=AA hb0 c2;have c3:=AA hb0 c3;have c4:=AA hb0 c4;obtain⟨p1',k1,rfl⟩:=r1.slice;obtain⟨p2',k2,rfl⟩:=r2.slice;obtain⟨uw,k3,rfl⟩:=r3.slice;by_cases hy:y.n=x
  ·have he:=EZ hy;rw[if_pos hy]at hf;subst hf;have hb6:=hb;have hb6:=hb6.setCell (p:=⟨w.heap.size+1,0,none⟩) hw1 (.string y.n);have hb6:=hb6.setCell (p:=⟨w.heap.size+1,1,none⟩) hw1 (.string y.r);have hb6:=hb6.setCell (p:=⟨w.heap.size+1,2,none⟩) hw1 (.slice p1' y.ps.length k1);have hb6:=hb6.setCell (p:=⟨w.heap.size+1,3,none⟩) hw1 (.slice p2' y.vs.length k2);have hb6:=hb6.setCell (p:=⟨w.heap.size+1,4,none⟩) hw1 (.slice uw y.bs.length k3);clear hy hP hB hb hend hq hlt;go_wp2;(refine rB rfl (by go_simp;try rfl) rfl ?_);exact⟨hb6,_,_,_,_,rfl,⟨rfl,⟨z0,z1⟩,r1,r2,r3⟩⟩
  ·have he:=Ea hy;rw[if_neg hy]at hf;go_wp2;go_roundw;exact⟨q+1,by omega,by go_num,hb,hP,hB,hf⟩;simp[intOf];omega
theorem Ue(h0:AA6 w0 w){p:Pg}(hp:Cj w0 v p v1 v2 v3 v4)(x:ByteArray):Calls prog 186 #[v,.string x] w fun e w'=>AA6 w w'/\AEm w0 (Ai Ex.n x p.xs) e:=by
 obtain⟨rfl,hc,hg,hx,hf⟩:=hp;obtain⟨pl,kl,rfl,-,hn,hl⟩:=hx;have hb1:=AJ w (.cells #[.bool p.ssa,v1,v2,(.slice pl p.xs.length kl),v4] 27);have hb2:=hb1.alloc hb1.size (.cells #[.string ⟨#[]⟩,.int .i64 0] 155);have hP:=(Ae.alloc w [.bool p.ssa,v1,v2,(.slice pl p.xs.length kl),v4] 27).al (.cells #[.string ⟨#[]⟩,.int .i64 0] 155);have hB:=Ae.alloc (w.alloc (.cells #[.bool p.ssa,v1,v2,(.slice pl p.xs.length kl),v4] 27)) [(.string ⟨#[]⟩),(.int .i64 0)] 155;have hs:(w.alloc (.cells #[.bool p.ssa,v1,v2,(.slice pl p.xs.length kl),v4] 27)).heap.size=w.heap.size+1:=by simp
 rw[hs]at hB;generalize hf:Ai Ex.n x p.xs=r0;go_enter func186,ntmps186;go_wp2;go_loopw[6] (fun i wr=>∃q:Nat,q<=p.xs.length/\i=.int .i64 (q:Int)/\AA6 w wr/\Ae wr w.heap.size [.bool p.ssa,v1,v2,(.slice pl p.xs.length kl),v4]/\Ae wr (w.heap.size+1) [(.string ⟨#[]⟩),(.int .i64 0)]/\Ai Ex.n x (p.xs.drop q)=r0) (fun i _=>p.xs.length-(intOf i).toNat);exact⟨0,AY,rfl,hb2,hP,hB,hf⟩;clear hb2 hP hB hf;obtain⟨q,hq,rfl,hb,hP,hB,hf⟩:=hrel;have p1:=hP.c 3 _ rfl;have hw1:w.heap.size<=w.heap.size+1:=Aa;have hlt2:=hB.lt;obtain⟨d0,d1⟩:=hB.c2;obtain⟨g0,g1⟩:=hB.f2;by_cases hend:q=p.xs.length
 ·subst hend;rw[List.drop_length]at hf;subst hf;have hb6:=hb;have hb6:=hb6.setCell (p:=⟨w.heap.size+1,0,none⟩) hw1 (.string ⟨#[]⟩);have hb6:=hb6.setCell (p:=⟨w.heap.size+1,1,none⟩) hw1 (.int .i64 0);go_wp2;(refine rB rfl (by go_simp;try rfl) rfl ?_);exact⟨hb6,rfl⟩
 ·have hlt:q<p.xs.length:=by omega
  have A8:(q:Int)<p.xs.length:=by omega
  rw[List.drop_eq_getElem_cons hlt,Ai]at hf;obtain⟨a,rfl,hA⟩:=hl q p.xs[q] (by simp[hlt]);clear hl;generalize p.xs[q]=y at*;obtain⟨⟨c0,z0⟩,c1⟩:=hA;have hb0:=AB h0 hb;have c0:=AA hb0 c0;have c1:=AA hb0 c1;by_cases hy:y.n=x
  ·have he:=EZ hy;rw[if_pos hy]at hf;subst hf;have hb6:=hb;have hb6:=hb6.setCell (p:=⟨w.heap.size+1,0,none⟩) hw1 (.string y.n);have hb6:=hb6.setCell (p:=⟨w.heap.size+1,1,none⟩) hw1 (.int .i64 y.k);clear hy hP hB hb hend hq hlt;go_wp2;(refine rB rfl (by go_simp;try rfl) rfl ?_);exact⟨hb6,rfl,z0⟩
  ·have he:=Ea hy;rw[if_neg hy]at hf;go_wp2;go_roundw;exact⟨q+1,by omega,by go_num,hb,hP,hB,hf⟩;simp[intOf];omega
theorem XF{v:Vr}(h:Ai Vr.n x f.ps=some v):varOf f x=some v:=by simp only[varOf,h]
theorem bC(h:Ai Vr.n x f.ps=none):varOf f x=Ai Vr.n x f.vs:=by simp only[varOf,h]
theorem Rb(h0:AA6 w0 w)(hf:EL w0 v f u1 u2 u3)(x:ByteArray):Calls prog 180 #[v,.string x] w fun e w'=>AA6 w w'/\XA w0 (varOf f x) e:=by
 obtain⟨rfl,hz,hp,hv,hbk⟩:=hf;obtain⟨p1,k1,rfl⟩:=hp.slice;obtain⟨p2,k2,rfl⟩:=hv.slice;obtain⟨p3,k3,rfl⟩:=hbk.slice;clear hbk;have hb1:=AJ w (.cells #[.string f.n,.string f.r,.slice p1 f.ps.length k1,.slice p2 f.vs.length k2,.slice p3 f.bs.length k3] 66);have hb2:=hb1.alloc hb1.size (.cells #[.string ⟨#[]⟩,.string ⟨#[]⟩] 71);have hF:=(Ae.alloc w [.string f.n,.string f.r,.slice p1 f.ps.length k1,.slice p2 f.vs.length k2,.slice p3 f.bs.length k3] 66).al (.cells #[.string ⟨#[]⟩,.string ⟨#[]⟩] 71);have hB:=Ae.alloc (w.alloc (.cells #[.string f.n,.string f.r,.slice p1 f.ps.length k1,.slice p2 f.vs.length k2,.slice p3 f.bs.length k3] 66)) [.string ⟨#[]⟩,.string ⟨#[]⟩] 71;have hs:(w.alloc (.cells #[.string f.n,.string f.r,.slice p1 f.ps.length k1,.slice p2 f.vs.length k2,.slice p3 f.bs.length k3] 66)).heap.size=w.heap.size+1:=by simp
 rw[hs]at hB;have hC:=MU (AB h0 hb2) hp x;have hw1:w.heap.size<=w.heap.size+1:=Aa;clear hb1 hs hp;obtain⟨R,hR⟩:∃R,R=varOf f x:=⟨_,rfl⟩;rw[<-hR];go_enter func180,ntmps180;go_wp2_with fail;refine hC.mono ?_;rintro e w1 ⟨hb3,ho⟩;have FM:=AB hb2 hb3;have hF1:=hF.nx hb3;have hB1:=hB.nx hb3;clear hC hb2 hb3 hF hB
 cases hr:Ai Vr.n x f.ps with
 |some c=>
  rw[hr]at ho;obtain⟨rfl,hz1,hz2⟩:=ho;rw[XF hr]at hR;subst hR;have hb6:=(FM.setCell (p:=⟨w.heap.size+1,0,none⟩) hw1 (.string c.n)).setCell (p:=⟨w.heap.size+1,1,none⟩) hw1 (.string c.t);have hb6:=hb6.alloc hb6.size (.cells #[.string c.n,.string c.t] 71);obtain⟨b0,b1⟩:=hB1.c2;obtain⟨g0,g1⟩:=hB1.f2;have hl1:=hB1.lt;clear hr hv hF1 hB1 FM;go_wp2;(refine rB rfl (by go_simp;try rfl) rfl ?_)
  exact⟨hb6,rfl,hz1,hz2⟩
 |none=>
  rw[hr]at ho;obtain rfl:e=_:=ho;rw[bC hr]at hR;have hb4:=FM.alloc FM.size (.cells #[.string ⟨#[]⟩,.string ⟨#[]⟩] 71);have hF2:=hF1.al (.cells #[.string ⟨#[]⟩,.string ⟨#[]⟩] 71);have hB2:=hB1.al (.cells #[.string ⟨#[]⟩,.string ⟨#[]⟩] 71);have hC:=MU (AB h0 hb4) hv x;have a3:=hF2.c 3 _ rfl;clear hr hv hF1 hB1 hF2 FM;go_wp2_with fail;refine hC.mono ?_;rintro e w2 ⟨hb5,ho⟩;have hB3:=hB2.nx hb5;have LY:=AB hb4 hb5;obtain⟨b0,b1⟩:=hB3.c2;obtain⟨g0,g1⟩:=hB3.f2;clear hC hb4 hb5 hB2 hB3 a3
  cases hr:Ai Vr.n x f.vs with
  |some c=>
   rw[hr]at ho hR;subst hR;obtain⟨rfl,hz1,hz2⟩:=ho;have hb6:=(LY.setCell (p:=⟨w.heap.size+1,0,none⟩) hw1 (.string c.n)).setCell (p:=⟨w.heap.size+1,1,none⟩) hw1 (.string c.t);clear hr LY;go_wp2;(refine rB rfl (by go_simp;try rfl) rfl ?_)
   exact⟨hb6,rfl,hz1,hz2⟩
  |none=>
   rw[hr]at ho hR;subst hR;obtain rfl:e=_:=ho;have hb6:=(LY.setCell (p:=⟨w.heap.size+1,0,none⟩) hw1 (.string ⟨#[]⟩)).setCell (p:=⟨w.heap.size+1,1,none⟩) hw1 (.string ⟨#[]⟩);clear hr LY;go_wp2;(refine rB rfl (by go_simp;try rfl) rfl ?_);exact⟨hb6,rfl⟩
theorem Vj(h0:AA6 w0 w)(hf:EL w0 v f u1 u2 u3)(a:Ag):Calls prog 181 #[v,.agg #[.int .i64 a.k,.string a.s,.int .i64 a.n]] w fun e w'=>AA6 w w'/\rQ (GJ f a) e:=by
 obtain⟨k,s,n⟩:=a;have J6:=hf;obtain⟨rfl,hz,hp,hv,hbk⟩:=hf;obtain⟨p1,k1,rfl⟩:=hp.slice;obtain⟨p2,k2,rfl⟩:=hv.slice;obtain⟨p3,k3,rfl⟩:=hbk.slice;clear hbk hp hv;unfold GJ;dsimp only;have hb1:=AJ w (.cells #[.string f.n,.string f.r,.slice p1 f.ps.length k1,.slice p2 f.vs.length k2,.slice p3 f.bs.length k3] 66);have hb2:=hb1.alloc hb1.size (.cells #[.int .i64 k,.string s,.int .i64 n] 77);have hC:=Rb (AB h0 hb2) J6 s;clear hb1;by_cases e1:k=1
 ·rw[if_pos e1];subst e1;generalize hr:varOf f s=r at*;clear hr;go_enter func181,ntmps181;go_wp2_with fail;refine hC.mono ?_;rintro e w1 ⟨hb3,ho⟩;have FM:=AB hb2 hb3;clear hC hb2 hb3
  cases r with
  |some c=>
   obtain⟨rfl,hz1,hz2⟩:=ho;have hb6:=FM.alloc FM.size (.cells #[.string c.n,.string c.t] 71);clear FM;go_wp2;go_ret2
   exact⟨hb6,rfl,hz2⟩
  |none=>
   obtain rfl:e=_:=ho;have hb6:=FM.alloc FM.size (.cells #[.string ⟨#[]⟩,.string ⟨#[]⟩] 71);clear FM;go_wp2;go_ret2;exact⟨hb6,rfl⟩
 ·rw[if_neg e1];clear hC;have hb6:=hb2.alloc hb2.size (.cells #[.string ⟨#[]⟩,.string ⟨#[]⟩,.string BA,.string Ao,.string Fx] 300);by_cases e2:k=2
  ·rw[if_pos e2];subst e2;clear e1;go_enter func181,ntmps181;go_wp2;go_ret2;exact⟨by first|exact hb6|exact hb2,rfl,by unfold Sz;decide⟩
  ·rw[if_neg e2];by_cases e3:k=3
   ·rw[if_pos e3];subst e3;clear e1 e2;go_enter func181,ntmps181;go_wp2;go_ret2;exact⟨by first|exact hb6|exact hb2,rfl,by unfold Sz;decide⟩
   ·rw[if_neg e3];by_cases e4:k=4
    ·rw[if_pos e4];subst e4;clear e1 e2 e3;go_enter func181,ntmps181;go_wp2;go_ret2;exact⟨by first|exact hb6|exact hb2,rfl,by unfold Sz;decide⟩
    ·rw[if_neg e4];clear hb6;by_cases g2:2<=k
     ·have g4:¬k<=4:=(by omega);go_enter func181,ntmps181;go_wp2;go_ret2;exact⟨hb2,rfl⟩
     ·go_enter func181,ntmps181;go_wp2;go_ret2;exact⟨hb2,rfl⟩
structure Fm where (d n:Bool) (l m:Int)
def BH(op:Int):Option Fm:=
 if 1<=op/\op<=21 then some ⟨true,false,2,2⟩else if 22<=op/\op<=24 then some ⟨true,false,1,1⟩
 else if op=25 then some ⟨true,true,0,8⟩else if op=26 then some ⟨true,true,1,1⟩else if op=27 then some ⟨false,true,2,2⟩else if op=28 then some ⟨true,false,2,2⟩
 else if op=29 then some ⟨true,true,0,0⟩else if op=30 then some ⟨false,true,1,1⟩else if op=31 then some ⟨true,true,0,8⟩else if op=32 then some ⟨true,true,0,8⟩
 else if op=33 then some ⟨false,false,1,1⟩else if op=34 then some ⟨false,false,0,0⟩else none
theorem jv{α:Type}{E:World->Addr->α->Prop}{sz:Nat}:Row E sz w (.slice none 0 0) []:=⟨none,0,rfl,fun _=>⟨rfl,rfl⟩,⟨AY,AQ⟩,fun i x h=>by cases h⟩
theorem Sl{p:Pg}{c:ByteArray}{k:Cl}(h:Ai Cl.n c p.cs=some k):EH p c x=Ai Vr.n x k.fs:=by simp only[EH,h]
theorem U5{p:Pg}{c:ByteArray}(h:Ai Cl.n c p.cs=none):EH p c x=none:=by simp only[EH,h]
theorem Ri(h0:AA6 w0 w){p:Pg}{u4:Value}(hp:Cj w0 v p u1 u2 u3 u4)(c x:ByteArray):Calls prog 184 #[v,.string c,.string x] w fun e w'=>AA6 w w'/\XA w0 (EH p c x) e:=by
 have hpv:=hp;obtain⟨rfl,hc,hg,hx,hf⟩:=hp;obtain⟨p1,k1,rfl⟩:=hc.slice;obtain⟨p2,k2,rfl⟩:=hg.slice;obtain⟨p3,k3,rfl⟩:=hx.slice;obtain⟨p4,k4,rfl⟩:=hf.slice;clear hc hg hx hf;have hb1:=AJ w (.cells #[.bool p.ssa,.slice p1 p.cs.length k1,.slice p2 p.gs.length k2,.slice p3 p.xs.length k3,.slice p4 p.fs.length k4] 27);have hb2:=hb1.alloc hb1.size (.cells #[.string ⟨#[]⟩,.string ⟨#[]⟩] 71);have hB:=Ae.alloc (w.alloc (.cells #[.bool p.ssa,.slice p1 p.cs.length k1,.slice p2 p.gs.length k2,.slice p3 p.xs.length k3,.slice p4 p.fs.length k4] 27)) [.string ⟨#[]⟩,.string ⟨#[]⟩] 71;have hs:(w.alloc (.cells #[.bool p.ssa,.slice p1 p.cs.length k1,.slice p2 p.gs.length k2,.slice p3 p.xs.length k3,.slice p4 p.fs.length k4] 27)).heap.size=w.heap.size+1:=by simp
 rw[hs]at hB;have hC:=Hq (AB h0 hb2) hpv c;have hw1:w.heap.size<=w.heap.size+1:=Aa;clear hb1 hs hpv;obtain⟨R,hR⟩:∃R,R=EH p c x:=⟨_,rfl⟩;rw[<-hR];go_enter func184,ntmps184;go_wp2_with fail;refine hC.mono ?_;rintro e w1 ⟨hb3,ho⟩;have FM:=AB hb2 hb3;have hB1:=hB.nx hb3;have hl1:=hB1.lt;clear hC hb2 hb3 hB
 cases hr:Ai Cl.n c p.cs with
 |none=>
  rw[hr]at ho;obtain rfl:e=_:=ho;rw[U5 hr]at hR;subst hR;clear hr;cases hcase:decide (1=0)
  case true=>
   first
    |(exact absurd hcase (by decide))
    |(
     have b0:=hB1.c 0 _ rfl;have b1:=hB1.c 1 _ rfl;obtain⟨g0,g1⟩:=hB1.f2;have hb6:=(FM.setCell (p:=⟨w.heap.size+1,0,none⟩) hw1 (.string ⟨#[]⟩)).setCell (p:=⟨w.heap.size+1,1,none⟩) hw1 (.string ⟨#[]⟩);have hb6:=hb6.alloc hb6.size (.cells #[.string ⟨#[]⟩,.slice none 0 0] 153);clear FM hB1 hcase;go_wp2_with fail;(refine rB rfl (by go_simp;try rfl) rfl ?_)
     exact⟨hb6,rfl⟩)
  case false=>
   first
    |(exact absurd hcase (by decide))
    |(
     have hb4:=FM.alloc FM.size (.cells #[.string ⟨#[]⟩,.slice none 0 0] 153);have hB2:=hB1.al (.cells #[.string ⟨#[]⟩,.slice none 0 0] 153);have hD:=MU (AB h0 hb4) (jv (E:=IU) (sz:=2) (w:=w0)) x;clear FM hB1 hcase;go_wp2_with fail;refine hD.mono ?_;rintro e w2 ⟨hb5,ho⟩;obtain rfl:e=_:=ho;have LY:=AB hb4 hb5;have hB3:=hB2.nx hb5;obtain⟨b0,b1⟩:=hB3.c2;obtain⟨g0,g1⟩:=hB3.f2;have hb6:=(LY.setCell (p:=⟨w.heap.size+1,0,none⟩) hw1 (.string ⟨#[]⟩)).setCell (p:=⟨w.heap.size+1,1,none⟩) hw1 (.string ⟨#[]⟩);clear hD hb4 hb5 LY hB2 hB3;go_wp2_with fail;(refine rB rfl (by go_simp;try rfl) rfl ?_)
     exact⟨hb6,rfl⟩)
 |some k=>
  rw[hr]at ho;obtain⟨v1,uf,rfl,rfl,hz,hkf⟩:=ho;obtain⟨pf,kf,rfl⟩:=hkf.slice;rw[Sl hr]at hR;clear hr;have hb4:=FM.alloc FM.size (.cells #[.string k.n,.slice pf k.fs.length kf] 153);have hB2:=hB1.al (.cells #[.string k.n,.slice pf k.fs.length kf] 153);have hD:=MU (AB h0 hb4) hkf x;clear FM hB1 hkf;go_wp2_with fail;refine hD.mono ?_;rintro e w2 ⟨hb5,ho⟩;have LY:=AB hb4 hb5;have hB3:=hB2.nx hb5;obtain⟨b0,b1⟩:=hB3.c2;obtain⟨g0,g1⟩:=hB3.f2;rw[<-hR]at ho;clear hD hb4 hb5 hB2 hB3 hR
  cases R with
  |none=>
   obtain rfl:e=_:=ho;have hb6:=(LY.setCell (p:=⟨w.heap.size+1,0,none⟩) hw1 (.string ⟨#[]⟩)).setCell (p:=⟨w.heap.size+1,1,none⟩) hw1 (.string ⟨#[]⟩);clear LY;go_wp2_with fail;(refine rB rfl (by go_simp;try rfl) rfl ?_)
   exact⟨hb6,rfl⟩
  |some y=>
   obtain⟨rfl,hz1,hz2⟩:=ho;have hb6:=(LY.setCell (p:=⟨w.heap.size+1,0,none⟩) hw1 (.string y.n)).setCell (p:=⟨w.heap.size+1,1,none⟩) hw1 (.string y.t);clear LY;go_wp2_with fail;(refine rB rfl (by go_simp;try rfl) rfl ?_);exact⟨hb6,rfl,hz1,hz2⟩
theorem Oc(h0:AA6 w0 w){p:Pg}{u4:Value}(hp:Cj w0 v p u1 u2 u3 u4)(x:ByteArray):Calls prog 185 #[v,.string x] w fun e w'=>AA6 w w'/\XA w0 (Ai Vr.n x p.gs) e:=by
 obtain⟨rfl,hc,hg,hx,hf⟩:=hp;have hb1:=AJ w (.cells #[.bool p.ssa,u1,u2,u3,u4] 27);have hb2:=hb1.alloc hb1.size (.cells #[.string ⟨#[]⟩,.string ⟨#[]⟩] 71);have hB:=Ae.alloc (w.alloc (.cells #[.bool p.ssa,u1,u2,u3,u4] 27)) [.string ⟨#[]⟩,.string ⟨#[]⟩] 71;have hF:=MU (AB h0 hb2) hg x;generalize Ai Vr.n x p.gs=r at*;have hs:(w.alloc (.cells #[.bool p.ssa,u1,u2,u3,u4] 27)).heap.size=w.heap.size+1:=by simp
 rw[hs]at hB;go_enter func185,ntmps185;go_wp2_with fail;refine hF.mono ?_;rintro e w1 ⟨hb4,ho⟩;have hB1:=hB.nx hb4;have hb5:=AB hb2 hb4;have hw1:w.heap.size<=w.heap.size+1:=by omega
 obtain⟨b0,b1⟩:=hB1.c2;obtain⟨g0,g1⟩:=hB1.f2
 cases r with
 |none=>
  obtain rfl:e=_:=ho;have hb6:=(hb5.setCell (p:=⟨w.heap.size+1,0,none⟩) hw1 (.string ⟨#[]⟩)).setCell (p:=⟨w.heap.size+1,1,none⟩) hw1 (.string ⟨#[]⟩);go_wp2;(refine rB rfl (by go_simp;try rfl) rfl ?_)
  exact⟨hb6,rfl⟩
 |some c=>
  obtain⟨rfl,hz⟩:=ho;have hb6:=(hb5.setCell (p:=⟨w.heap.size+1,0,none⟩) hw1 (.string c.n)).setCell (p:=⟨w.heap.size+1,1,none⟩) hw1 (.string c.t);go_wp2;(refine rB rfl (by go_simp;try rfl) rfl ?_);exact⟨hb6,rfl,hz⟩
end Go.Proofs.YtlffomedflegdaaGreatDoor
