/- Part 01 of the proof: Ser, SerF, Box, RowC, MapS. -/
import Derived.OrdersHeld
import Derived.Deep.RegionHeld
import Derived.WalkKit
import Derived.IntWalk
import Derived.Laws.OwnMore
import Derived.Laws.AppendOwn
import Derived.MapKept
import Derived.WideKeyEntry
import Derived.ChangeMaps4
import Derived.Test.YtlffomedflegdaaGreatDoorPc00
set_option linter.all false
set_option maxHeartbeats 16000000
set_option maxRecDepth 100000
namespace Go.Proofs.YtlffomedflegdaaGreatDoor
open Go.RowKit
variable {L:Nat->Bool}{V:Nat->Value}{a1:Act}{c1 cs zs:List Value}{clock na ns s st:Nat}{es:Array MapEntry}{md:Region.Mode}{ops:Array Oper}{rest:List Oper}{t1 t2:TypeId}{v:Value}{w' w0 w1 w2:World}
section
def upd(L:Nat->Bool)(i:Nat):Nat->Bool:=fun j=>j==i||L j
def waits(md:Region.Mode)(ops:Array Oper)(j i:Nat):Bool:=match ops[j]? with
 |none=>false
 |some o=>o.after.any fun e=>Region.binds md e&&e.on==i
def Right(md:Region.Mode)(ops:Array Oper)(L:Nat->Bool):Prop:=∀j i,waits md ops j i=true->L i=false->L j=false
def Ab(P:Program)(md:Region.Mode)(ops:Array Oper)(Q:Exit->Act->World->Prop)(S:(Nat->Bool)->World->Prop):List Oper->Nat->Act->Prop
 | [],_,a=>∀w,S (fun j=>decide (j<ops.size)) w->Q .normal a w
 |o::rest,i,a=>∃v,
  ((Region.wanted o (yielded ops a.tmps)=true/\∀(L:Nat->Bool) (w:World),S L w->L i=false->Right md ops L->(∀j,waits md ops i j=true->L j=true)->
    o.wp P a w (fun a' w'=>a'=a.put o.dst v/\S (upd L i) w') (fun _ _ _=>False))\/
   (Region.wanted o (yielded ops a.tmps)=false/\v=undef/\∀(L:Nat->Bool) (w:World),S L w->L i=false->S (upd L i) w))/\
  Ab P md ops Q S rest (i+1) (a.put o.dst v)
def OC(md:Region.Mode)(ops:Array Oper):Bool:=
 Region.noSelect ops&& (List.range ops.size).all fun i=>match ops[i]? with
  |none=>true
  |some oi=>oi.after.all (fun e=> !Region.binds md e||decide (e.on<i))&&
   (List.range ops.size).all fun j=>match ops[j]? with
    |none=>true
    |some oj=>j==i||oi.after.any (fun e=>Region.binds md e&&e.on==j)||oj.after.any (fun e=>Region.binds md e&&e.on==i)||oi.apart ops oj
section
variable {P : Program} {md : Region.Mode} {ops : Array Oper} {Q : Exit -> Act -> World -> Prop} {S : (Nat -> Bool) -> World -> Prop}
def puts(ops:Array Oper)(V:Nat->Value)(L:Nat->Bool)(a:Act):Nat->Act
 |0=>a
 |n+1=>if L n then(puts ops V L a n).put ((ops[n]?).bind (·.dst)) (V n)else puts ops V L a n
theorem Ec{a:Act}{n:Nat}(h:L n=true):puts ops V L a (n+1)=(puts ops V L a n).put ((ops[n]?).bind (·.dst)) (V n):=if_pos h
theorem Ij{a:Act}{n:Nat}(h:L n=false):puts ops V L a (n+1)=puts ops V L a n:=if_neg (by simp[h])
theorem EX(V:Nat->Value)(L:Nat->Bool)(a:Act)(n:Nat):(puts ops V L a n).tmps.size=a.tmps.size:=by
 induction n with
 |zero=>rfl
 |succ n ih=>
  unfold puts;split
  ·cases(ops[n]?).bind (·.dst)<;>simp[Act.put,ih]
  ·exact ih
theorem Oe(V:Nat->Value)(L L':Nat->Bool)(a:Act)(t:Nat)(n:Nat)(h:∀j,j<n->(ops[j]?).bind (·.dst)=some t->L j=L' j):(puts ops V L a n).tmps[t]? =(puts ops V L' a n).tmps[t]? :=by
 induction n with
 |zero=>rfl
 |succ n ih=>
  have ih:=ih fun j hj=>h j (by omega);unfold puts;by_cases hd:(ops[n]?).bind (·.dst)=some t
  ·rw[h n (by omega) hd];split
   ·rw[hd];simp only[Act.put];by_cases ht:t<a.tmps.size
    ·rw[Array.getElem?_setIfInBounds_self,Array.getElem?_setIfInBounds_self,EX,EX]
    ·rw[Array.getElem?_eq_none (by simp[EX];omega),Array.getElem?_eq_none (by simp[EX];omega)]
   ·exact ih
  ·have hne:∀(b:Act) (v:Value),(b.put ((ops[n]?).bind (·.dst)) v).tmps[t]? =b.tmps[t]? :=fun b v=>by
    cases hc:(ops[n]?).bind (·.dst)with
    |none=>rfl
    |some d=>
     have:d≠t:=fun e=>hd (by rw[hc,e]);simp[Act.put,Array.getElem?_setIfInBounds_ne this]
   split<;>split<;>simp[hne,ih]
theorem CW(V:Nat->Value)(L:Nat->Bool)(a:Act)(m n:Nat)(hm:m<=n)(h:∀j,m<=j->j<n->L j=false):puts ops V L a n=puts ops V L a m:=by
 induction n with
 |zero=>
  have:m=0:=by omega
  subst this;rfl
 |succ n ih=>
  by_cases e:m=n+1
  ·subst e;rfl
  ·rw[puts,h n (by omega) (by omega)];exact ih (by omega) fun j h1 h2=>h j h1 (by omega)
theorem D6(V:Nat->Value)(L L':Nat->Bool)(a:Act)(n:Nat)(h:∀j,j<n->L j=L' j):puts ops V L a n=puts ops V L' a n:=by
 induction n with
 |zero=>rfl
 |succ n ih=>unfold puts;rw[ih fun j hj=>h j (by omega),h n (by omega)]
theorem PE(o:Oper)(hs:∀cs b,o.op≠ .select cs b)(a a':Act)(h:∀t∈o.looksAt ops,a'.tmps[t]? =a.tmps[t]?):execOp a'.eval o=execOp a.eval o:=
 execOp_congr o hs fun x hx=>by
  cases x with
  |tmp t=>
   have:=h t (List.mem_append_left _ (List.mem_filterMap.2 ⟨.tmp t,by simpa using hx,rfl⟩))
   simp[Act.eval,this]
  |_=>rfl
theorem K7(o:Oper)(a a':Act)(h:∀t∈o.looksAt ops,a'.tmps[t]? =a.tmps[t]?):Region.wanted o (yielded ops a'.tmps)=Region.wanted o (yielded ops a.tmps):=by
 unfold Region.wanted
 cases hg:o.guard with
 |none=>rfl
 |some gw=>
  obtain⟨g,want⟩:=gw;have hy:yielded ops a'.tmps g=yielded ops a.tmps g:=by
   unfold yielded
   cases ht:(ops[g]?).bind (·.dst)with
   |none=>rfl
   |some t=>
    have:=h t (by simp[Oper.looksAt,hg,ht]);simp[this]
  simp only[hy]
theorem F8{a b:Act}{d:Option Tmp}{u:Value}(hs:a.tmps.size=b.tmps.size)(h:a.put d u=a.put d v):b.put d u=b.put d v:=by
 cases d with
 |none=>rfl
 |some d=>
  simp only[Act.put]at h⊢;have ht:a.tmps.setIfInBounds d u=a.tmps.setIfInBounds d v:=congrArg Act.tmps h;by_cases hd:d<a.tmps.size
  ·have h1:(a.tmps.setIfInBounds d u)[d]? =(a.tmps.setIfInBounds d v)[d]? :=(by rw[ht]);rw[Array.getElem?_setIfInBounds_self,Array.getElem?_setIfInBounds_self,if_pos hd,if_pos hd]at h1;rw[Option.some.inj h1]
  ·have hd':b.tmps.size<=d:=Nat.le_of_not_lt (hs▸hd);congr 1;rw[Array.setIfInBounds_eq_of_size_le hd',Array.setIfInBounds_eq_of_size_le hd']
theorem jZ{o:Oper}{a a':Act}{w:World}{S1:World->Prop}{K:Act->World->Prop}(he:execOp a'.eval o=execOp a.eval o)(hs:a.tmps.size=a'.tmps.size)(h:o.wp P a w (fun a1 w'=>a1=a.put o.dst v/\S1 w') (fun _ _ _=>False)) (hK:∀w',S1 w'->K (a'.put o.dst v) w'):o.wp P a' w K Q:=by
 unfold Oper.wp at*;rw[he];generalize(execOp a.eval o).run P w=r at*
 cases r with
 |ok n w'=>
  cases n<;>simp only[Oper.upon]at h⊢
  case value u=>rw[F8 hs h.1];exact hK _ h.2
  case skip=>rw[F8 hs h.1];exact hK _ h.2
  case defer d=>
   have h1:=congrArg (fun x:Act=>x.defers.length) h.1;exfalso;cases hd:o.dst<;>simp[Act.put,hd]at h1
  case enter f args=>
   refine Calls.mono h fun e w'' he=>?_
   cases e with
   |returned u=>simp only at he⊢;rw[F8 hs he.1];exact hK _ he.2
   |panicked c=>exact he.elim
   |outgrown=>
    obtain⟨_,_,hf⟩:=he;exact hf.elim
  case row row args=>exact Rows.mono h fun u w'' he=>by rw[F8 hs he.1];exact hK _ he.2
 |halt x w'=>
  cases x<;>simp only[Oper.upon]at h⊢
theorem AB7:∀(l:List Oper) (i:Nat) (a:Act),Ab P md ops Q S l i a->(∀k,k<l.length->ops[i+k]? =l[k]?)->∃V:Nat->Value,(∀k o,l[k]? =some o->((Region.wanted o (yielded ops (puts ops V (fun j=>decide (i<=j)) a (i+k)).tmps)=true/\∀(L:Nat->Bool) (w:World),S L w->L (i+k)=false->Right md ops L->(∀j,waits md ops (i+k) j=true->L j=true)->o.wp P (puts ops V (fun j=>decide (i<=j)) a (i+k)) w (fun a' w'=>a'=(puts ops V (fun j=>decide (i<=j)) a (i+k)).put o.dst (V (i+k))/\S (upd L (i+k)) w') (fun _ _ _=>False))\/(Region.wanted o (yielded ops (puts ops V (fun j=>decide (i<=j)) a (i+k)).tmps)=false/\V (i+k)=undef/\∀(L:Nat->Bool) (w:World),S L w->L (i+k)=false->S (upd L (i+k)) w)))/\∀w,S (fun j=>decide (j<ops.size)) w->Q .normal (puts ops V (fun j=>decide (i<=j)) a (i+l.length)) w:=by
 intro l
 induction l with
 |nil=>
  intro i a h _;refine⟨fun _=>undef,fun k o hk=>(by simp at hk),fun w hw=>?_⟩;rw[CW _ _ a 0 (i+([]:List Oper).length) (by omega) (fun j h1 h2=>by simp at h2⊢;omega)]
  exact h w hw
 |cons o rest ih=>
  intro i a h hops;obtain⟨v,h1,h2⟩:=h
  obtain⟨V,hV,hend⟩:=ih (i+1) (a.put o.dst v) h2 (fun k hk=>by
   have:=hops (k+1) (by simpa using hk)
   rw[show i+1+k=i+(k+1) by omega,this];rfl)
  have ho:ops[i]? =some o:=by have:=hops 0 (by simp);simpa using this
  have hput:∀n,i+1<=n->puts ops (fun j=>if j=i then v else V j) (fun j=>decide (i<=j)) a n=puts ops V (fun j=>decide (i+1<=j)) (a.put o.dst v) n:=by
   intro n hn
   induction n with
   |zero=>omega
   |succ n ihn=>
    by_cases e:n=i
    ·subst e;rw[Ec (by simp),ho];rw[CW _ _ a 0 n (by omega) (fun j _ h2=>by simp;omega),CW _ _ (a.put o.dst v) 0 (n+1) (by omega) (fun j _ h2=>by simp;omega)];simp[puts]
    ·rw[Ec (by simp;omega),Ec (by simp;omega),ihn (by omega)];simp[e]
  refine⟨fun j=>if j=i then v else V j,fun k ok hk=>?_,fun w hw=>?_⟩
  ·cases k with
   |zero=>
    have:ok=o:=(by simpa using hk.symm);subst this;have hp:puts ops (fun j=>if j=i then v else V j) (fun j=>decide (i<=j)) a (i+0)=a:=CW _ _ a 0 _ (by omega) (fun j _ h2=>by simp;omega);rw[hp]
    simpa using h1
   |succ k=>
    have hk':rest[k]? =some ok:=(by simpa using hk);have:=hV k ok hk';rw[show i+1+k=i+(k+1) by omega]at this;rw[hput _ (by omega)];have hne:i+(k+1)≠i:=(by omega);simp only[hne,if_false];exact this
  ·rw[hput _ (by simp)];have:=hend w hw;rw[show i+1+rest.length=i+(o::rest).length by simp;omega]at this;exact this
theorem NA(h:OC md ops=true):(∀(j:Nat) (o:Oper) cs b,ops[j]? =some o->o.op≠ .select cs b)/\∀i oi,ops[i]? =some oi->(∀e∈oi.after,Region.binds md e=true->e.on<i)/\∀j oj,ops[j]? =some oj->j≠i->(∃e∈oi.after,Region.binds md e=true/\e.on=j)\/(∃e∈oj.after,Region.binds md e=true/\e.on=i)\/oi.apart ops oj=true:=by
 unfold OC at h;rw[Bool.and_eq_true]at h;refine⟨Region.noSelect_spec h.1,fun i oi hi=>?_⟩;have hlt:i<ops.size:=(Array.getElem?_eq_some_iff.1 hi).1;have h2:=List.all_eq_true.1 h.2 i (List.mem_range.2 hlt);simp only[hi,Bool.and_eq_true]at h2;refine⟨fun e he hb=>?_,fun j oj hj hne=>?_⟩
 ·have:=Array.all_eq_true_iff_forall_mem.1 h2.1 e he;simpa[hb]using this
 grind
theorem Rj(hsp:∀i oi,ops[i]? =some oi->∀j oj,ops[j]? =some oj->j≠i->(∃e∈oi.after,Region.binds md e=true/\e.on=j)\/(∃e∈oj.after,Region.binds md e=true/\e.on=i)\/oi.apart ops oj=true)(hup:∀i oi,ops[i]? =some oi->∀e∈oi.after,Region.binds md e=true->e.on<i)(V:Nat->Value) (L:Nat->Bool) (a:Act) (i:Nat) (o:Oper) (ho:ops[i]? =some o) (hi:L i=false) (hclosed:∀j oj,ops[j]? =some oj->L j=true->∀e∈oj.after,Region.binds md e=true->L e.on=true):∀n,i<n->(puts ops V L a n).put o.dst (V i)=puts ops V (upd L i) a n:=by
 intro n
 induction n with
 |zero=>intro h;omega
 |succ n ih=>
  intro hn;by_cases e:n=i
  ·subst e;rw[Ij hi,Ec (L:=upd L n) (by simp[upd]),ho];rw[D6 V (upd L n) L a n (fun j hj=>by simp[upd];omega)];rfl
  ·have ih:=ih (by omega);by_cases hL:L n=true
   ·rw[Ec hL,Ec (L:=upd L i) (by simp[upd,hL]),<-ih]
    cases hon:ops[n]? with
    |none=>rfl
    |some on=>
     refine Act.put_comm _ _ _ fun d hd hd'=>?_;rcases hsp i o ho n on hon e with⟨ed,he,hb,heq⟩|⟨ed,he,hb,heq⟩|hap
     ·have:=hup i o ho ed he hb;omega
     ·have:=hclosed n on hon hL ed he hb;rw[heq,hi]at this;cases this
     ·exact(Oper.apart_spec hap).2.1 d hd' hd
   ·have hL:L n=false:=(by simpa using hL);rw[Ij hL,Ij (L:=upd L i) (by simp[upd,hL,e]),ih]
theorem Js{listed:Array Bool}{j:Nat}(hj:j∈Region.ready md ops listed):listed.getD j true=false/\∃o,ops[j]? =some o/\∀e∈o.after,Region.binds md e=true->listed.getD e.on false=true:=mem_ready.1 hj
def left(L:Nat->Bool):Nat->Nat
 |0=>0
 |n+1=>left L n+if L n then 0 else 1
theorem Rx(L:Nat->Bool)(i:Nat)(hi:L i=false):∀n,(n<=i->left (upd L i) n=left L n)/\(i<n->left (upd L i) n+1=left L n):=by
 intro n
 induction n with
 |zero=>exact⟨fun _=>rfl,fun h=>by omega⟩
 |succ n ih=>
  refine⟨fun h=>?_,fun h=>?_⟩
  ·have hne:n≠i:=(by omega);simp only[left,ih.1 (by omega),upd,beq_iff_eq,hne,Bool.or_eq_true,false_or]
  ·by_cases e:n=i
   ·subst e;simp[left,ih.1 (by omega),upd,hi]
   ·simp only[left,upd,beq_iff_eq,e,Bool.or_eq_true,false_or];have:=ih.2 (by omega);omega
theorem Gw(L:Nat->Bool):∀n,left L n=0->∀j,j<n->L j=true:=by
 intro n
 induction n with
 |zero=>intro _ j hj;omega
 |succ n ih=>
  intro h j hj;unfold left at h;by_cases e:j=n
  ·subst e
   cases hL:L j with
   |true=>rfl
   |false=>simp[hL]at h
  ·exact ih (by omega) j (by omega)
theorem Ou(L:Nat->Bool):∀n,0<left L n->∃j,j<n/\L j=false/\∀k,k<j->L k=true:=by
 intro n
 induction n with
 |zero=>intro h;simp[left]at h
 |succ n ih=>
  intro h;by_cases h0:0<left L n
  ·obtain⟨j,hj,h1,h2⟩:=ih h0;exact⟨j,by omega,h1,h2⟩
  ·have h0:left L n=0:=(by omega);have hall:=Gw L n h0
   cases hL:L n with
   |false=>exact⟨n,by omega,hL,hall⟩
   |true=>simp[left,h0,hL]at h
theorem getD_upd(listed:Array Bool)(i:Nat)(hi:i<listed.size):(fun j=>(listed.setIfInBounds i true).getD j false)=upd (fun j=>listed.getD j false) i:=by
 funext j;by_cases e:i=j
 ·subst e;simp[upd,hi]
 ·have e':¬j=i:=fun h=>e h.symm;rw[getD_set_ne false e];simp[upd,e']
theorem getD_both(listed:Array Bool)(j:Nat)(h:j<listed.size)(d d':Bool):listed.getD j d=listed.getD j d':=by simp[h]
theorem Hy(listed:Array Bool)(n:Nat)(hsz:listed.size=n)(hall:∀j,j<n->listed.getD j false=true):(fun j=>listed.getD j false)=fun j=>decide (j<n):=by grind
theorem Vz(L:Nat->Bool):∀n,left L n<=n:=by
 intro n
 induction n with
 |zero=>exact AQ
 |succ n ih=>unfold left;split<;>omega
theorem Ho{j i:Nat}(h:waits md ops j i=true):∃o,ops[j]? =some o/\∃e∈o.after,Region.binds md e=true/\e.on=i:=by grind [waits]
theorem jm(hok:OC md ops=true){a:Act}(h:Ab P md ops Q S ops.toList 0 a){w:World}(hw:S (fun _=>false) w):wpAny P md ops Q ops.size (Array.replicate ops.size false) a w:=by
 obtain⟨V,hV,hend⟩:=AB7 ops.toList 0 a h (fun k _=>by simp);obtain⟨hsel,hsp⟩:=NA hok;have hL0:(fun j=>decide (0<=j))=fun _:Nat=>true:=by funext j;simp
 rw[hL0]at hV hend;have main:∀(fuel:Nat) (listed:Array Bool) (w:World),listed.size=ops.size->left (fun j=>listed.getD j false) ops.size<=fuel->
   (∀j oj,ops[j]? =some oj->listed.getD j false=true->∀e∈oj.after,Region.binds md e=true->listed.getD e.on false=true)->
   S (fun j=>listed.getD j false) w->wpAny P md ops Q fuel listed (puts ops V (fun j=>listed.getD j false) a ops.size) w:=by
  intro fuel
  induction fuel with
  |zero=>
   intro listed w hsz hleft hcl hS;have hall:=Gw _ _ (Nat.le_zero.1 hleft);have UC:Region.ready md ops listed=[]:=by
    rw[List.eq_nil_iff_forall_not_mem];intro j hj;obtain⟨h0,o,ho,_⟩:=Js hj;have hlt:j<ops.size:=(Array.getElem?_eq_some_iff.1 ho).1;have h1:=hall j hlt;rw[getD_both listed j (by omega) false true,h0]at h1;cases h1
   refine⟨UC,?_⟩;have pX:=Hy listed ops.size hsz hall;rw[D6 V _ (fun _=>true) a ops.size (fun j hj=>hall j hj)];rw[pX]at hS
   simpa using hend w hS
  |succ fuel ih=>
   intro listed w hsz hleft hcl hS;refine⟨fun hr=>?_,fun i hi=>?_⟩
   ·
    by_cases h0:left (fun j=>listed.getD j false) ops.size=0
    ·have hall:=Gw _ _ h0;have pX:=Hy listed ops.size hsz hall;rw[D6 V _ (fun _=>true) a ops.size (fun j hj=>hall j hj)];rw[pX]at hS;simpa using hend w hS
    ·exfalso;obtain⟨j,hj,hno,QH⟩:=Ou _ _ (Nat.pos_of_ne_zero h0);obtain⟨o,ho⟩:∃o,ops[j]? =some o:=⟨ops[j],by simp[hj]⟩;have:j∈Region.ready md ops listed:=mem_ready.2 ⟨by rw[getD_both listed j (by omega) true false];exact hno,o,ho,fun e he hb=>QH _ ((hsp j o ho).1 e he hb)⟩;rw[hr]at this;cases this
   ·obtain⟨h0,o,ho,MH⟩:=Js hi;have hlt:i<ops.size:=(Array.getElem?_eq_some_iff.1 ho).1;have hno:listed.getD i false=false:=(by rw[getD_both listed i (by omega) false true];exact h0);have Mv:∀j oj,ops[j]? =some oj->(listed.setIfInBounds i true).getD j false=true->∀e∈oj.after,Region.binds md e=true->(listed.setIfInBounds i true).getD e.on false=true:=by
     intro j oj hj hl e he hb;by_cases hji:j=i
     ·subst hji;rw[ho]at hj;cases hj;exact getD_set_true (MH e he hb)
     ·rw[getD_set_ne false (Ne.symm hji)]at hl;exact getD_set_true (hcl j oj hj hl e he hb)
    have UD:left (fun j=>(listed.setIfInBounds i true).getD j false) ops.size<=fuel:=by
     rw[getD_upd listed i (by omega)];have:=(Rx (fun j=>listed.getD j false) i hno ops.size).2 hlt;omega
    have hput:=Rj (fun i oi hi=>(hsp i oi hi).2) (fun i oi hi=>(hsp i oi hi).1) V (fun j=>listed.getD j false) a i o ho hno hcl ops.size hlt;have RH:∀t∈o.looksAt ops,(puts ops V (fun j=>listed.getD j false) a ops.size).tmps[t]? =(puts ops V (fun _=>true) a (0+i)).tmps[t]? :=by
     intro t ht;have h1:(puts ops V (fun j=>listed.getD j false) a ops.size).tmps[t]? =(puts ops V (fun j=>decide (j<i)) a ops.size).tmps[t]? :=by
      refine Oe V _ _ a t ops.size fun j hj hd=>?_;by_cases hji:j=i
      ·subst hji;simp only[hno];simp
      ·obtain⟨oj,hoj⟩:∃o,ops[j]? =some o:=⟨ops[j],by simp[hj]⟩;rcases(hsp i o ho).2 j oj hoj hji with⟨e,he,hb,heq⟩|⟨e,he,hb,heq⟩|hap
       ·have hl:=MH e he hb;have hlt':=(hsp i o ho).1 e he hb;rw[heq]at hl hlt';simp only[hl,hlt',decide_true]
       ·have hlt':=(hsp j oj hoj).1 e he hb;rw[heq]at hlt';have:¬j<i:=(by omega);simp only[this,decide_false]
        cases hl:listed.getD j false with
        |false=>rfl
        |true=>
         have:=hcl j oj hoj hl e he hb;rw[heq,hno]at this;cases this
       ·rw[hoj]at hd;exact absurd ht ((Oper.apart_spec hap).2.2 t hd)
     rw[h1,CW V (fun j=>decide (j<i)) a i ops.size (by omega) (fun j h1 _=>by simp;omega),Nat.zero_add];rw[D6 V (fun j=>decide (j<i)) (fun _=>true) a i (fun j hj=>by simp[hj])]
    have VX:=PE o (fun cs b=>hsel i o cs b ho) _ _ RH;have hwant:=K7 o _ _ RH;have hk:ops.toList[i]? =some o:=(by simpa using ho);have hVi:=hV i o hk;have hR:Right md ops fun j=>listed.getD j false:=by
     intro j k hjk hk;obtain⟨oj,hj,e,he,hb,rfl⟩:=Ho hjk;show listed.getD j false=false
     cases hl:listed.getD j false with
     |false=>rfl
     |true=>
      have hk:listed.getD e.on false=false:=hk;rw[hcl j oj hj hl e he hb]at hk;cases hk
    have rE:∀j,waits md ops i j=true->listed.getD j false=true:=by
     intro j hj;obtain⟨oi,hi',e,he,hb,rfl⟩:=Ho hj;rw[ho]at hi';cases hi';exact MH e he hb
    unfold wpOp;simp only[ho];rw[hwant];have hnext:∀w',S (upd (fun j=>listed.getD j false) i) w'->wpAny P md ops Q fuel (listed.setIfInBounds i true) ((puts ops V (fun j=>listed.getD j false) a ops.size).put o.dst (V (0+i))) w':=by
     intro w' hS';rw[Nat.zero_add,hput,<-getD_upd listed i (by omega)];exact ih _ w' (by simpa using hsz) UD Mv (by rw[getD_upd listed i (by omega)];exact hS')
    rcases hVi with⟨hw,hrun⟩|⟨hw,hv,hrun⟩
    ·rw[if_pos hw];refine .inl (jZ VX (by rw[EX,EX]) (hrun _ w hS (by rw[Nat.zero_add];exact hno) hR (by rw[Nat.zero_add];exact rE)) ?_);intro w' hS';rw[Nat.zero_add]at hS';exact hnext w' hS'
    ·rw[if_neg (by rw[hw];simp),<-hv];refine hnext w ?_;have:=hrun _ w hS (by rw[Nat.zero_add];exact hno);rwa[Nat.zero_add]at this
 have h0:(fun j=>(Array.replicate ops.size false).getD j false)=fun _:Nat=>false:=by
  funext j;by_cases hj:j<ops.size<;>simp[hj]
 have:=main ops.size (Array.replicate ops.size false) w (by simp) (Vz _ _) (fun j oj hj hl=>by
  have:=congrFun h0 j;rw[hl]at this
  cases this) (by rw[h0];exact hw)
 rw[h0,CW V (fun _=>false) a 0 ops.size (by omega) (fun _ _ _=>rfl)]at this;exact this
theorem AO{id:Nat}{l:List Oper}{a:Act}{w:World}(hm:P.follows .mixedOrders=true)(hok:OC .any l.toArray=true)(hw:S (fun _=>false) w.drew)(h:Ab P .any l.toArray Q S l 0 a):(Code.region id l.toArray true).wp P Q a w:=
 wp_region_any hm (jm hok (by simpa using h) hw)
theorem Ab.nil{i:Nat}{a:Act}(h:∀w,S (fun j=>decide (j<ops.size)) w->Q .normal a w):Ab P md ops Q S [] i a:=h
theorem Ab.cons{o:Oper}{i:Nat}{a:Act}(hw:Region.wanted o (yielded ops a.tmps)=true)(h:∀(L:Nat->Bool) (w:World) (K:Act->World->Prop) (Q':Exit->Act->World->Prop),S L w->L i=false->Shut (Right md ops L)->Shut (∀j,waits md ops i j=true->L j=true)->Shut (∀w',S (upd L i) w'->K (a.put o.dst v) w')->o.wp P a w K Q')(hr:Ab P md ops Q S rest (i+1) (a.put o.dst v)):Ab P md ops Q S (o::rest) i a:=
 ⟨v,.inl ⟨hw,fun L w hS hi hR hd=>h L w _ _ hS hi hR hd (fun _ hS'=>⟨rfl,hS'⟩)⟩,hr⟩
def G8(a:Act)(d:Option Tmp):Value:=match d with
 |some d=>a.tmps.getD d undef
 |none=>undef
theorem Ab.step{o:Oper}{i:Nat}{a:Act}(hw:Region.wanted o (yielded ops a.tmps)=true)(h:∀(L:Nat->Bool) (w:World) (K:Act->World->Prop) (Q':Exit->Act->World->Prop),S L w->L i=false->Shut (Right md ops L)->Shut (∀j,waits md ops i j=true->L j=true)->Shut (∀w',S (upd L i) w'->K a1 w')->o.wp P a w K Q')(ha:a1=a.put o.dst (G8 a1 o.dst)) (hr:Ab P md ops Q S rest (i+1) a1):Ab P md ops Q S (o::rest) i a:=
 Ab.cons hw (fun L w K Q' hS hi hR hd hK=>h L w K Q' hS hi hR hd (by rw[<-ha]at hK;exact hK)) (by rw[<-ha];exact hr)
theorem Ab.skip{o:Oper}{i:Nat}{a:Act}(hw:Region.wanted o (yielded ops a.tmps)=false)(h:∀(L:Nat->Bool) (w:World),S L w->L i=false->S (upd L i) w)(hr:Ab P md ops Q S rest (i+1) (a.put o.dst undef)):Ab P md ops Q S (o::rest) i a:=
 ⟨undef,.inr ⟨hw,rfl,h⟩,hr⟩
end
theorem pA(a:Act)(d:Option Tmp)(v:Value):a.put d v=match d with
 |some d=>{a with tmps:=a.tmps.setIfInBounds d v}
 |none=>a:=rfl
theorem pB(l:List Value)(i:Nat)(v:Value):l.toArray.setIfInBounds i v=(l.set i v).toArray:=by simp
theorem pC(x:Value)(l:List Value)(v:Value):(x::l).set 0 v=v::l:=rfl
theorem pD(x:Value)(l:List Value)(n:Nat)(v:Value):(x::l).set (n+1) v=x::l.set n v:=rfl
theorem pE:(∀(a:Act) (d:Option Tmp) (v:Value),a.put d v=match d with
 |some d=>{a with tmps:=a.tmps.setIfInBounds d v}
 |none=>a)/\(∀(l:List Value) (i:Nat) (v:Value),l.toArray.setIfInBounds i v=(l.set i v).toArray)/\(∀(x:Value) (l:List Value) (v:Value),(x::l).set 0 v=v::l)/\∀(x:Value) (l:List Value) (n:Nat) (v:Value),(x::l).set (n+1) v=x::l.set n v:=⟨pA,pB,pC,pD⟩
structure Zs(md:Region.Mode)(ops:Array Oper)(S:(Nat->Bool)->World->Prop)(j:Nat)(L:Nat->Bool)(w:World):Prop where
 s:S L w
 i:L j=false
 r:Right md ops L
 d:∀k,waits md ops j k=true->L k=true
theorem Zs.o{S:(Nat->Bool)->World->Prop}{j:Nat}{w:World}(z:Zs md ops S j L w)(k:Nat)(h:waits md ops k j=true):L k=false:=z.r k j h z.i
theorem Ab.y{P:Program}{Q:Exit->Act->World->Prop}{S:(Nat->Bool)->World->Prop}{o:Oper}{i:Nat}{a:Act}(hw:Region.wanted o (yielded ops a.tmps)=true)(h:∀L w K Q,Zs md ops S i L w->Shut (∀w',S (upd L i) w'->K a1 w')->o.wp P a w K Q)(ha:a1=a.put o.dst (G8 a1 o.dst))(hr:Ab P md ops Q S rest (i+1) a1):Ab P md ops Q S (o::rest) i a:=
 Ab.step hw (fun L w K Q' hS hi hR hd=>h L w K Q' ⟨hS,hi,hR.out,hd.out⟩) ha hr
theorem Ab.z{P:Program}{Q:Exit->Act->World->Prop}{S:(Nat->Bool)->World->Prop}{o:Oper}{i:Nat}{a:Act}(hw:Region.wanted o (yielded ops a.tmps)=true)(h:∀L w K Q,(∀(a:Act) (d:Option Tmp) (v:Value),a.put d v=match d with|some d=>{a with tmps:=a.tmps.setIfInBounds d v}|none=>a)->Zs md ops S i L w->(∀{w'},S (upd L i) w'->K a1 w')->o.wp P a w K Q)(ha:a1=a.put o.dst (G8 a1 o.dst))(hr:Ab P md ops Q S rest (i+1) a1):Ab P md ops Q S (o::rest) i a:=
 Ab.y hw (fun L w K Q' z hK=>h L w K Q' pA z fun h=>hK.out _ h) ha hr
end
section
def EB(V:Nat->Value)(i:Nat)(v:Value):Nat->Value:=fun k=>if k=i then v else V k
theorem BL(V:Nat->Value)(i:Nat)(v:Value):EB V i v i=v:=if_pos rfl
theorem Br(V:Nat->Value){i k:Nat}(v:Value)(h:k≠i):EB V i v k=V k:=if_neg h
def QJ(md:Region.Mode)(ops:Array Oper)(i:Nat)(v:(Nat->Value)->Value):Prop:=
 ∀(L:Nat->Bool) (V V':Nat->Value),Right md ops L->L i=true->(∀k,L k=true->V k=V' k)->v V=v V'
def AU(P:Program)(md:Region.Mode)(ops:Array Oper)(Q:Exit->Act->World->Prop)(S:(Nat->Value)->(Nat->Bool)->World->Prop):List Oper->Nat->((Nat->Value)->Act)->Prop
 | [],_,a=>∀V w,S V (fun j=>decide (j<ops.size)) w->Q .normal (a V) w
 |o::rest,i,a=>∃v:(Nat->Value)->Value,QJ md ops i v/\
  (∀(V:Nat->Value) (L:Nat->Bool) (w:World),S V L w->L i=false->Right md ops L->(∀j,waits md ops i j=true->L j=true)->
   (Region.wanted o (yielded ops (a V).tmps)=true/\
    o.wp P (a V) w (fun a' w'=>∃V':Nat->Value,(∀k,k≠i->V' k=V k)/\a'=(a V).put o.dst (v V')/\S V' (upd L i) w') (fun _ _ _=>False))\/
   (Region.wanted o (yielded ops (a V).tmps)=false/\v V=undef/\S V (upd L i) w))/\
  AU P md ops Q S rest (i+1) (fun V=>(a V).put o.dst (v V))
section
variable {P : Program} {md : Region.Mode} {ops : Array Oper} {Q : Exit -> Act -> World -> Prop} {S : (Nat -> Value) -> (Nat -> Bool) -> World -> Prop}
theorem au{o:Oper}{a a':Act}{w:World}{G:Value->World->Prop}{K:Act->World->Prop}(he:execOp a'.eval o=execOp a.eval o)(hs:a.tmps.size=a'.tmps.size)(h:o.wp P a w (fun a1 w'=>∃v,a1=a.put o.dst v/\G v w') (fun _ _ _=>False)) (hK:∀v w',G v w'->K (a'.put o.dst v) w'):o.wp P a' w K Q:=by
 unfold Oper.wp at*;rw[he];generalize(execOp a.eval o).run P w=r at*
 cases r with
 |ok n w'=>
  cases n<;>simp only[Oper.upon]at h⊢
  case value u=>obtain⟨v,h1,h2⟩:=h;rw[F8 hs h1];exact hK _ _ h2
  case skip=>obtain⟨v,h1,h2⟩:=h;rw[F8 hs h1];exact hK _ _ h2
  case defer d=>
   obtain⟨v,h0,h2⟩:=h;have h1:=congrArg (fun x:Act=>x.defers.length) h0;exfalso;cases hd:o.dst<;>simp[Act.put,hd]at h1
  case enter f args=>
   refine Calls.mono h fun e w'' he=>?_
   cases e with
   |returned u=>simp only at he⊢;obtain⟨v,h1,h2⟩:=he;rw[F8 hs h1];exact hK _ _ h2
   |panicked c=>exact he.elim
   |outgrown=>
    obtain⟨_,_,hf⟩:=he;exact hf.elim
  case row row args=>exact Rows.mono h fun u w'' he=>by obtain⟨v,h1,h2⟩:=he;rw[F8 hs h1];exact hK _ _ h2
 |halt x w'=>
  cases x<;>simp only[Oper.upon]at h⊢
def oN(P:Program)(md:Region.Mode)(ops:Array Oper)(S:(Nat->Value)->(Nat->Bool)->World->Prop)(i:Nat)(o:Oper)(v:(Nat->Value)->Value)(a:(Nat->Value)->Act):Prop:=
 QJ md ops i v/\
  ∀(V:Nat->Value) (L:Nat->Bool) (w:World),S V L w->L i=false->Right md ops L->(∀j,waits md ops i j=true->L j=true)->
   (Region.wanted o (yielded ops (a V).tmps)=true/\
    o.wp P (a V) w (fun a' w'=>∃V':Nat->Value,(∀k,k≠i->V' k=V k)/\a'=(a V).put o.dst (v V')/\S V' (upd L i) w') (fun _ _ _=>False))\/
   (Region.wanted o (yielded ops (a V).tmps)=false/\v V=undef/\S V (upd L i) w)
theorem Xd:∀(l:List Oper) (i:Nat) (a:(Nat->Value)->Act),AU P md ops Q S l i a->(∀k,k<l.length->ops[i+k]? =l[k]?)->∃F:Nat->(Nat->Value)->Value,(∀k o,l[k]? =some o->oN P md ops S (i+k) o (F (i+k)) (fun V=>puts ops (fun j=>F j V) (fun j=>decide (i<=j)) (a V) (i+k)))/\∀V w,S V (fun j=>decide (j<ops.size)) w->Q .normal (puts ops (fun j=>F j V) (fun j=>decide (i<=j)) (a V) (i+l.length)) w:=by
 intro l
 induction l with
 |nil=>
  intro i a h _;refine⟨fun _ _=>undef,fun k o hk=>(by simp at hk),fun V w hw=>?_⟩;rw[CW _ _ (a V) 0 (i+([]:List Oper).length) (by omega) (fun j h1 h2=>by simp at h2⊢;omega)]
  exact h V w hw
 |cons o rest ih=>
  intro i a h hops;obtain⟨v,hv,h1,h2⟩:=h
  obtain⟨F,hF,hend⟩:=ih (i+1) _ h2 (fun k hk=>by
   have:=hops (k+1) (by simpa using hk)
   rw[show i+1+k=i+(k+1) by omega,this];rfl)
  have ho:ops[i]? =some o:=by have:=hops 0 (by simp);simpa using this
  have hput:∀(V:Nat->Value) n,i+1<=n->puts ops (fun j=>(if j=i then v else F j) V) (fun j=>decide (i<=j)) (a V) n=puts ops (fun j=>F j V) (fun j=>decide (i+1<=j)) ((a V).put o.dst (v V)) n:=by
   intro V n hn
   induction n with
   |zero=>omega
   |succ n ihn=>
    by_cases e:n=i
    ·subst e;rw[Ec (by simp),ho];rw[CW _ _ (a V) 0 n (by omega) (fun j _ h2=>by simp;omega),CW _ _ ((a V).put o.dst (v V)) 0 (n+1) (by omega) (fun j _ h2=>by simp;omega)];simp[puts]
    ·rw[Ec (by simp;omega),Ec (by simp;omega),ihn (by omega)];simp[e]
  refine⟨fun j=>if j=i then v else F j,fun k ok hk=>?_,fun V w hw=>?_⟩
  ·cases k with
   |zero=>
    have:ok=o:=(by simpa using hk.symm);subst this;have hp:(fun V=>puts ops (fun j=>(if j=i then v else F j) V) (fun j=>decide (i<=j)) (a V) (i+0))=a:=by
     funext V;exact CW _ _ (a V) 0 _ (by omega) (fun j _ h2=>by simp;omega)
    unfold oN;have hv0:(fun j=>if j=i then v else F j) (i+0)=v:=if_pos rfl;rw[hp,hv0]
    exact⟨hv,h1⟩
   |succ k=>
    have hk':rest[k]? =some ok:=(by simpa using hk);have:=hF k ok hk';rw[show i+1+k=i+(k+1) by omega]at this;have he:(fun V=>puts ops (fun j=>(if j=i then v else F j) V) (fun j=>decide (i<=j)) (a V) (i+(k+1)))=fun V=>puts ops (fun j=>F j V) (fun j=>decide (i+1<=j)) ((a V).put o.dst (v V)) (i+(k+1)):=by
     funext V;exact hput V _ (by omega)
    have hne:i+(k+1)≠i:=(by omega);simp only[hne,if_false,he];exact this
  ·rw[hput V _ (by simp)];have:=hend V w hw;rw[show i+1+rest.length=i+(o::rest).length by simp;omega]at this;exact this
theorem bU(hok:OC md ops=true){a:Act}(h:AU P md ops Q S ops.toList 0 (fun _=>a)){w:World}{V0:Nat->Value}(hw:S V0 (fun _=>false) w):wpAny P md ops Q ops.size (Array.replicate ops.size false) a w:=by
 obtain⟨F,hF,hend⟩:=Xd ops.toList 0 _ h (fun k _=>by simp);obtain⟨hsel,hsp⟩:=NA hok;have hL0:(fun j=>decide (0<=j))=fun _:Nat=>true:=by funext j;simp
 rw[hL0]at hF hend;have main:∀(fuel:Nat) (listed:Array Bool) (V:Nat->Value) (w:World),listed.size=ops.size->left (fun j=>listed.getD j false) ops.size<=fuel->
   (∀j oj,ops[j]? =some oj->listed.getD j false=true->∀e∈oj.after,Region.binds md e=true->listed.getD e.on false=true)->
   S V (fun j=>listed.getD j false) w->wpAny P md ops Q fuel listed (puts ops (fun j=>F j V) (fun j=>listed.getD j false) a ops.size) w:=by
  intro fuel
  induction fuel with
  |zero=>
   intro listed V w hsz hleft hcl hS;have hall:=Gw _ _ (Nat.le_zero.1 hleft);have UC:Region.ready md ops listed=[]:=by
    rw[List.eq_nil_iff_forall_not_mem];intro j hj;obtain⟨h0,o,ho,_⟩:=Js hj;have hlt:j<ops.size:=(Array.getElem?_eq_some_iff.1 ho).1;have h1:=hall j hlt;rw[getD_both listed j (by omega) false true,h0]at h1;cases h1
   refine⟨UC,?_⟩;have pX:=Hy listed ops.size hsz hall;rw[D6 _ _ (fun _=>true) a ops.size (fun j hj=>hall j hj)];rw[pX]at hS
   simpa using hend V w hS
  |succ fuel ih=>
   intro listed V w hsz hleft hcl hS;refine⟨fun hr=>?_,fun i hi=>?_⟩
   ·by_cases h0:left (fun j=>listed.getD j false) ops.size=0
    ·have hall:=Gw _ _ h0;have pX:=Hy listed ops.size hsz hall;rw[D6 _ _ (fun _=>true) a ops.size (fun j hj=>hall j hj)];rw[pX]at hS;simpa using hend V w hS
    ·exfalso;obtain⟨j,hj,hno,QH⟩:=Ou _ _ (Nat.pos_of_ne_zero h0);obtain⟨o,ho⟩:∃o,ops[j]? =some o:=⟨ops[j],by simp[hj]⟩;have:j∈Region.ready md ops listed:=mem_ready.2 ⟨by rw[getD_both listed j (by omega) true false];exact hno,o,ho,fun e he hb=>QH _ ((hsp j o ho).1 e he hb)⟩;rw[hr]at this;cases this
   ·obtain⟨h0,o,ho,MH⟩:=Js hi;have hlt:i<ops.size:=(Array.getElem?_eq_some_iff.1 ho).1;have hno:listed.getD i false=false:=(by rw[getD_both listed i (by omega) false true];exact h0);have Mv:∀j oj,ops[j]? =some oj->(listed.setIfInBounds i true).getD j false=true->∀e∈oj.after,Region.binds md e=true->(listed.setIfInBounds i true).getD e.on false=true:=by
     intro j oj hj hl e he hb;by_cases hji:j=i
     ·subst hji;rw[ho]at hj;cases hj;exact getD_set_true (MH e he hb)
     ·rw[getD_set_ne false (Ne.symm hji)]at hl;exact getD_set_true (hcl j oj hj hl e he hb)
    have UD:left (fun j=>(listed.setIfInBounds i true).getD j false) ops.size<=fuel:=by
     rw[getD_upd listed i (by omega)];have:=(Rx (fun j=>listed.getD j false) i hno ops.size).2 hlt;omega
    have hput:∀V,(puts ops (fun j=>F j V) (fun j=>listed.getD j false) a ops.size).put o.dst (F i V)=puts ops (fun j=>F j V) (upd (fun j=>listed.getD j false) i) a ops.size:=fun V=>
     Rj (fun i oi hi=>(hsp i oi hi).2) (fun i oi hi=>(hsp i oi hi).1) (fun j=>F j V) (fun j=>listed.getD j false) a i o ho hno hcl ops.size hlt
    have RH:∀t∈o.looksAt ops,(puts ops (fun j=>F j V) (fun j=>listed.getD j false) a ops.size).tmps[t]? =(puts ops (fun j=>F j V) (fun _=>true) a (0+i)).tmps[t]? :=by
     intro t ht;have h1:(puts ops (fun j=>F j V) (fun j=>listed.getD j false) a ops.size).tmps[t]? =(puts ops (fun j=>F j V) (fun j=>decide (j<i)) a ops.size).tmps[t]? :=by
      refine Oe _ _ _ a t ops.size fun j hj hd=>?_;by_cases hji:j=i
      ·subst hji;simp only[hno];simp
      ·obtain⟨oj,hoj⟩:∃o,ops[j]? =some o:=⟨ops[j],by simp[hj]⟩;rcases(hsp i o ho).2 j oj hoj hji with⟨e,he,hb,heq⟩|⟨e,he,hb,heq⟩|hap
       ·have hl:=MH e he hb;have hlt':=(hsp i o ho).1 e he hb;rw[heq]at hl hlt';simp only[hl,hlt',decide_true]
       ·have hlt':=(hsp j oj hoj).1 e he hb;rw[heq]at hlt';have:¬j<i:=(by omega);simp only[this,decide_false]
        cases hl:listed.getD j false with
        |false=>rfl
        |true=>
         have:=hcl j oj hoj hl e he hb;rw[heq,hno]at this;cases this
       ·rw[hoj]at hd;exact absurd ht ((Oper.apart_spec hap).2.2 t hd)
     rw[h1,CW _ (fun j=>decide (j<i)) a i ops.size (by omega) (fun j h1 _=>by simp;omega),Nat.zero_add];rw[D6 _ (fun j=>decide (j<i)) (fun _=>true) a i (fun j hj=>by simp[hj])]
    have VX:=PE o (fun cs b=>hsel i o cs b ho) _ _ RH;have hwant:=K7 o _ _ RH;have hk:ops.toList[i]? =some o:=(by simpa using ho);have hR:Right md ops fun j=>listed.getD j false:=by
     intro j k hjk hk;obtain⟨oj,hj,e,he,hb,rfl⟩:=Ho hjk;show listed.getD j false=false
     cases hl:listed.getD j false with
     |false=>rfl
     |true=>
      have hk:listed.getD e.on false=false:=hk;rw[hcl j oj hj hl e he hb]at hk;cases hk
    have rE:∀j,waits md ops i j=true->listed.getD j false=true:=by
     intro j hj;obtain⟨oi,hi',e,he,hb,rfl⟩:=Ho hj;rw[ho]at hi';cases hi';exact MH e he hb
    have AAZ:∀V':Nat->Value,(∀k,k≠i->V' k=V k)->puts ops (fun j=>F j V) (fun j=>listed.getD j false) a ops.size=puts ops (fun j=>F j V') (fun j=>listed.getD j false) a ops.size:=by
     intro V' hV';have hj:∀j,j<ops.size->listed.getD j false=true->F j V=F j V':=by
      intro j hj hl;have hkj:ops.toList[j]? =some ops[j]:=(by simp[hj]);have hd:=(hF j ops[j] hkj).1;rw[Nat.zero_add]at hd;refine hd (fun j=>listed.getD j false) V V' hR hl fun k hkl=>?_;have:k≠i:=fun e=>by
       subst e;have hkl:listed.getD k false=true:=hkl;rw[hno]at hkl;cases hkl
      exact(hV' k this).symm
     have:∀n,n<=ops.size->puts ops (fun j=>F j V) (fun j=>listed.getD j false) a n=puts ops (fun j=>F j V') (fun j=>listed.getD j false) a n:=by
      intro n
      induction n with
      |zero=>intro _;rfl
      |succ n ihn=>
       intro hn
       cases hl:listed.getD n false with
       |true=>rw[Ec (L:=fun j=>listed.getD j false) hl,Ec (L:=fun j=>listed.getD j false) hl,ihn (by omega),hj n (by omega) hl]
       |false=>rw[Ij (L:=fun j=>listed.getD j false) hl,Ij (L:=fun j=>listed.getD j false) hl,ihn (by omega)]
     exact this _ (AQ)
    have hVi:=(hF i o hk).2 V (fun j=>listed.getD j false) w hS (by rw[Nat.zero_add];exact hno) hR (by rw[Nat.zero_add];exact rE);unfold wpOp;simp only[ho];rw[hwant];have hnext:∀V' w',(∀k,k≠i->V' k=V k)->S V' (upd (fun j=>listed.getD j false) i) w'->wpAny P md ops Q fuel (listed.setIfInBounds i true) ((puts ops (fun j=>F j V) (fun j=>listed.getD j false) a ops.size).put o.dst (F i V')) w':=by
     intro V' w' hV' hS';rw[AAZ V' hV',hput V',<-getD_upd listed i (by omega)];exact ih _ V' w' (by simpa using hsz) UD Mv (by rw[getD_upd listed i (by omega)];exact hS')
    simp only[Nat.zero_add]at hVi;rw[Nat.zero_add]at VX⊢;rcases hVi with⟨hw,hrun⟩|⟨hw,hv,hrun⟩
    ·rw[if_pos hw];refine .inl (au (G:=fun v w'=>∃V':Nat->Value,(∀k,k≠i->V' k=V k)/\v=F i V'/\S V' (upd (fun j=>listed.getD j false) i) w') VX (by rw[EX,EX]) ?_ ?_)
     ·refine Oper.wp_mono ?_ hrun;rintro a1 w1 ⟨V',h1,h2,h3⟩;exact⟨_,h2,V',h1,rfl,h3⟩
     ·rintro v w' ⟨V',h1,rfl,h3⟩;exact hnext V' w' h1 h3
    ·rw[if_neg (by rw[hw];simp),<-hv];exact hnext V w (fun _ _=>rfl) hrun
 have h0:(fun j=>(Array.replicate ops.size false).getD j false)=fun _:Nat=>false:=by
  funext j;by_cases hj:j<ops.size<;>simp[hj]
 have:=main ops.size (Array.replicate ops.size false) V0 w (by simp) (Vz _ _) (fun j oj hj hl=>by
  have:=congrFun h0 j;rw[hl]at this
  cases this) (by rw[h0];exact hw)
 rw[h0,CW _ (fun _=>false) a 0 ops.size (by omega) (fun _ _ _=>rfl)]at this;exact this
theorem AV{id:Nat}{l:List Oper}{a:Act}{w:World}(hm:P.follows .mixedOrders=true)(hok:OC .any l.toArray=true)(hw:S (fun _=>undef) (fun _=>false) w.drew)(h:AU P .any l.toArray Q S l 0 (fun _=>a)):(Code.region id l.toArray true).wp P Q a w:=
 wp_region_any hm (bU hok (by simpa using h) hw)
theorem AU.nil{i:Nat}{a:(Nat->Value)->Act}(h:∀V w,S V (fun j=>decide (j<ops.size)) w->Q .normal (a V) w):AU P md ops Q S [] i a:=h
theorem AU.step{o:Oper}{i:Nat}{a a1:(Nat->Value)->Act}(hw:∀V,Region.wanted o (yielded ops (a V).tmps)=true)(h:∀(V:Nat->Value) (L:Nat->Bool) (w:World) (K:Act->World->Prop) (Q':Exit->Act->World->Prop),S V L w->L i=false->Shut (Right md ops L)->Shut (∀j,waits md ops i j=true->L j=true)->Shut (∀w',S V (upd L i) w'->K (a1 V) w')->o.wp P (a V) w K Q')(ha:∀V,a1 V=(a V).put o.dst (G8 (a1 V) o.dst)) (hd:QJ md ops i (fun V=>G8 (a1 V) o.dst)) (hr:AU P md ops Q S rest (i+1) a1):AU P md ops Q S (o::rest) i a:=
 ⟨fun V=>G8 (a1 V) o.dst,hd,fun V L w hS hi hR hd=> .inl ⟨hw V,h V L w _ _ hS hi hR hd (fun _ hS'=>⟨V,fun _ _=>rfl,ha V,hS'⟩)⟩,by
  have:(fun V=>(a V).put o.dst (G8 (a1 V) o.dst))=a1:=by funext V;exact(ha V).symm
  rw[this];exact hr⟩
theorem AU.LM{o:Oper}{i:Nat}{a a1:(Nat->Value)->Act}(hw:∀V,Region.wanted o (yielded ops (a V).tmps)=true)(h:∀(V:Nat->Value) (L:Nat->Bool) (w:World) (K:Act->World->Prop) (Q':Exit->Act->World->Prop),S V L w->L i=false->Shut (Right md ops L)->Shut (∀j,waits md ops i j=true->L j=true)->Shut (∀w',S V (upd L i) w'->K (a1 V) w')->o.wp P (a V) w K Q')(ha:∀V,a1 V=(a V).put o.dst (G8 (a1 V) o.dst)) (hd:∀(L:Nat->Bool) (V V':Nat->Value),Right md ops L->L i=true->(∀k,L k=true->V k=V' k)->G8 (a1 V) o.dst=G8 (a1 V') o.dst) (hr:AU P md ops Q S rest (i+1) a1):AU P md ops Q S (o::rest) i a:=AU.step hw h ha hd hr
theorem AU.free{o:Oper}{i:Nat}{a:(Nat->Value)->Act}(hw:∀V,Region.wanted o (yielded ops (a V).tmps)=true)(h:∀(V:Nat->Value) (L:Nat->Bool) (w:World) (K:Act->World->Prop) (Q':Exit->Act->World->Prop),S V L w->L i=false->Shut (Right md ops L)->Shut (∀j,waits md ops i j=true->L j=true)->Shut (∀a' w',a'=(a V).put o.dst (G8 a' o.dst)->S (EB V i (G8 a' o.dst)) (upd L i) w'->K a' w')->o.wp P (a V) w K Q')(hr:AU P md ops Q S rest (i+1) (fun V=>(a V).put o.dst (V i))):AU P md ops Q S (o::rest) i a:=
 ⟨fun V=>V i,fun L V V' _ hi h=>h i hi,fun V L w hS hi hR hd=> .inl ⟨hw V,h V L w _ _ hS hi hR hd (fun a' w' h1 hS'=>⟨EB V i (G8 a' o.dst),fun k hk=>Br V _ hk,by show a'=(a V).put o.dst (EB V i (G8 a' o.dst) i);rw[BL];exact h1,hS'⟩)⟩,hr⟩
theorem AU.val{o:Oper}{i:Nat}{a:(Nat->Value)->Act}(v:Value)(hw:∀V,Region.wanted o (yielded ops (a V).tmps)=true)(h:∀(V:Nat->Value) (L:Nat->Bool) (w:World) (K:Act->World->Prop) (Q':Exit->Act->World->Prop),S V L w->L i=false->Shut (Right md ops L)->Shut (∀j,waits md ops i j=true->L j=true)->Shut (∀a' w',a'=(a V).put o.dst v->S V (upd L i) w'->K a' w')->o.wp P (a V) w K Q')(hr:AU P md ops Q S rest (i+1) (fun V=>(a V).put o.dst v)):AU P md ops Q S (o::rest) i a:=
 ⟨fun _=>v,fun _ _ _ _ _ _=>rfl,fun V L w hS hi hR hd=> .inl ⟨hw V,h V L w _ _ hS hi hR hd (fun _ _ h1 hS'=>⟨V,fun _ _=>rfl,h1,hS'⟩)⟩,hr⟩
structure Zf(md:Region.Mode)(ops:Array Oper)(S:(Nat->Value)->(Nat->Bool)->World->Prop)(j:Nat)(V:Nat->Value)(L:Nat->Bool)(w:World):Prop where
 s:S V L w
 i:L j=false
 r:Right md ops L
 d:∀k,waits md ops j k=true->L k=true
theorem Zf.o{j:Nat}{w:World}(z:Zf md ops S j V L w)(k:Nat)(h:waits md ops k j=true):L k=false:=z.r k j h z.i
def fv2(a:Act)(v:Value):Act×Value:=(a,v)
theorem AU.y{o:Oper}{i:Nat}{a a1:(Nat->Value)->Act}(hw:(fun V=>Region.wanted o (yielded ops (a V).tmps))=fun _=>true)(h:∀V L w K Q,Zf md ops S i V L w->Shut (∀w',S V (upd L i) w'->K (a1 V) w')->o.wp P (a V) w K Q)(ha:∀V V',fv2 (a1 V) (G8 (a1 V) o.dst)=fv2 ((a V).put o.dst (G8 (a1 V) o.dst)) (G8 (a1 V') o.dst))(hr:AU P md ops Q S rest (i+1) a1):AU P md ops Q S (o::rest) i a:=
 AU.LM (fun V=>congrFun hw V) (fun V L w K Q' hS hi hR hd hK=>h V L w K Q' ⟨hS,hi,hR.out,hd.out⟩ hK) (fun V=>congrArg Prod.fst (ha V V)) (fun _ V V' _ _ _=>congrArg Prod.snd (ha V V')) hr
theorem AU.z{o:Oper}{i:Nat}{a a1:(Nat->Value)->Act}(hw:(fun V=>Region.wanted o (yielded ops (a V).tmps))=fun _=>true)(h:∀V L w K Q,(∀(a:Act) (d:Option Tmp) (v:Value),a.put d v=match d with|some d=>{a with tmps:=a.tmps.setIfInBounds d v}|none=>a)->Zf md ops S i V L w->(∀{w'},S V (upd L i) w'->K (a1 V) w')->o.wp P (a V) w K Q)(ha:∀V V',fv2 (a1 V) (G8 (a1 V) o.dst)=fv2 ((a V).put o.dst (G8 (a1 V) o.dst)) (G8 (a1 V') o.dst))(hr:AU P md ops Q S rest (i+1) a1):AU P md ops Q S (o::rest) i a:=
 AU.y hw (fun V L w K Q' z hK=>h V L w K Q' pA z fun h=>hK.out _ h) ha hr
theorem AU.w{o:Oper}{i:Nat}{a:(Nat->Value)->Act}(hw:(fun V=>Region.wanted o (yielded ops (a V).tmps))=fun _=>true)(h:∀V L w K Q,(∀(a:Act) (d:Option Tmp) (v:Value),a.put d v=match d with|some d=>{a with tmps:=a.tmps.setIfInBounds d v}|none=>a)->Zf md ops S i V L w->(∀{a' w'},a'=(a V).put o.dst (G8 a' o.dst)->S (EB V i (G8 a' o.dst)) (upd L i) w'->K a' w')->o.wp P (a V) w K Q)(hr:AU P md ops Q S rest (i+1) (fun V=>(a V).put o.dst (V i))):AU P md ops Q S (o::rest) i a:=
 AU.free (fun V=>congrFun hw V) (fun V L w K Q' hS hi hR hd hK=>h V L w K Q' pA ⟨hS,hi,hR.out,hd.out⟩ fun h=>hK.out _ _ h) hr
end
theorem Dm{i k:Nat}(h:(k==i)=false):upd L i k=L k:=by simp[upd,h]
theorem Gq{i:Nat}:upd L i i=true:=by simp[upd]
end
section
theorem AB{w:World}(h1:AA6 w w1)(h2:AA6 w1 w2):AA6 w w2:=h1.trans (h2.mono h1.size)
structure Ae(w:World)(p:Nat)(cs:List Value):Prop where
 c:∀i v,cs[i]? =some v->w.cell? ⟨p,i,none⟩=some v
 f:∀i,i<cs.length->w.frozen? ⟨p,i,none⟩=false
theorem Ae.alloc(w:World)(cs:List Value)(t:TypeId):Ae (w.alloc (Obj.cells cs.toArray t)) w.heap.size cs:=
 {c:=fun i v h=>by rw[World.cell?_alloc_mark];simpa using h
  f:=fun i h=>by rw[World.frozen?_alloc_mark];rfl}
theorem Ae.below{w:World}{p B:Nat}(h:Ae w p cs)(hp:p<B)(hb:Below B w w1):Ae w1 p cs:=
 {c:=fun i v hv=>by rw[hb.cell hp];exact h.c i v hv
  f:=fun i hi=>by rw[hb.frozen hp];exact h.f i hi}
theorem Ae.drew{w:World}{p:Nat}(h:Ae w p cs):Ae w.drew p cs:={c:=fun i v hv=>h.c i v hv,f:=fun i hi=>h.f i hi}
theorem Ae.lt{w:World}{p:Nat}(h:Ae w p (v::cs)):p<w.heap.size:=World.block_lt_of_cell? w _ (h.c 0 v rfl)
theorem Ae.set{w:World}{p:Nat}(h:Ae w p cs){i:Nat}(hi:i<cs.length)(v:Value):Ae (w.setCell ⟨p,i,none⟩ v) p (cs.set i v):=
 {c:=fun j u hu=>by
   by_cases e:j=i
   ·subst e;have:u=v:=(by simpa[hi]using hu.symm);subst this;exact World.cell?_setCell_same _ _ _ (h.c j cs[j] (by simp[hi]))
   ·have e':i≠j:=fun h=>e h.symm;rw[World.cell?_setCell_other _ _ _ _ (by intro he;exact e' (congrArg Addr.off he))];exact h.c j u (by simpa[List.getElem?_set_ne e']using hu)
  f:=fun j hj=>by
   rw[World.frozen?_setCell]
   exact h.f j (by simpa using hj)}
theorem Ae.al{w:World}{p:Nat}(h:Ae w p (v::cs))(o:Obj):Ae (w.alloc o) p (v::cs):=h.below h.lt (AJ _ o)
theorem Ae.nx{w:World}{p:Nat}(h:Ae w p (v::cs))(hb:AA6 w w1):Ae w1 p (v::cs):=h.below h.lt hb
theorem Ae.far{w:World}{p:Nat}(h:Ae w p cs){q:Addr}(hq:q.block≠p)(v:Value):Ae (w.setCell q v) p cs:=
 {c:=fun j u hu=>by
   rw[World.cell?_setCell_other _ _ _ _ (by intro he;exact hq (congrArg Addr.block he))];exact h.c j u hu
  f:=fun j hj=>by rw[World.frozen?_setCell];exact h.f j hj}
theorem Ae.same{w:World}{p:Nat}(h:Ae w p cs)(he:w'.heap[p]? =w.heap[p]?):Ae w' p cs:=
 {c:=fun i v hv=>by rw[World.cell?_of_block (w:=w) (w':=w') (a:=⟨p,i,none⟩) he];exact h.c i v hv
  f:=fun i hi=>by rw[World.frozen?_of_block (w:=w) (w':=w') (a:=⟨p,i,none⟩) he];exact h.f i hi}
theorem JM(w:World)(p:Nat)(i:Nat)(v:Value):w.grownBy (w.setCell ⟨p,i,none⟩ v) (some p):=
 ⟨rfl,rfl,rfl,by simp[World.setCell],fun k _ hne=>Below.heap_setCell _ _ _ _ (fun e=>hne (by rw[e]))⟩
section
variable {w : World} {p : Nat} {a b c d e f g h i j k m n : Value} {l : List Value}
theorem Ae.c2(x:Ae w p (a::b::l)):w.cell? ⟨p,0,none⟩=some a/\w.cell? ⟨p,1,none⟩=some b:=⟨x.c 0 _ rfl,x.c 1 _ rfl⟩
theorem Ae.c3(x:Ae w p (a::b::c::l)):w.cell? ⟨p,0,none⟩=some a/\w.cell? ⟨p,1,none⟩=some b/\w.cell? ⟨p,2,none⟩=some c:=by grind [cases Ae]
theorem Ae.c4(x:Ae w p (a::b::c::d::l)):w.cell? ⟨p,0,none⟩=some a/\w.cell? ⟨p,1,none⟩=some b/\w.cell? ⟨p,2,none⟩=some c/\w.cell? ⟨p,3,none⟩=some d:=by grind [cases Ae]
theorem Ae.c5(x:Ae w p (a::b::c::d::e::l)):w.cell? ⟨p,0,none⟩=some a/\w.cell? ⟨p,1,none⟩=some b/\w.cell? ⟨p,2,none⟩=some c/\w.cell? ⟨p,3,none⟩=some d/\w.cell? ⟨p,4,none⟩=some e:=by grind [cases Ae]
theorem Ae.c6(x:Ae w p (a::b::c::d::e::f::l)):w.cell? ⟨p,0,none⟩=some a/\w.cell? ⟨p,1,none⟩=some b/\w.cell? ⟨p,2,none⟩=some c/\w.cell? ⟨p,3,none⟩=some d/\w.cell? ⟨p,4,none⟩=some e/\w.cell? ⟨p,5,none⟩=some f:=by grind [cases Ae]
theorem Ae.c9(x:Ae w p (a::b::c::d::e::f::g::h::i::l)):w.cell? ⟨p,0,none⟩=some a/\w.cell? ⟨p,1,none⟩=some b/\w.cell? ⟨p,2,none⟩=some c/\w.cell? ⟨p,3,none⟩=some d/\w.cell? ⟨p,4,none⟩=some e/\w.cell? ⟨p,5,none⟩=some f/\w.cell? ⟨p,6,none⟩=some g/\w.cell? ⟨p,7,none⟩=some h/\w.cell? ⟨p,8,none⟩=some i:=⟨x.c 0 _ rfl,x.c 1 _ rfl,x.c 2 _ rfl,x.c 3 _ rfl,x.c 4 _ rfl,x.c 5 _ rfl,x.c 6 _ rfl,x.c 7 _ rfl,x.c 8 _ rfl⟩
theorem Ae.c11(x:Ae w p (a::b::c::d::e::f::g::h::i::j::k::l)):w.cell? ⟨p,0,none⟩=some a/\w.cell? ⟨p,1,none⟩=some b/\w.cell? ⟨p,2,none⟩=some c/\w.cell? ⟨p,3,none⟩=some d/\w.cell? ⟨p,4,none⟩=some e/\w.cell? ⟨p,5,none⟩=some f/\w.cell? ⟨p,6,none⟩=some g/\w.cell? ⟨p,7,none⟩=some h/\w.cell? ⟨p,8,none⟩=some i/\w.cell? ⟨p,9,none⟩=some j/\w.cell? ⟨p,10,none⟩=some k:=⟨x.c 0 _ rfl,x.c 1 _ rfl,x.c 2 _ rfl,x.c 3 _ rfl,x.c 4 _ rfl,x.c 5 _ rfl,x.c 6 _ rfl,x.c 7 _ rfl,x.c 8 _ rfl,x.c 9 _ rfl,x.c 10 _ rfl⟩
theorem Ae.c13(x:Ae w p (a::b::c::d::e::f::g::h::i::j::k::m::n::l)):w.cell? ⟨p,0,none⟩=some a/\w.cell? ⟨p,1,none⟩=some b/\w.cell? ⟨p,2,none⟩=some c/\w.cell? ⟨p,3,none⟩=some d/\w.cell? ⟨p,4,none⟩=some e/\w.cell? ⟨p,5,none⟩=some f/\w.cell? ⟨p,6,none⟩=some g/\w.cell? ⟨p,7,none⟩=some h/\w.cell? ⟨p,8,none⟩=some i/\w.cell? ⟨p,9,none⟩=some j/\w.cell? ⟨p,10,none⟩=some k/\w.cell? ⟨p,11,none⟩=some m/\w.cell? ⟨p,12,none⟩=some n:=⟨x.c 0 _ rfl,x.c 1 _ rfl,x.c 2 _ rfl,x.c 3 _ rfl,x.c 4 _ rfl,x.c 5 _ rfl,x.c 6 _ rfl,x.c 7 _ rfl,x.c 8 _ rfl,x.c 9 _ rfl,x.c 10 _ rfl,x.c 11 _ rfl,x.c 12 _ rfl⟩
theorem Ae.f2(x:Ae w p (a::b::l)):w.frozen? ⟨p,0,none⟩=false/\w.frozen? ⟨p,1,none⟩=false:=by grind [cases Ae]
theorem Ae.f3(x:Ae w p (a::b::c::l)):w.frozen? ⟨p,0,none⟩=false/\w.frozen? ⟨p,1,none⟩=false/\w.frozen? ⟨p,2,none⟩=false:=by grind [cases Ae]
theorem Ae.f5(x:Ae w p (a::b::c::d::e::l)):w.frozen? ⟨p,0,none⟩=false/\w.frozen? ⟨p,1,none⟩=false/\w.frozen? ⟨p,2,none⟩=false/\w.frozen? ⟨p,3,none⟩=false/\w.frozen? ⟨p,4,none⟩=false:=by grind [cases Ae]
theorem Ae.f6(x:Ae w p (a::b::c::d::e::f::l)):w.frozen? ⟨p,0,none⟩=false/\w.frozen? ⟨p,1,none⟩=false/\w.frozen? ⟨p,2,none⟩=false/\w.frozen? ⟨p,3,none⟩=false/\w.frozen? ⟨p,4,none⟩=false/\w.frozen? ⟨p,5,none⟩=false:=by grind [cases Ae]
theorem Ae.f9(x:Ae w p (a::b::c::d::e::f::g::h::i::l)):w.frozen? ⟨p,0,none⟩=false/\w.frozen? ⟨p,1,none⟩=false/\w.frozen? ⟨p,2,none⟩=false/\w.frozen? ⟨p,3,none⟩=false/\w.frozen? ⟨p,4,none⟩=false/\w.frozen? ⟨p,5,none⟩=false/\w.frozen? ⟨p,6,none⟩=false/\w.frozen? ⟨p,7,none⟩=false/\w.frozen? ⟨p,8,none⟩=false:=⟨x.f 0 (by simp),x.f 1 (by simp),x.f 2 (by simp),x.f 3 (by simp),x.f 4 (by simp),x.f 5 (by simp),x.f 6 (by simp),x.f 7 (by simp),x.f 8 (by simp)⟩
theorem Ae.f13(x:Ae w p (a::b::c::d::e::f::g::h::i::j::k::m::n::l)):w.frozen? ⟨p,0,none⟩=false/\w.frozen? ⟨p,1,none⟩=false/\w.frozen? ⟨p,2,none⟩=false/\w.frozen? ⟨p,3,none⟩=false/\w.frozen? ⟨p,4,none⟩=false/\w.frozen? ⟨p,5,none⟩=false/\w.frozen? ⟨p,6,none⟩=false/\w.frozen? ⟨p,7,none⟩=false/\w.frozen? ⟨p,8,none⟩=false/\w.frozen? ⟨p,9,none⟩=false/\w.frozen? ⟨p,10,none⟩=false/\w.frozen? ⟨p,11,none⟩=false/\w.frozen? ⟨p,12,none⟩=false:=⟨x.f 0 (by simp),x.f 1 (by simp),x.f 2 (by simp),x.f 3 (by simp),x.f 4 (by simp),x.f 5 (by simp),x.f 6 (by simp),x.f 7 (by simp),x.f 8 (by simp),x.f 9 (by simp),x.f 10 (by simp),x.f 11 (by simp),x.f 12 (by simp)⟩
end
section
variable {P : Program} {fn : Func} {R : Ending -> World -> Prop} {a : Act} {w : World} {v : Value} {p u t : Tmp} {ty oo : TypeId}
theorem rB(h:fn.results=#[.cell p ty,.tmp u])(hr:(((asAddr (a.tmps.getD p undef)).run P w).andThen fun b w₁=>((loadVar ty b).run P w₁).andThen fun v w₂=> .ok (.tuple #[v,a.tmps.getD u undef]) w₂)=.ok v w)(hd:a.defers=[])(hR:R (.returned v) w):bodyPost P fn R .ret a w:=
 bodyPost_ret_by ((results_cell_tmp h _ _ _).trans hr) hd hR
end
def TG(w:World)(p:Nat)(t:TypeId):Prop:=∃cur m,w.heap[p]? =some (.cells cur t m)
theorem TG.lt{w:World}{p:Nat}{t:TypeId}(h:TG w p t):p<w.heap.size:=by grind [TG]
theorem BR{w:World}(h:Below (w.alloc (Obj.cells c1.toArray t1)).heap.size (w.alloc (Obj.cells c1.toArray t1)) w1):Ae w1 w.heap.size c1/\AA6 w w1:=by
 have h1:=AJ w (Obj.cells c1.toArray t1);exact⟨(Ae.alloc w c1 t1).below (by simp) h,AB h1 h⟩
theorem Ch{w:World}{c2:List Value}(h:Below ((w.alloc (Obj.cells c1.toArray t1)).alloc (Obj.cells c2.toArray t2)).heap.size ((w.alloc (Obj.cells c1.toArray t1)).alloc (Obj.cells c2.toArray t2)) w1):Ae w1 w.heap.size c1/\Ae w1 (w.heap.size+1) c2/\AA6 w w1:=by
 have s1:(w.alloc (Obj.cells c1.toArray t1)).heap.size=w.heap.size+1:=by simp
 grind [BR,cases Ae]
theorem aY{w:World}{c2 c3:List Value}{t3:TypeId}(h:Below (((w.alloc (Obj.cells c1.toArray t1)).alloc (Obj.cells c2.toArray t2)).alloc (Obj.cells c3.toArray t3)).heap.size (((w.alloc (Obj.cells c1.toArray t1)).alloc (Obj.cells c2.toArray t2)).alloc (Obj.cells c3.toArray t3)) w1):Ae w1 w.heap.size c1/\Ae w1 (w.heap.size+1) c2/\Ae w1 (w.heap.size+1+1) c3/\AA6 w w1:=by
 have s1:((w.alloc (Obj.cells c1.toArray t1)).alloc (Obj.cells c2.toArray t2)).heap.size=w.heap.size+1+1:=by simp
 grind [BR,Ch,cases Ae]
def Ck(w0:World)(na ns:Nat)(zs cs:List Value)(V:Nat->Value)(L:Nat->Bool)(w1:World):Prop:=
 AA6 w0 w1/\(L ns=true->L na=true)/\
  (L na=true->∃p,V na=.pointer (some ⟨p,0,none⟩)/\w0.heap.size<=p/\p<w1.heap.size/\Ae w1 p (if L ns=true then cs else zs))
theorem upd_ne{i k:Nat}(h:(k==i)=false):upd L i k=L k:=by simp[upd,h]
theorem Cc{i:Nat}:upd L i i=true:=by simp[upd]
theorem Ck.start(h:AA6 w0 w1):Ck w0 na ns zs cs V (fun _=>false) w1:=by grind [Ck]
theorem Ck.keep(h:Ck w0 na ns zs cs V L w1){i:Nat}(h1:(na==i)=false)(h2:(ns==i)=false):Ck w0 na ns zs cs V (upd L i) w1:=by simp_all[Ck,upd]
theorem Ck.call(h:Ck w0 na ns zs cs V L w1)(hb:AA6 w1 w2){i:Nat}(h1:(na==i)=false)(h2:(ns==i)=false):Ck w0 na ns zs cs V (upd L i) w2:=by
 refine Ck.keep ⟨h.1.trans (hb.mono h.1.size),h.2.1,fun hl=>?_⟩ h1 h2;obtain⟨p,e,h3,h4,h5⟩:=h.2.2 hl;exact⟨p,e,h3,A9 h4 hb.size,h5.below h4 hb⟩
theorem Ck.made(h:Ck w0 na ns zs cs V L w1)(hns:(ns==na)=false)(hl:L na=false)(t:TypeId):Ck w0 na ns zs cs (EB V na (.pointer (some ⟨w1.heap.size,0,none⟩))) (upd L na) (w1.alloc (Obj.cells zs.toArray t)):=by
 have hno:L ns=false:=by
  cases hn:L ns with
  |false=>rfl
  |true=>have:=h.2.1 hn;rw[hl]at this;cases this
 refine⟨h.1.alloc h.1.size _,fun _=>Cc,fun _=>⟨w1.heap.size,BL _ _ _,h.1.size,by simp,?_⟩⟩;rw[upd_ne hns,hno];exact Ae.alloc w1 zs t
theorem Ck.at(h:Ck w0 na ns zs cs V L w1)(hl:L na=true)(hn:L ns=false):∃p,V na=.pointer (some ⟨p,0,none⟩)/\w0.heap.size<=p/\p<w1.heap.size/\Ae w1 p zs:=by simp_all[Ck,none]
theorem Ck.done(h:Ck w0 na ns zs cs V L w1)(hl:L na=true)(hn:L ns=true):∃p,V na=.pointer (some ⟨p,0,none⟩)/\w0.heap.size<=p/\p<w1.heap.size/\Ae w1 p cs:=by simp_all[Ck,none]
theorem Ck.fill(_:Ck w0 na ns zs cs V L w1)(hl:L na=true){p:Nat}(hp:V na=.pointer (some ⟨p,0,none⟩))(hp0:w0.heap.size<=p)(hp1:p<w2.heap.size)(hB:AA6 w0 w2)(hx:Ae w2 p cs)(hns:(na==ns)=false):Ck w0 na ns zs cs V (upd L ns) w2:=by simp_all[Ck,none,upd]
def Ah(st:Nat)(I J:World->Prop)(L:Nat->Bool)(w:World):Prop:=(L st=false->I w)/\(L st=true->J w)
theorem Ah.start{I J:World->Prop}{w:World}(h:I w):Ah st I J (fun _=>false) w:=by grind [Ah]
theorem Ah.keep{I J:World->Prop}{i:Nat}{w:World}(hl:L st=false)(h:I w)(hne:(st==i)=false):Ah st I J (upd L i) w:=by simp_all[Ah,upd]
theorem Ah.done{I J:World->Prop}{w:World}(h:J w):Ah st I J (upd L st) w:=by simp_all[Ah,upd]
theorem Ah.pass{I J:World->Prop}{i:Nat}{w:World}(h:Ah st I J L w)(hne:(st==i)=false):Ah st I J (upd L i) w:=by simp_all[Ah,upd]
theorem wrN{n:Nat}(h:n<=9223372036854775807):IntKind.i64.wrap (n:Int)=n:=IntWalk.i64_in _ (by omega)
theorem again{α:Type}(w:α):∃v,v=w:=⟨w,rfl⟩
theorem ng{w W:World}{t:TypeId}(h:w.alloc (Obj.cells cs.toArray t)=W):AA6 w W/\Ae W w.heap.size cs:=by
 subst h;exact⟨AJ _ _,Ae.alloc w cs t⟩
theorem ABY{w W:World}{c2:List Value}(h:(w.alloc (Obj.cells c1.toArray t1)).alloc (Obj.cells c2.toArray t2)=W):Ae W w.heap.size c1/\Ae W (w.heap.size+1) c2/\AA6 w W:=by
 subst h;exact Ch (AL)
end
section
def IV(s n:Nat)(f:Nat->Nat->Value):List Value:=(List.range (n*s)).map fun j=>f (j/s) (j%s)
theorem Jq(s n:Nat)(f:Nat->Nat->Value):(IV s n f).length=n*s:=by simp[IV]
theorem Jj{n:Nat}{f:Nat->Nat->Value}{j:Nat}(h:j<n*s):(IV s n f)[j]? =some (f (j/s) (j%s)):=by simp[IV,h]
theorem tq{i k:Nat}(hk:k<s):(i*s+k)/s=i:=by
 rw[Nat.mul_comm,Nat.mul_add_div (by omega),Nat.div_eq_of_lt hk,Nat.add_zero]
theorem sU{i k:Nat}(hk:k<s):(i*s+k)%s=k:=by
 rw[Nat.mul_comm,Nat.mul_add_mod,Nat.mod_eq_of_lt hk]
theorem OG{n i k:Nat}(hi:i<n)(hk:k<s):i*s+k<n*s:=by
 have:(i+1)*s<=n*s:=Nat.mul_le_mul_right s hi;grind
theorem Rh{n:Nat}{f:Nat->Nat->Value}{i k:Nat}(hi:i<n)(hk:k<s):(IV s n f)[i*s+k]? =some (f i k):=by grind [Jj,OG,tq,sU]
theorem KY{n:Nat}{f:Nat->Nat->Value}{j:Nat}(h:n*s<=j):(IV s n f)[j]? =none:=by grind [Jq]
theorem Ud{n:Nat}{f g:Nat->Nat->Value}(h:∀i k,i<n->k<s->f i k=g i k):IV s n f=IV s n g:=by
 apply List.ext_getElem?;intro j;by_cases hj:j<n*s
 ·have hs:0<s:=by
   rcases Nat.eq_zero_or_pos s with e|e
   ·subst e;omega
   ·exact e
  rw[Jj hj,Jj hj,h _ _ ((Nat.div_lt_iff_lt_mul hs).2 hj) (Nat.mod_lt _ hs)]
 grind [Jj,KY]
theorem Xh(s:Nat)(f:Nat->Nat->Value):IV s 0 f=[]:=by simp[IV]
theorem Xi(s n:Nat)(f:Nat->Nat->Value):IV s (n+1) f=IV s n f++(List.range s).map (f n):=by
 apply List.ext_getElem?;intro j;have e:(n+1)*s=n*s+s:=by rw[Nat.add_mul,Nat.one_mul]
 by_cases hj:j<n*s
 ·rw[List.getElem?_append_left (by rw[Jq];exact hj),Jj hj,Jj (by omega)]
 ·rw[List.getElem?_append_right (by rw[Jq];omega),Jq];by_cases hj2:j<n*s+s
  ·obtain⟨k,rfl⟩:∃k,j=n*s+k:=⟨j-n*s,by omega⟩;have hk:k<s:=(by omega);rw[Rh (by omega) hk];have:n*s+k-n*s=k:=(by omega);rw[this];simp[hk]
  ·rw[KY (by omega),List.getElem?_eq_none (by simp;omega)]
theorem Dk{g o j:Nat}:(⟨g,o,none⟩:Addr).add j=⟨g,o+j,none⟩:=by
 unfold Addr.add;split<;>simp_all
def EM(w:World)(B:Nat)(e:TypeId)(s:Nat)(v:Value)(n:Nat)(f:Nat->Nat->Value):Prop:=w.ownsRow B e s v n (IV s n f)
section
variable {w w' : World} {B : Nat} {e : TypeId} {s : Nat} {v : Value} {n : Nat} {f : Nat -> Nat -> Value}
theorem EM.nil:EM w B e s (.slice none 0 0) 0 f:=by
 unfold EM;rw[Xh];exact World.ownsRow_nil _ _ _ _
theorem EM.slice(h:EM w B e s v n f):∃pu cu,v=.slice pu n cu:=by
 rcases h.2 with⟨rfl,rfl⟩|⟨g,cap,cur,rfl,_⟩<;>exact⟨_,_,rfl⟩
theorem Bf{xs:List Value}(h:w.ownsRow B e s v n xs):∃pu cu,v=.slice pu n cu:=by
 rcases h.2 with⟨rfl,rfl⟩|⟨g,cap,cur,rfl,_⟩<;>exact⟨_,_,rfl⟩
theorem EM.at(h:EM w B e s v n f)(h0:0<n):∃g cu,v=.slice (some ⟨g,0,none⟩) n cu/\B<=g/\g<w.heap.size/\n<=cu/\(∀i k,i<n->k<s->w.cell? ⟨g,i*s+k,none⟩=some (f i k))/\∀j,w.frozen? ⟨g,j,none⟩=false:=by
 rcases h.2 with⟨_,h1⟩|⟨g,cap,cur,rfl,hb,hg,hn,_⟩
 ·omega
 ·exact⟨g,cap,rfl,hb,(h.lt g rfl).2,hn,fun i k hi hk=>by rw[h.cellAt _ (OG hi hk),Rh hi hk],fun j=>h.frozenAt j⟩
theorem EM.kept{row:Option Nat}(h:EM w B e s v n f)(hg:w.grownBy w' row)(hne:v.ownBlock=none\/v.ownBlock≠row):EM w' B e s v n f:=World.ownsRow.kept h hg hne
theorem Ez{w:World}{C:Nat}(hb:Below C w w')(hC:w.heap.size<=C):w.grownBy w' none:=⟨hb.os,hb.tape,hb.output,hb.size,fun k hk _=>hb.block k (by omega)⟩
theorem EM.next{C:Nat}(h:EM w B e s v n f)(hb:Below C w w')(hC:w.heap.size<=C):EM w' B e s v n f:=h.kept (Ez hb hC) (by cases v.ownBlock<;>simp)
theorem EM.alloc(h:EM w B e s v n f)(o:Obj):EM (w.alloc o) B e s v n f:=World.ownsRow.alloc h o
theorem EM.push{v':Value}{xs:List Value}{f':Nat->Nat->Value}(h:w.ownsRow B e s v' (n+1) (IV s n f++xs))(hf:∀i k,i<n->k<s->f' i k=f i k)(hx:xs=(List.range s).map (f' n)):EM w B e s v' (n+1) f':=by grind [IV,EM,Xi,Ud]
theorem EM.typ(h:EM w B e s v n f){g:Nat}(hg:v.ownBlock=some g):∃cur m,w.heap[g]? =some (.cells cur e m):=by
 rcases h.2 with⟨rfl,rfl⟩|⟨g',cap,cur,rfl,hb,hheap,hn,hm,hs,hx⟩
 ·cases hg
 ·obtain rfl:g'=g:=by simpa[Value.ownBlock]using hg
  exact⟨cur,(0,0),hheap⟩
theorem EM.unlike{B':Nat}{e':TypeId}{s':Nat}{v':Value}{n':Nat}{f':Nat->Nat->Value}(h:EM w B e s v n f)(h':EM w B' e' s' v' n' f')(hne:e≠e'){g:Nat}(hg:v.ownBlock=some g):v'.ownBlock≠some g:=fun e1=>by
 obtain⟨cur,m,a⟩:=h.typ hg;obtain⟨cur',m',b⟩:=h'.typ e1;rw[a]at b;injection b with b;injection b with _ b;exact hne b
end
end
section
open Go.MapKept Go.ChangeMaps
abbrev Vu:=ByteArray×Int
abbrev Vm:=List (ByteArray×Vu)
abbrev Bv:ByteArray:=⟨#[]⟩
def getM(l:Vm)(x:ByteArray):Vu:=match l.find? (fun y=>decide (y.1=x))with
 |some y=>y.2
 |none=>(Bv,0)
def Wu(l:Vm)(x:ByteArray):Bool:=(l.find? (fun y=>decide (y.1=x))).isSome
def Ei:Vm->ByteArray->Vu->Vm
 | [],x,v=> [(x,v)]
 |y::r,x,v=>if y.1=x then(x,v)::r else y::Ei r x v
abbrev Kn(v:Vu):Value:=.agg #[.string v.1,.int .i64 v.2]
def Eu(x:ByteArray×Vu):Value×Value:=(.string x.1,Kn x.2)
def CQ(w:World)(b:Nat)(m:Vm):Prop:=
 ∃es clock,w.heap[b]? =some (.map es clock)/\Stamped es clock/\es.toList.map (fun e=>(e.key,e.val))=m.map Eu
theorem LV(x:ByteArray):IsKey .string (.string x):=trivial
theorem V6:∀{m:Vm} {x:ByteArray} {j:Nat} {v:Vu},(m.map (·.1)).Nodup->m[j]? =some (x,v)->getM m x=v/\Wu m x=true
 | [],_,_,_,_,h=>by simp at h
 |y::r,x,0,v,_,h=>by
  obtain rfl:y=(x,v):=by simpa using h
  simp[getM,Wu]
 |y::r,x,j+1,v,hn,h=>by
  simp only[List.map_cons,List.nodup_cons]at hn;have h':r[j]? =some (x,v):=by simpa using h
  have hne:y.1≠x:=fun e=>hn.1 (e▸List.mem_map.2 ⟨(x,v),List.mem_of_getElem? h',rfl⟩);have ih:=V6 hn.2 h';unfold getM Wu at ih⊢;rw[List.find?_cons_of_neg (by simpa using hne)];exact ih
theorem lS{m:Vm}{x:ByteArray}(h:∀y∈m,y.1≠x):getM m x=(Bv,0)/\Wu m x=false:=by grind [getM,Wu]
theorem Vn:∀{m:Vm} {x:ByteArray} {v:Vu},(∀y∈m,y.1≠x)->Ei m x v=m++[(x,v)]
 | [],_,_,_=>rfl
 |y::r,x,v,h=>by
  unfold Ei;rw[if_neg (h y (by simp)),Vn (fun z hz=>h z (by simp[hz]))];rfl
theorem Vo:∀{m:Vm} {x:ByteArray} {v u:Vu} {j:Nat},(m.map (·.1)).Nodup->m[j]? =some (x,u)->Ei m x v=m.set j (x,v)
 | [],_,_,_,_,_,h=>by simp at h
 |y::r,x,v,u,0,_,h=>by
  obtain rfl:y=(x,u):=by simpa using h
  unfold Ei;rw[if_pos rfl]
  rfl
 |y::r,x,v,u,j+1,hn,h=>by
  simp only[List.map_cons,List.nodup_cons]at hn;have h':r[j]? =some (x,u):=by simpa using h
  have hne:y.1≠x:=fun e=>hn.1 (e▸List.mem_map.2 ⟨(x,u),List.mem_of_getElem? h',rfl⟩);unfold Ei;rw[if_neg hne,Vo hn.2 h'];rfl
section
variable {P : Program} {w : World} {t kt et : TypeId} {b : Nat} {m : Vm}
theorem CQ.keys(h:es.toList.map (fun e=>(e.key,e.val))=m.map Eu):∀x∈es.toList,∃y∈m,x.key=.string y.1/\x.val=Kn y.2:=by
 intro x hx;have:(x.key,x.val)∈m.map Eu:=h▸List.mem_map.2 ⟨x,hx,rfl⟩;grind [Eu]
theorem CQ.MS(h:es.toList.map (fun e=>(e.key,e.val))=m.map Eu):∀x∈es.toList,IsKey .string x.key:=fun x hx=>by
 obtain⟨y,_,e,_⟩:=CQ.keys h x hx;rw[e];trivial
theorem CQ.aH(hs:Stamped es clock)(h:es.toList.map (fun e=>(e.key,e.val))=m.map Eu):(m.map (·.1)).Nodup:=by
 have h1:es.toList.map (·.key)=m.map (fun x=>Value.string x.1):=by
  have:=congrArg (List.map Prod.fst) h;simpa[List.map_map,Function.comp_def,Eu]using this
 have h2:=hs.2.2;grind
theorem CQ.lt(h:CQ w b m):b<w.heap.size:=by grind [CQ]
theorem CQ.find(hs:Stamped es clock)(he:es.toList.map (fun e=>(e.key,e.val))=m.map Eu)(x:ByteArray):(Instr.findNow .string (.string x) es.toList 0=some none/\(∀y∈m,y.1≠x)/\∀y∈es.toList,y.key≠ .string x)\/∃j e,Instr.findNow .string (.string x) es.toList 0=some (some (j,Kn (getM m x)))/\es.toList[j]? =some e/\e.key=.string x/\e.val=Kn (getM m x)/\m[j]? =some (x,getM m x)/\Wu m x=true:=by
 rcases findNow_spec (LV x) es.toList 0 (CQ.MS he)with⟨h1,h2⟩|⟨j,e,h1,h2,h3⟩
 ·refine .inl ⟨h1,fun y hy e=>?_,h2⟩;have:Eu y∈es.toList.map (fun e=>(e.key,e.val)):=he▸List.mem_map.2 ⟨y,hy,rfl⟩;obtain⟨z,hz,ez⟩:=List.mem_map.1 this;simp only[Eu,Prod.mk.injEq]at ez;exact h2 z hz (by rw[ez.1,e])
 ·have:(es.toList.map (fun e=>(e.key,e.val)))[j]? =some (e.key,e.val):=by simp[h2]
  rw[he,List.getElem?_map]at this
  cases hm:m[j]? with
  |none=>rw[hm]at this;cases this
  |some y=>
   rw[hm]at this;have ey:Eu y=(e.key,e.val):=(by simpa using this);simp only[Eu,Prod.mk.injEq]at ey;rw[h3]at ey;have hx:y.1=x:=(by simpa using ey.1);subst hx;have hg:=V6 (CQ.aH hs he) (show m[j]? =some (y.1,y.2)from hm);rw[hg.1];rw[<-ey.2]at h1;exact .inr ⟨j,e,by simpa using h1,h2,h3,ey.2.symm,hm,hg.2⟩
theorem AB8(hm:P.underlying t=some (.map kt et))(hk:P.underlying kt=some .string)(hz:∀u:World,(zeroValue et).run P u=.ok (Kn (Bv,0)) u)(h:CQ w b m)(x:ByteArray):(Instr.lookup t (.map (some b)) (.string x) false).run P w=.ok (Kn (getM m x)) w:=by
 obtain⟨es,clock,hb,hs,he⟩:=h;rcases CQ.find hs he x with⟨h1,h2,_⟩|⟨j,e,h1,h2,h3,h4,h5,h6⟩
 ·rw[(lS h2).1];simp[Instr.lookup,run_underlying hm,MapKept.run_getObj_map hb,MapKept.run_checkKey hk (LV x),MapKept.run_findKey hk h1,hz,Result.andThen]
 ·simp[Instr.lookup,run_underlying hm,MapKept.run_getObj_map hb,MapKept.run_checkKey hk (LV x),MapKept.run_findKey hk h1,Result.andThen]
theorem ABl(hm:P.underlying t=some (.map kt et))(hk:P.underlying kt=some .string)(hz:∀u:World,(zeroValue et).run P u=.ok (Kn (Bv,0)) u)(h:CQ w b m)(x:ByteArray):(Instr.lookup t (.map (some b)) (.string x) true).run P w=.ok (.tuple #[Kn (getM m x),.bool (Wu m x)]) w:=by
 obtain⟨es,clock,hb,hs,he⟩:=h;rcases CQ.find hs he x with⟨h1,h2,_⟩|⟨j,e,h1,h2,h3,h4,h5,h6⟩
 ·rw[(lS h2).1,(lS h2).2];simp[Instr.lookup,run_underlying hm,MapKept.run_getObj_map hb,MapKept.run_checkKey hk (LV x),MapKept.run_findKey hk h1,hz,Result.andThen]
 ·rw[h6];simp[Instr.lookup,run_underlying hm,MapKept.run_getObj_map hb,MapKept.run_checkKey hk (LV x),MapKept.run_findKey hk h1,Result.andThen]
def Dx(w:World)(b:Nat)(o:Obj):World:={w with heap:=w.heap.setIfInBounds b o}
theorem Hz(w:World)(b:Nat)(o:Obj):w.grownBy (Dx w b o) (some b):=
 ⟨rfl,rfl,rfl,by simp[Dx],fun k _ hne=>by
  have:b≠k:=fun e=>hne (by rw[e])
  simp[Dx,this]⟩
theorem KW{w:World}{b:Nat}{o o':Obj}(h:w.heap[b]? =some o):(Dx w b o').heap[b]? =some o':=(MapKept.heap_set h).1
theorem I4{w:World}{b k:Nat}(o:Obj)(h:k≠b):(Dx w b o).heap[k]? =w.heap[k]? :=by grind [Dx]
theorem CQ.other{w:World}{b:Nat}{m:Vm}(h:CQ w b m)(he:w'.heap[b]? =w.heap[b]?):CQ w' b m:=by grind [CQ]
theorem Ua{m:Vm}{j:Nat}{e:MapEntry}{x:ByteArray}{v:Vu}(he:es.toList.map (fun e=>(e.key,e.val))=m.map Eu)(hj:es.toList[j]? =some e)(hk:e.key=.string x)(f:MapEntry->MapEntry)(hf:∀e,e.key=.string x->((f e).key,(f e).val)=(Value.string x,Kn v)):(es.modify j f).toList.map (fun e=>(e.key,e.val))=(m.set j (x,v)).map Eu:=by
 rw[Array.toList_modify];apply List.ext_getElem?;intro i;rw[List.getElem?_map,List.getElem?_map,List.getElem?_modify,List.getElem?_set];have hi:(es.toList.map (fun e=>(e.key,e.val)))[i]? =(m.map Eu)[i]? :=by rw[he]
 rw[List.getElem?_map,List.getElem?_map]at hi;by_cases hji:j=i
 ·subst hji;rw[hj]at hi;have:j<m.length:=by
   cases hm:m[j]? with
   |none=>rw[hm]at hi;cases hi
   |some y=>exact(List.getElem?_eq_some_iff.1 hm).1
  have e1:=hf e hk;simp only[hj,this,if_true,Option.map_eq_map,Option.map_some,Eu];exact congrArg some e1
 grind
theorem Mi(hm:P.underlying t=some (.map kt et))(hk:P.underlying kt=some .string)(h:CQ w b m)(x:ByteArray)(v:Vu):∃o2,(Instr.mapUpdate t (.map (some b)) (.string x) (Kn v)).run P w=.ok () (Dx w b o2)/\CQ (Dx w b o2) b (Ei m x v):=by
 obtain⟨es,clock,hb,hs,he⟩:=h;rcases CQ.find hs he x with⟨h1,h2,h2'⟩|⟨j,e,h1,h2,h3,h4,h5,h6⟩
 ·refine⟨.map (es.push ⟨.string x,Kn v,clock⟩) (clock+1),?_,_,_,KW hb,stamped_push hs h2',?_⟩
  ·simp[Instr.mapUpdate,run_underlying hm,MapKept.run_getObj_map hb,MapKept.run_checkKey hk (LV x),MapKept.run_findKey hk h1,MapKept.run_setObj_map _ hb,Result.andThen,Dx]
  ·rw[Vn h2];simp[he,Eu]
 ·have hj:es[j]? =some e:=by simpa using h2
  refine⟨.map (es.modify j (fun e=>{e with key:=.string x,val:=Kn v})) clock,?_,_,_,KW hb,?_,?_⟩
  ·simp[Instr.mapUpdate,run_underlying hm,MapKept.run_getObj_map hb,MapKept.run_checkKey hk (LV x),MapKept.run_findKey hk h1,hj,h3,MapKept.run_keyThatStays (LV x),MapKept.run_setObj_map _ hb,Result.andThen,Dx]
  ·refine stamped_modify hs j (fun e=>{e with key:=.string x,val:=Kn v}) (fun _ _=>rfl) (fun e' _ he'=>?_);rw[hj]at he';injection he' with he';subst he';exact h3.symm
  ·rw[Vo (CQ.aH hs he) h5];exact Ua he h2 h3 _ (fun _ _=>rfl)
theorem CQ.made{w:World}:CQ (w.alloc (.map #[] clock)) w.heap.size []:=⟨#[],clock,(MapKept.heap_alloc w _).1,stamped_empty clock,rfl⟩
theorem CQ.copy{w:World}(hb:w.heap[b]? =some (.map es clock))(h:CQ w b m):CQ (w.alloc (.map es clock)) w.heap.size m:=by
 obtain⟨es',clock',hb',hs,he⟩:=h;rw[hb]at hb';injection hb' with hb';injection hb' with h1 h2;subst h1 h2;exact⟨es,clock,(MapKept.heap_alloc w _).1,hs,he⟩
end
end
end Go.Proofs.YtlffomedflegdaaGreatDoor
