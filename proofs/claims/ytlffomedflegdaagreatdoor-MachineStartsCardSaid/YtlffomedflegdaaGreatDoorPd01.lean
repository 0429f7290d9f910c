/- Part 01 of the proof: Ser, Box, RowC, MapS. -/
import Derived.OrdersHeld
import Derived.Deep.RegionHeld
import Derived.WalkKit
import Derived.IntWalk
import Derived.Laws.OwnMore
import Derived.Laws.AppendOwn
import Derived.MapKept
import Derived.WideKeyEntry
import Derived.ChangeMaps4
import Derived.Test.YtlffomedflegdaaGreatDoorPd00
set_option linter.all false
set_option maxHeartbeats 16000000
set_option maxRecDepth 100000
namespace Go.Proofs.YtlffomedflegdaaGreatDoor
open Go.RowKit
open Go.Value renaming int→cI,string→cS,slice→cY,bool→cE
open Go.IntKind renaming i64→cJ
open Option renaming some→cP,none→cX
open Bool renaming false→cA,true→cC
variable {L:Nat->Bool}{V:Nat->Value}{c1 cs zs:List Value}{clock id na ns s st:Nat}{es:Array MapEntry}{md:Region.Mode}{ops:Array Oper}{rest:List Oper}{t1 t2:TypeId}{v:Value}{w' w0 w1 w2:World}
section
def upd(L:Nat->Bool)(i:Nat):Nat->Bool:=λj=>j==i||L j
def waits(md:Region.Mode)(ops:Array Oper)(j i:Nat):Bool:=match ops[j]? with
 |none=>cA
 |some o=>o.after.any λe=>Region.binds md e&&e.on==i
def Right(md:Region.Mode)(ops:Array Oper)(L:Nat->Bool):Prop:=∀j i,waits md ops j i=cC->L i=cA->L j=cA
def OC(md:Region.Mode)(ops:Array Oper):Bool:=
 Region.noSelect ops&& (List.range ops.size).all λi=>match ops[i]? with
  |none=>cC
  |some oi=>oi.after.all (λe=> !Region.binds md e||decide (e.on<i))&&
   (List.range ops.size).all λj=>match ops[j]? with
    |none=>cC
    |some oj=>j==i||oi.after.any (λe=>Region.binds md e&&e.on==j)||oj.after.any (λe=>Region.binds md e&&e.on==i)||oi.apart ops oj
section
variable {P : Program} {md : Region.Mode} {ops : Array Oper} {Q : Exit -> Act -> World -> Prop} {S : (Nat -> Bool) -> World -> Prop}
def puts(ops:Array Oper)(V:Nat->Value)(L:Nat->Bool)(a:Act):Nat->Act
 |0=>a
 |n+1=>if L n then(puts ops V L a n).put ((ops[n]?).bind (·.dst)) (V n)else puts ops V L a n
theorem Ec{a:Act}{n:Nat}(h:L n=cC):puts ops V L a (n+1)=(puts ops V L a n).put ((ops[n]?).bind (·.dst)) (V n):=if_pos h
theorem Ij{a:Act}{n:Nat}(h:L n=cA):puts ops V L a (n+1)=puts ops V L a n:=if_neg (by simp[h])
theorem EX(V:Nat->Value)(L:Nat->Bool)(a:Act)(n:Nat):(puts ops V L a n).tmps.size=a.tmps.size:=by
 induction n with
 |zero=>rfl
 |succ n ih=>
  unfold puts;split
  ·cases(ops[n]?).bind (·.dst)<;>simp[Act.put,ih]
  ·exact ih
theorem Oe(V:Nat->Value)(L L':Nat->Bool)(a:Act)(t:Nat)(n:Nat)(h:∀j,j<n->(ops[j]?).bind (·.dst)=cP t->L j=L' j):(puts ops V L a n).tmps[t]? =(puts ops V L' a n).tmps[t]? :=by
 induction n with
 |zero=>rfl
 |succ n ih=>
  have ih:=ih λj hj=>h j (by omega);unfold puts;by_cases hd:(ops[n]?).bind (·.dst)=cP t
  ·rw[h n (by omega) hd];split
   ·rw[hd];simp only[Act.put];by_cases ht:t<a.tmps.size
    ·rw[Array.getElem?_setIfInBounds_self,Array.getElem?_setIfInBounds_self,EX,EX]
    ·rw[Array.getElem?_eq_none (by simp[EX];omega),Array.getElem?_eq_none (by simp[EX];omega)]
   ·exact ih
  ·have hne:∀(b:Act) (v:Value),(b.put ((ops[n]?).bind (·.dst)) v).tmps[t]? =b.tmps[t]? :=λb v=>by
    cases hc:(ops[n]?).bind (·.dst)with
    |none=>rfl
    |some d=>
     have:d≠t:=λe=>hd (by rw[hc,e]);simp[Act.put,Array.getElem?_setIfInBounds_ne this]
   split<;>split<;>simp[hne,ih]
theorem CW(V:Nat->Value)(L:Nat->Bool)(a:Act)(m n:Nat)(hm:m<=n)(h:∀j,m<=j->j<n->L j=cA):puts ops V L a n=puts ops V L a m:=by
 induction n with
 |zero=>
  have:m=0:=by omega
  subst this;rfl
 |succ n ih=>
  by_cases e:m=n+1
  ·subst e;rfl
  ·rw[puts,h n (by omega) (by omega)];exact ih (by omega) λj h1 h2=>h j h1 (by omega)
theorem D6(V:Nat->Value)(L L':Nat->Bool)(a:Act)(n:Nat)(h:∀j,j<n->L j=L' j):puts ops V L a n=puts ops V L' a n:=by
 induction n with
 |zero=>rfl
 |succ n ih=>unfold puts;rw[ih λj hj=>h j (by omega),h n (by omega)]
def PE(o:Oper)(hs:∀cs b,o.op≠ .select cs b)(a a':Act)(h:∀t∈o.looksAt ops,a'.tmps[t]? =a.tmps[t]?):execOp a'.eval o=execOp a.eval o:=
 execOp_congr o hs λx hx=>by
  cases x with
  |tmp t=>
   have:=h t (List.mem_append_left _ (List.mem_filterMap.2 ⟨.tmp t,by simpa using hx,rfl⟩))
   simp[Act.eval,this]
  |_=>rfl
theorem K7(o:Oper)(a a':Act)(h:∀t∈o.looksAt ops,a'.tmps[t]? =a.tmps[t]?):Region.wanted o (yielded ops a'.tmps)=Region.wanted o (yielded ops a.tmps):=by
 unfold Region.wanted
 cases hg:o.guard with
 |none=>rfl
 |some gw=>
  obtain⟨g,want⟩:=gw;have hy:yielded ops a'.tmps g=yielded ops a.tmps g:=by
   unfold yielded
   cases ht:(ops[g]?).bind (·.dst)with
   |none=>rfl
   |some t=>
    have:=h t (by simp[Oper.looksAt,hg,ht]);simp[this]
  simp only[hy]
theorem F8{a b:Act}{d:Option Tmp}{u:Value}(hs:a.tmps.size=b.tmps.size)(h:a.put d u=a.put d v):b.put d u=b.put d v:=by
 cases d with
 |none=>rfl
 |some d=>
  simp only[Act.put]at h⊢;have ht:a.tmps.setIfInBounds d u=a.tmps.setIfInBounds d v:=congrArg Act.tmps h;by_cases hd:d<a.tmps.size
  ·have h1:(a.tmps.setIfInBounds d u)[d]? =(a.tmps.setIfInBounds d v)[d]? :=(by rw[ht]);rw[Array.getElem?_setIfInBounds_self,Array.getElem?_setIfInBounds_self,if_pos hd,if_pos hd]at h1;rw[Option.some.inj h1]
  ·have hd':b.tmps.size<=d:=Nat.le_of_not_lt (hs▸hd);congr 1;rw[Array.setIfInBounds_eq_of_size_le hd',Array.setIfInBounds_eq_of_size_le hd']
theorem NA(h:OC md ops=cC):(∀(j:Nat) (o:Oper) cs b,ops[j]? =cP o->o.op≠ .select cs b)/\∀i oi,ops[i]? =cP oi->(∀e∈oi.after,Region.binds md e=cC->e.on<i)/\∀j oj,ops[j]? =cP oj->j≠i->(∃e∈oi.after,Region.binds md e=cC/\e.on=j)\/(∃e∈oj.after,Region.binds md e=cC/\e.on=i)\/oi.apart ops oj=cC:=by
 unfold OC at h;rw[Bool.and_eq_true]at h;refine⟨Region.noSelect_spec h.1,λi oi hi=>?_⟩;have hlt:i<ops.size:=(Array.getElem?_eq_some_iff.1 hi).1;have h2:=List.all_eq_true.1 h.2 i (List.mem_range.2 hlt);simp only[hi,Bool.and_eq_true]at h2;refine⟨λe he hb=>?_,λj oj hj hne=>?_⟩
 ·have:=Array.all_eq_true_iff_forall_mem.1 h2.1 e he;simpa[hb]using this
 grind
theorem Rj(hsp:∀i oi,ops[i]? =cP oi->∀j oj,ops[j]? =cP oj->j≠i->(∃e∈oi.after,Region.binds md e=cC/\e.on=j)\/(∃e∈oj.after,Region.binds md e=cC/\e.on=i)\/oi.apart ops oj=cC)(hup:∀i oi,ops[i]? =cP oi->∀e∈oi.after,Region.binds md e=cC->e.on<i)(V:Nat->Value) (L:Nat->Bool) (a:Act) (i:Nat) (o:Oper) (ho:ops[i]? =cP o) (hi:L i=cA) (hclosed:∀j oj,ops[j]? =cP oj->L j=cC->∀e∈oj.after,Region.binds md e=cC->L e.on=cC):∀n,i<n->(puts ops V L a n).put o.dst (V i)=puts ops V (upd L i) a n:=by
 intro n
 induction n with
 |zero=>intro h;omega
 |succ n ih=>
  intro hn;by_cases e:n=i
  ·subst e;rw[Ij hi,Ec (L:=upd L n) (by simp[upd]),ho];rw[D6 V (upd L n) L a n (λj hj=>by simp[upd];omega)];rfl
  ·have ih:=ih (by omega);by_cases hL:L n=cC
   ·rw[Ec hL,Ec (L:=upd L i) (by simp[upd,hL]),<-ih]
    cases hon:ops[n]? with
    |none=>rfl
    |some on=>
     refine Act.put_comm _ _ _ λd hd hd'=>?_;rcases hsp i o ho n on hon e with⟨ed,he,hb,heq⟩|⟨ed,he,hb,heq⟩|hap
     ·have:=hup i o ho ed he hb;omega
     ·have:=hclosed n on hon hL ed he hb;rw[heq,hi]at this;cases this
     ·exact(Oper.apart_spec hap).2.1 d hd' hd
   ·have hL:L n=cA:=(by simpa using hL);rw[Ij hL,Ij (L:=upd L i) (by simp[upd,hL,e]),ih]
def Js{listed:Array Bool}{j:Nat}(hj:j∈Region.ready md ops listed):listed.getD j cC=cA/\∃o,ops[j]? =cP o/\∀e∈o.after,Region.binds md e=cC->listed.getD e.on cA=cC:=mem_ready.1 hj
def left(L:Nat->Bool):Nat->Nat
 |0=>0
 |n+1=>left L n+if L n then 0 else 1
theorem Rx(L:Nat->Bool)(i:Nat)(hi:L i=cA):∀n,(n<=i->left (upd L i) n=left L n)/\(i<n->left (upd L i) n+1=left L n):=by
 intro n
 induction n with
 |zero=>exact⟨λ_=>rfl,λh=>by omega⟩
 |succ n ih=>
  refine⟨λh=>?_,λh=>?_⟩
  ·have hne:n≠i:=(by omega);simp only[left,ih.1 (by omega),upd,beq_iff_eq,hne,Bool.or_eq_true,false_or]
  ·by_cases e:n=i
   ·subst e;simp[left,ih.1 (by omega),upd,hi]
   ·simp only[left,upd,beq_iff_eq,e,Bool.or_eq_true,false_or];have:=ih.2 (by omega);omega
theorem Gw(L:Nat->Bool):∀n,left L n=0->∀j,j<n->L j=cC:=by
 intro n
 induction n with
 |zero=>intro _ j hj;omega
 |succ n ih=>
  intro h j hj;unfold left at h;by_cases e:j=n
  ·subst e
   cases hL:L j with
   |true=>rfl
   |false=>simp[hL]at h
  ·exact ih (by omega) j (by omega)
theorem Ou(L:Nat->Bool):∀n,0<left L n->∃j,j<n/\L j=cA/\∀k,k<j->L k=cC:=by
 intro n
 induction n with
 |zero=>intro h;simp[left]at h
 |succ n ih=>
  intro h;by_cases h0:0<left L n
  ·obtain⟨j,hj,h1,h2⟩:=ih h0;exact⟨j,by omega,h1,h2⟩
  ·have h0:left L n=0:=(by omega);have hall:=Gw L n h0
   cases hL:L n with
   |false=>exact⟨n,by omega,hL,hall⟩
   |true=>simp[left,h0,hL]at h
theorem getD_upd(listed:Array Bool)(i:Nat)(hi:i<listed.size):(λj=>(listed.setIfInBounds i cC).getD j cA)=upd (λj=>listed.getD j cA) i:=by
 funext j;by_cases e:i=j
 ·subst e;simp[upd,hi]
 ·have e':¬j=i:=λh=>e h.symm;rw[getD_set_ne cA e];simp[upd,e']
theorem getD_both(listed:Array Bool)(j:Nat)(h:j<listed.size)(d d':Bool):listed.getD j d=listed.getD j d':=by simp[h]
theorem Hy(listed:Array Bool)(n:Nat)(hsz:listed.size=n)(hall:∀j,j<n->listed.getD j cA=cC):(λj=>listed.getD j cA)=λj=>decide (j<n):=by grind
def Vz(L:Nat->Bool):∀n,left L n<=n:=by
 intro n
 induction n with
 |zero=>exact AQ
 |succ n ih=>unfold left;split<;>omega
theorem Ho{j i:Nat}(h:waits md ops j i=cC):∃o,ops[j]? =cP o/\∃e∈o.after,Region.binds md e=cC/\e.on=i:=by grind [waits]
def G8(a:Act)(d:Option Tmp):Value:=match d with
 |some d=>a.tmps.getD d undef
 |none=>undef
end
def pA(a:Act)(d:Option Tmp)(v:Value):a.put d v=match d with
 |some d=>{a with tmps:=a.tmps.setIfInBounds d v}
 |none=>a:=rfl
def pB(l:List Value)(i:Nat)(v:Value):l.toArray.setIfInBounds i v=(l.set i v).toArray:=by simp
def pC(x:Value)(l:List Value)(v:Value):(x::l).set 0 v=v::l:=rfl
def pD(x:Value)(l:List Value)(n:Nat)(v:Value):(x::l).set (n+1) v=x::l.set n v:=rfl
theorem pE:(∀(a:Act) (d:Option Tmp) (v:Value),a.put d v=match d with
 |some d=>{a with tmps:=a.tmps.setIfInBounds d v}
 |none=>a)/\(∀(l:List Value) (i:Nat) (v:Value),l.toArray.setIfInBounds i v=(l.set i v).toArray)/\(∀(x:Value) (l:List Value) (v:Value),(x::l).set 0 v=v::l)/\∀(x:Value) (l:List Value) (n:Nat) (v:Value),(x::l).set (n+1) v=x::l.set n v:=⟨pA,pB,pC,pD⟩
def EB(V:Nat->Value)(i:Nat)(v:Value):Nat->Value:=λk=>if k=i then v else V k
theorem BL(V:Nat->Value)(i:Nat)(v:Value):EB V i v i=v:=if_pos rfl
theorem Br(V:Nat->Value){i k:Nat}(v:Value)(h:k≠i):EB V i v k=V k:=if_neg h
def QJ(md:Region.Mode)(ops:Array Oper)(i:Nat)(v:(Nat->Value)->Value):Prop:=
 ∀(L:Nat->Bool) (V V':Nat->Value),Right md ops L->L i=cC->(∀k,L k=cC->V k=V' k)->v V=v V'
def AU(P:Program)(md:Region.Mode)(ops:Array Oper)(Q:Exit->Act->World->Prop)(S:(Nat->Value)->(Nat->Bool)->World->Prop):List Oper->Nat->((Nat->Value)->Act)->Prop
 | [],_,a=>∀V w,S V (λj=>decide (j<ops.size)) w->Q .normal (a V) w
 |o::rest,i,a=>∃v:(Nat->Value)->Value,QJ md ops i v/\
  (∀(V:Nat->Value) (L:Nat->Bool) (w:World),S V L w->L i=cA->Right md ops L->(∀j,waits md ops i j=cC->L j=cC)->
   (Region.wanted o (yielded ops (a V).tmps)=cC/\
    o.wp P (a V) w (λa' w'=>∃V':Nat->Value,(∀k,k≠i->V' k=V k)/\a'=(a V).put o.dst (v V')/\S V' (upd L i) w') (λ_ _ _=>False))\/
   (Region.wanted o (yielded ops (a V).tmps)=cA/\v V=undef/\S V (upd L i) w))/\
  AU P md ops Q S rest (i+1) (λV=>(a V).put o.dst (v V))
section
variable {P : Program} {md : Region.Mode} {ops : Array Oper} {Q : Exit -> Act -> World -> Prop} {S : (Nat -> Value) -> (Nat -> Bool) -> World -> Prop}
theorem au{o:Oper}{a a':Act}{w:World}{G:Value->World->Prop}{K:Act->World->Prop}(he:execOp a'.eval o=execOp a.eval o)(hs:a.tmps.size=a'.tmps.size)(h:o.wp P a w (λa1 w'=>∃v,a1=a.put o.dst v/\G v w') (λ_ _ _=>False)) (hK:∀v w',G v w'->K (a'.put o.dst v) w'):o.wp P a' w K Q:=by
 unfold Oper.wp at*;rw[he];generalize(execOp a.eval o).run P w=r at*
 cases r with
 |ok n w'=>
  cases n<;>simp only[Oper.upon]at h⊢
  case value u=>obtain⟨v,h1,h2⟩:=h;rw[F8 hs h1];exact hK _ _ h2
  case skip=>obtain⟨v,h1,h2⟩:=h;rw[F8 hs h1];exact hK _ _ h2
  case defer d=>
   obtain⟨v,h0,h2⟩:=h;have h1:=congrArg (λx:Act=>x.defers.length) h0;exfalso;cases hd:o.dst<;>simp[Act.put,hd]at h1
  case enter f args=>
   refine Calls.mono h λe w'' he=>?_
   cases e with
   |returned u=>simp only at he⊢;obtain⟨v,h1,h2⟩:=he;rw[F8 hs h1];exact hK _ _ h2
   |panicked c=>exact he.elim
   |outgrown=>
    obtain⟨_,_,hf⟩:=he;exact hf.elim
  case row row args=>exact Rows.mono h λu w'' he=>by obtain⟨v,h1,h2⟩:=he;rw[F8 hs h1];exact hK _ _ h2
 |halt x w'=>
  cases x<;>simp only[Oper.upon]at h⊢
def oN(P:Program)(md:Region.Mode)(ops:Array Oper)(S:(Nat->Value)->(Nat->Bool)->World->Prop)(i:Nat)(o:Oper)(v:(Nat->Value)->Value)(a:(Nat->Value)->Act):Prop:=
 QJ md ops i v/\
  ∀(V:Nat->Value) (L:Nat->Bool) (w:World),S V L w->L i=cA->Right md ops L->(∀j,waits md ops i j=cC->L j=cC)->
   (Region.wanted o (yielded ops (a V).tmps)=cC/\
    o.wp P (a V) w (λa' w'=>∃V':Nat->Value,(∀k,k≠i->V' k=V k)/\a'=(a V).put o.dst (v V')/\S V' (upd L i) w') (λ_ _ _=>False))\/
   (Region.wanted o (yielded ops (a V).tmps)=cA/\v V=undef/\S V (upd L i) w)
theorem Xd:∀(l:List Oper) (i:Nat) (a:(Nat->Value)->Act),AU P md ops Q S l i a->(∀k,k<l.length->ops[i+k]? =l[k]?)->∃F:Nat->(Nat->Value)->Value,(∀k o,l[k]? =cP o->oN P md ops S (i+k) o (F (i+k)) (λV=>puts ops (λj=>F j V) (λj=>decide (i<=j)) (a V) (i+k)))/\∀V w,S V (λj=>decide (j<ops.size)) w->Q .normal (puts ops (λj=>F j V) (λj=>decide (i<=j)) (a V) (i+l.length)) w:=by
 intro l
 induction l with
 |nil=>
  intro i a h _;refine⟨λ_ _=>undef,λk o hk=>(by simp at hk),λV w hw=>?_⟩;rw[CW _ _ (a V) 0 (i+([]:List Oper).length) (by omega) (λj h1 h2=>by simp at h2⊢;omega)]
  exact h V w hw
 |cons o rest ih=>
  intro i a h hops;obtain⟨v,hv,h1,h2⟩:=h
  obtain⟨F,hF,hend⟩:=ih (i+1) _ h2 (λk hk=>by
   have:=hops (k+1) (by simpa using hk)
   rw[show i+1+k=i+(k+1) by omega,this];rfl)
  have ho:ops[i]? =cP o:=by have:=hops 0 (by simp);simpa using this
  have hput:∀(V:Nat->Value) n,i+1<=n->puts ops (λj=>(if j=i then v else F j) V) (λj=>decide (i<=j)) (a V) n=puts ops (λj=>F j V) (λj=>decide (i+1<=j)) ((a V).put o.dst (v V)) n:=by
   intro V n hn
   induction n with
   |zero=>omega
   |succ n ihn=>
    by_cases e:n=i
    ·subst e;rw[Ec (by simp),ho];rw[CW _ _ (a V) 0 n (by omega) (λj _ h2=>by simp;omega),CW _ _ ((a V).put o.dst (v V)) 0 (n+1) (by omega) (λj _ h2=>by simp;omega)];simp[puts]
    ·rw[Ec (by simp;omega),Ec (by simp;omega),ihn (by omega)];simp[e]
  refine⟨λj=>if j=i then v else F j,λk ok hk=>?_,λV w hw=>?_⟩
  ·cases k with
   |zero=>
    have:ok=o:=(by simpa using hk.symm);subst this;have hp:(λV=>puts ops (λj=>(if j=i then v else F j) V) (λj=>decide (i<=j)) (a V) (i+0))=a:=by
     funext V;exact CW _ _ (a V) 0 _ (by omega) (λj _ h2=>by simp;omega)
    unfold oN;have hv0:(λj=>if j=i then v else F j) (i+0)=v:=if_pos rfl;rw[hp,hv0]
    exact⟨hv,h1⟩
   |succ k=>
    have hk':rest[k]? =cP ok:=(by simpa using hk);have:=hF k ok hk';rw[show i+1+k=i+(k+1) by omega]at this;have he:(λV=>puts ops (λj=>(if j=i then v else F j) V) (λj=>decide (i<=j)) (a V) (i+(k+1)))=λV=>puts ops (λj=>F j V) (λj=>decide (i+1<=j)) ((a V).put o.dst (v V)) (i+(k+1)):=by
     funext V;exact hput V _ (by omega)
    have hne:i+(k+1)≠i:=(by omega);simp only[hne,if_false,he];exact this
  ·rw[hput V _ (by simp)];have:=hend V w hw;rw[show i+1+rest.length=i+(o::rest).length by simp;omega]at this;exact this
theorem bU(hok:OC md ops=cC){a:Act}(h:AU P md ops Q S ops.toList 0 (λ_=>a)){w:World}{V0:Nat->Value}(hw:S V0 (λ_=>cA) w):wpAny P md ops Q ops.size (Array.replicate ops.size cA) a w:=by
 obtain⟨F,hF,hend⟩:=Xd ops.toList 0 _ h (λk _=>by simp);obtain⟨hsel,hsp⟩:=NA hok;have hL0:(λj=>decide (0<=j))=λ_:Nat=>cC:=by funext j;simp
 rw[hL0]at hF hend;have main:∀(fuel:Nat) (listed:Array Bool) (V:Nat->Value) (w:World),listed.size=ops.size->left (λj=>listed.getD j cA) ops.size<=fuel->
   (∀j oj,ops[j]? =cP oj->listed.getD j cA=cC->∀e∈oj.after,Region.binds md e=cC->listed.getD e.on cA=cC)->
   S V (λj=>listed.getD j cA) w->wpAny P md ops Q fuel listed (puts ops (λj=>F j V) (λj=>listed.getD j cA) a ops.size) w:=by
  intro fuel
  induction fuel with
  |zero=>
   intro listed V w hsz hleft hcl hS;have hall:=Gw _ _ (Nat.le_zero.1 hleft);have UC:Region.ready md ops listed=[]:=by
    rw[List.eq_nil_iff_forall_not_mem];intro j hj;obtain⟨h0,o,ho,_⟩:=Js hj;have hlt:j<ops.size:=(Array.getElem?_eq_some_iff.1 ho).1;have h1:=hall j hlt;rw[getD_both listed j (by omega) cA cC,h0]at h1;cases h1
   refine⟨UC,?_⟩;have pX:=Hy listed ops.size hsz hall;rw[D6 _ _ (λ_=>cC) a ops.size (λj hj=>hall j hj)];rw[pX]at hS
   simpa using hend V w hS
  |succ fuel ih=>
   intro listed V w hsz hleft hcl hS;refine⟨λhr=>?_,λi hi=>?_⟩
   ·by_cases h0:left (λj=>listed.getD j cA) ops.size=0
    ·have hall:=Gw _ _ h0;have pX:=Hy listed ops.size hsz hall;rw[D6 _ _ (λ_=>cC) a ops.size (λj hj=>hall j hj)];rw[pX]at hS;simpa using hend V w hS
    ·exfalso;obtain⟨j,hj,hno,QH⟩:=Ou _ _ (Nat.pos_of_ne_zero h0);obtain⟨o,ho⟩:∃o,ops[j]? =cP o:=⟨ops[j],by simp[hj]⟩;have:j∈Region.ready md ops listed:=mem_ready.2 ⟨by rw[getD_both listed j (by omega) cC cA];exact hno,o,ho,λe he hb=>QH _ ((hsp j o ho).1 e he hb)⟩;rw[hr]at this;cases this
   ·obtain⟨h0,o,ho,MH⟩:=Js hi;have hlt:i<ops.size:=(Array.getElem?_eq_some_iff.1 ho).1;have hno:listed.getD i cA=cA:=(by rw[getD_both listed i (by omega) cA cC];exact h0);have Mv:∀j oj,ops[j]? =cP oj->(listed.setIfInBounds i cC).getD j cA=cC->∀e∈oj.after,Region.binds md e=cC->(listed.setIfInBounds i cC).getD e.on cA=cC:=by
     intro j oj hj hl e he hb;by_cases hji:j=i
     ·subst hji;rw[ho]at hj;cases hj;exact getD_set_true (MH e he hb)
     ·rw[getD_set_ne cA (Ne.symm hji)]at hl;exact getD_set_true (hcl j oj hj hl e he hb)
    have UD:left (λj=>(listed.setIfInBounds i cC).getD j cA) ops.size<=fuel:=by
     rw[getD_upd listed i (by omega)];have:=(Rx (λj=>listed.getD j cA) i hno ops.size).2 hlt;omega
    have hput:∀V,(puts ops (λj=>F j V) (λj=>listed.getD j cA) a ops.size).put o.dst (F i V)=puts ops (λj=>F j V) (upd (λj=>listed.getD j cA) i) a ops.size:=λV=>
     Rj (λi oi hi=>(hsp i oi hi).2) (λi oi hi=>(hsp i oi hi).1) (λj=>F j V) (λj=>listed.getD j cA) a i o ho hno hcl ops.size hlt
    have RH:∀t∈o.looksAt ops,(puts ops (λj=>F j V) (λj=>listed.getD j cA) a ops.size).tmps[t]? =(puts ops (λj=>F j V) (λ_=>cC) a (0+i)).tmps[t]? :=by
     intro t ht;have h1:(puts ops (λj=>F j V) (λj=>listed.getD j cA) a ops.size).tmps[t]? =(puts ops (λj=>F j V) (λj=>decide (j<i)) a ops.size).tmps[t]? :=by
      refine Oe _ _ _ a t ops.size λj hj hd=>?_;by_cases hji:j=i
      ·subst hji;simp only[hno];simp
      ·obtain⟨oj,hoj⟩:∃o,ops[j]? =cP o:=⟨ops[j],by simp[hj]⟩;rcases(hsp i o ho).2 j oj hoj hji with⟨e,he,hb,heq⟩|⟨e,he,hb,heq⟩|hap
       ·have hl:=MH e he hb;have hlt':=(hsp i o ho).1 e he hb;rw[heq]at hl hlt';simp only[hl,hlt',decide_true]
       ·have hlt':=(hsp j oj hoj).1 e he hb;rw[heq]at hlt';have:¬j<i:=(by omega);simp only[this,decide_false]
        cases hl:listed.getD j cA with
        |false=>rfl
        |true=>
         have:=hcl j oj hoj hl e he hb;rw[heq,hno]at this;cases this
       ·rw[hoj]at hd;exact absurd ht ((Oper.apart_spec hap).2.2 t hd)
     rw[h1,CW _ (λj=>decide (j<i)) a i ops.size (by omega) (λj h1 _=>by simp;omega),Nat.zero_add];rw[D6 _ (λj=>decide (j<i)) (λ_=>cC) a i (λj hj=>by simp[hj])]
    have VX:=PE o (λcs b=>hsel i o cs b ho) _ _ RH;have hwant:=K7 o _ _ RH;have hk:ops.toList[i]? =cP o:=(by simpa using ho);have hR:Right md ops λj=>listed.getD j cA:=by
     intro j k hjk hk;obtain⟨oj,hj,e,he,hb,rfl⟩:=Ho hjk;show listed.getD j cA=cA
     cases hl:listed.getD j cA with
     |false=>rfl
     |true=>
      have hk:listed.getD e.on cA=cA:=hk;rw[hcl j oj hj hl e he hb]at hk;cases hk
    have rE:∀j,waits md ops i j=cC->listed.getD j cA=cC:=by
     intro j hj;obtain⟨oi,hi',e,he,hb,rfl⟩:=Ho hj;rw[ho]at hi';cases hi';exact MH e he hb
    have AAZ:∀V':Nat->Value,(∀k,k≠i->V' k=V k)->puts ops (λj=>F j V) (λj=>listed.getD j cA) a ops.size=puts ops (λj=>F j V') (λj=>listed.getD j cA) a ops.size:=by
     intro V' hV';have hj:∀j,j<ops.size->listed.getD j cA=cC->F j V=F j V':=by
      intro j hj hl;have hkj:ops.toList[j]? =cP ops[j]:=(by simp[hj]);have hd:=(hF j ops[j] hkj).1;rw[Nat.zero_add]at hd;refine hd (λj=>listed.getD j cA) V V' hR hl λk hkl=>?_;have:k≠i:=λe=>by
       subst e;have hkl:listed.getD k cA=cC:=hkl;rw[hno]at hkl;cases hkl
      exact(hV' k this).symm
     have:∀n,n<=ops.size->puts ops (λj=>F j V) (λj=>listed.getD j cA) a n=puts ops (λj=>F j V') (λj=>listed.getD j cA) a n:=by
      intro n
      induction n with
      |zero=>intro _;rfl
      |succ n ihn=>
       intro hn
       cases hl:listed.getD n cA with
       |true=>rw[Ec (L:=λj=>listed.getD j cA) hl,Ec (L:=λj=>listed.getD j cA) hl,ihn (by omega),hj n (by omega) hl]
       |false=>rw[Ij (L:=λj=>listed.getD j cA) hl,Ij (L:=λj=>listed.getD j cA) hl,ihn (by omega)]
     exact this _ (AQ)
    have hVi:=(hF i o hk).2 V (λj=>listed.getD j cA) w hS (by rw[Nat.zero_add];exact hno) hR (by rw[Nat.zero_add];exact rE);unfold wpOp;simp only[ho];rw[hwant];have hnext:∀V' w',(∀k,k≠i->V' k=V k)->S V' (upd (λj=>listed.getD j cA) i) w'->wpAny P md ops Q fuel (listed.setIfInBounds i cC) ((puts ops (λj=>F j V) (λj=>listed.getD j cA) a ops.size).put o.dst (F i V')) w':=by
     intro V' w' hV' hS';rw[AAZ V' hV',hput V',<-getD_upd listed i (by omega)];exact ih _ V' w' (by simpa using hsz) UD Mv (by rw[getD_upd listed i (by omega)];exact hS')
    simp only[Nat.zero_add]at hVi;rw[Nat.zero_add]at VX⊢;rcases hVi with⟨hw,hrun⟩|⟨hw,hv,hrun⟩
    ·rw[if_pos hw];refine .inl (au (G:=λv w'=>∃V':Nat->Value,(∀k,k≠i->V' k=V k)/\v=F i V'/\S V' (upd (λj=>listed.getD j cA) i) w') VX (by rw[EX,EX]) ?_ ?_)
     ·refine Oper.wp_mono ?_ hrun;rintro a1 w1 ⟨V',h1,h2,h3⟩;exact⟨_,h2,V',h1,rfl,h3⟩
     ·rintro v w' ⟨V',h1,rfl,h3⟩;exact hnext V' w' h1 h3
    ·rw[if_neg (by rw[hw];simp),<-hv];exact hnext V w (λ_ _=>rfl) hrun
 have h0:(λj=>(Array.replicate ops.size cA).getD j cA)=λ_:Nat=>cA:=by
  funext j;by_cases hj:j<ops.size<;>simp[hj]
 have:=main ops.size (Array.replicate ops.size cA) V0 w (by simp) (Vz _ _) (λj oj hj hl=>by
  have:=congrFun h0 j;rw[hl]at this
  cases this) (by rw[h0];exact hw)
 rw[h0,CW _ (λ_=>cA) a 0 ops.size (by omega) (λ_ _ _=>rfl)]at this;exact this
def AV{l:List Oper}{a:Act}{w:World}(hm:P.follows .mixedOrders=cC)(hok:OC .any l.toArray=cC)(hw:S (λ_=>undef) (λ_=>cA) w.drew)(h:AU P .any l.toArray Q S l 0 (λ_=>a)):(Code.region id l.toArray cC).wp P Q a w:=
 wp_region_any hm (bU hok (by simpa using h) hw)
def AU.nil{i:Nat}{a:(Nat->Value)->Act}(h:∀V w,S V (λj=>decide (j<ops.size)) w->Q .normal (a V) w):AU P md ops Q S [] i a:=h
def AU.step{o:Oper}{i:Nat}{a a1:(Nat->Value)->Act}(hw:∀V,Region.wanted o (yielded ops (a V).tmps)=cC)(h:∀(V:Nat->Value) (L:Nat->Bool) (w:World) (K:Act->World->Prop) (Q':Exit->Act->World->Prop),S V L w->L i=cA->Shut (Right md ops L)->Shut (∀j,waits md ops i j=cC->L j=cC)->Shut (∀w',S V (upd L i) w'->K (a1 V) w')->o.wp P (a V) w K Q')(ha:∀V,a1 V=(a V).put o.dst (G8 (a1 V) o.dst)) (hd:QJ md ops i (λV=>G8 (a1 V) o.dst)) (hr:AU P md ops Q S rest (i+1) a1):AU P md ops Q S (o::rest) i a:=
 ⟨λV=>G8 (a1 V) o.dst,hd,λV L w hS hi hR hd=> .inl ⟨hw V,h V L w _ _ hS hi hR hd (λ_ hS'=>⟨V,λ_ _=>rfl,ha V,hS'⟩)⟩,by
  have:(λV=>(a V).put o.dst (G8 (a1 V) o.dst))=a1:=by funext V;exact(ha V).symm
  rw[this];exact hr⟩
theorem AU.LM{o:Oper}{i:Nat}{a a1:(Nat->Value)->Act}(hw:∀V,Region.wanted o (yielded ops (a V).tmps)=cC)(h:∀(V:Nat->Value) (L:Nat->Bool) (w:World) (K:Act->World->Prop) (Q':Exit->Act->World->Prop),S V L w->L i=cA->Shut (Right md ops L)->Shut (∀j,waits md ops i j=cC->L j=cC)->Shut (∀w',S V (upd L i) w'->K (a1 V) w')->o.wp P (a V) w K Q')(ha:∀V,a1 V=(a V).put o.dst (G8 (a1 V) o.dst)) (hd:∀(L:Nat->Bool) (V V':Nat->Value),Right md ops L->L i=cC->(∀k,L k=cC->V k=V' k)->G8 (a1 V) o.dst=G8 (a1 V') o.dst) (hr:AU P md ops Q S rest (i+1) a1):AU P md ops Q S (o::rest) i a:=AU.step hw h ha hd hr
theorem AU.free{o:Oper}{i:Nat}{a:(Nat->Value)->Act}(hw:∀V,Region.wanted o (yielded ops (a V).tmps)=cC)(h:∀(V:Nat->Value) (L:Nat->Bool) (w:World) (K:Act->World->Prop) (Q':Exit->Act->World->Prop),S V L w->L i=cA->Shut (Right md ops L)->Shut (∀j,waits md ops i j=cC->L j=cC)->Shut (∀a' w',a'=(a V).put o.dst (G8 a' o.dst)->S (EB V i (G8 a' o.dst)) (upd L i) w'->K a' w')->o.wp P (a V) w K Q')(hr:AU P md ops Q S rest (i+1) (λV=>(a V).put o.dst (V i))):AU P md ops Q S (o::rest) i a:=
 ⟨λV=>V i,λL V V' _ hi h=>h i hi,λV L w hS hi hR hd=> .inl ⟨hw V,h V L w _ _ hS hi hR hd (λa' w' h1 hS'=>⟨EB V i (G8 a' o.dst),λk hk=>Br V _ hk,by show a'=(a V).put o.dst (EB V i (G8 a' o.dst) i);rw[BL];exact h1,hS'⟩)⟩,hr⟩
def AU.val{o:Oper}{i:Nat}{a:(Nat->Value)->Act}(v:Value)(hw:∀V,Region.wanted o (yielded ops (a V).tmps)=cC)(h:∀(V:Nat->Value) (L:Nat->Bool) (w:World) (K:Act->World->Prop) (Q':Exit->Act->World->Prop),S V L w->L i=cA->Shut (Right md ops L)->Shut (∀j,waits md ops i j=cC->L j=cC)->Shut (∀a' w',a'=(a V).put o.dst v->S V (upd L i) w'->K a' w')->o.wp P (a V) w K Q')(hr:AU P md ops Q S rest (i+1) (λV=>(a V).put o.dst v)):AU P md ops Q S (o::rest) i a:=
 ⟨λ_=>v,λ_ _ _ _ _ _=>rfl,λV L w hS hi hR hd=> .inl ⟨hw V,h V L w _ _ hS hi hR hd (λ_ _ h1 hS'=>⟨V,λ_ _=>rfl,h1,hS'⟩)⟩,hr⟩
def AU.skip{o:Oper}{i:Nat}{a:(Nat->Value)->Act}(hw:∀V,Region.wanted o (yielded ops (a V).tmps)=cA)(h:∀(V:Nat->Value) (L:Nat->Bool) (w:World),S V L w->L i=cA->S V (upd L i) w)(hr:AU P md ops Q S rest (i+1) (λV=>(a V).put o.dst undef)):AU P md ops Q S (o::rest) i a:=
 ⟨λ_=>undef,λ_ _ _ _ _ _=>rfl,λV L w hS hi _ _=> .inr ⟨hw V,rfl,h V L w hS hi⟩,hr⟩
structure Zf(md:Region.Mode)(ops:Array Oper)(S:(Nat->Value)->(Nat->Bool)->World->Prop)(j:Nat)(V:Nat->Value)(L:Nat->Bool)(w:World):Prop where
 s:S V L w
 i:L j=cA
 r:Right md ops L
 d:∀k,waits md ops j k=cC->L k=cC
theorem Zf.o{j:Nat}{w:World}(z:Zf md ops S j V L w)(k:Nat)(h:waits md ops k j=cC:=by kernel_rfl):L k=cA:=z.r k j h z.i
def fv2(a:Act)(v:Value):Act×Value:=(a,v)
theorem AU.y{o:Oper}{i:Nat}{a a1:(Nat->Value)->Act}(hw:(λV=>Region.wanted o (yielded ops (a V).tmps))=λ_=>cC)(h:∀V L w K Q,Zf md ops S i V L w->Shut (∀w',S V (upd L i) w'->K (a1 V) w')->o.wp P (a V) w K Q)(ha:∀V V',fv2 (a1 V) (G8 (a1 V) o.dst)=fv2 ((a V).put o.dst (G8 (a1 V) o.dst)) (G8 (a1 V') o.dst))(hr:AU P md ops Q S rest (i+1) a1):AU P md ops Q S (o::rest) i a:=
 AU.LM (λV=>congrFun hw V) (λV L w K Q' hS hi hR hd hK=>h V L w K Q' ⟨hS,hi,hR.out,hd.out⟩ hK) (λV=>congrArg Prod.fst (ha V V)) (λ_ V V' _ _ _=>congrArg Prod.snd (ha V V')) hr
theorem AU.z{o:Oper}{i:Nat}{a a1:(Nat->Value)->Act}(hw:(λV=>Region.wanted o (yielded ops (a V).tmps))=λ_=>cC)(h:∀V L w K Q,(∀(a:Act) (d:Option Tmp) (v:Value),a.put d v=match d with|some d=>{a with tmps:=a.tmps.setIfInBounds d v}|none=>a)->Zf md ops S i V L w->(∀{w'},S V (upd L i) w'->K (a1 V) w')->o.wp P (a V) w K Q)(ha:∀V V',fv2 (a1 V) (G8 (a1 V) o.dst)=fv2 ((a V).put o.dst (G8 (a1 V) o.dst)) (G8 (a1 V') o.dst))(hr:AU P md ops Q S rest (i+1) a1):AU P md ops Q S (o::rest) i a:=
 AU.y hw (λV L w K Q' z hK=>h V L w K Q' pA z λh=>hK.out _ h) ha hr
theorem AU.w{o:Oper}{i:Nat}{a:(Nat->Value)->Act}(hw:(λV=>Region.wanted o (yielded ops (a V).tmps))=λ_=>cC)(h:∀V L w K Q,(∀(a:Act) (d:Option Tmp) (v:Value),a.put d v=match d with|some d=>{a with tmps:=a.tmps.setIfInBounds d v}|none=>a)->Zf md ops S i V L w->(∀{a' w'},a'=(a V).put o.dst (G8 a' o.dst)->S (EB V i (G8 a' o.dst)) (upd L i) w'->K a' w')->o.wp P (a V) w K Q)(hr:AU P md ops Q S rest (i+1) (λV=>(a V).put o.dst (V i))):AU P md ops Q S (o::rest) i a:=
 AU.free (λV=>congrFun hw V) (λV L w K Q' hS hi hR hd hK=>h V L w K Q' pA ⟨hS,hi,hR.out,hd.out⟩ λh=>hK.out _ _ h) hr
end
theorem Dm{i k:Nat}(h:(k==i)=cA):upd L i k=L k:=by simp[upd,h]
theorem Gq{i:Nat}:upd L i i=cC:=by simp[upd]
def Ab(P:Program)(md:Region.Mode)(ops:Array Oper)(Q:Exit->Act->World->Prop)(S:(Nat->Bool)->World->Prop)(l:List Oper)(i:Nat)(a:Act):Prop:=AU P md ops Q (λ_=>S) l i λ_=>a
section
variable {P : Program} {md : Region.Mode} {ops : Array Oper} {Q : Exit -> Act -> World -> Prop} {S : (Nat -> Bool) -> World -> Prop}
def AO{l:List Oper}{a:Act}{w:World}(hm:P.follows .mixedOrders=cC)(hok:OC .any l.toArray=cC)(hw:S (λ_=>cA) w.drew)(h:Ab P .any l.toArray Q S l 0 a):(Code.region id l.toArray cC).wp P Q a w:=AV hm hok hw h
def Ab.nil{i:Nat}{a:Act}(h:∀w,S (λj=>decide (j<ops.size)) w->Q .normal a w):Ab P md ops Q S [] i a:=λ_=>h
def Ab.step{o:Oper}{i:Nat}{a a1:Act}(hw:Region.wanted o (yielded ops a.tmps)=cC)(h:∀(L:Nat->Bool) (w:World) (K:Act->World->Prop) (Q':Exit->Act->World->Prop),S L w->L i=cA->Shut (Right md ops L)->Shut (∀j,waits md ops i j=cC->L j=cC)->Shut (∀w',S (upd L i) w'->K a1 w')->o.wp P a w K Q')(ha:a1=a.put o.dst (G8 a1 o.dst)) (hr:Ab P md ops Q S rest (i+1) a1):Ab P md ops Q S (o::rest) i a:=
 AU.step (a1:=λ_=>a1) (λ_=>hw) (λ_=>h) (λ_=>ha) (λ_ _ _ _ _ _=>rfl) hr
def Ab.skip{o:Oper}{i:Nat}{a:Act}(hw:Region.wanted o (yielded ops a.tmps)=cA)(h:∀(L:Nat->Bool) (w:World),S L w->L i=cA->S (upd L i) w)(hr:Ab P md ops Q S rest (i+1) (a.put o.dst undef)):Ab P md ops Q S (o::rest) i a:=AU.skip (λ_=>hw) (λ_=>h) hr
end
structure Zs(md:Region.Mode)(ops:Array Oper)(S:(Nat->Bool)->World->Prop)(j:Nat)(L:Nat->Bool)(w:World):Prop where
 s:S L w
 i:L j=cA
 r:Right md ops L
 d:∀k,waits md ops j k=cC->L k=cC
theorem Zs.o{S:(Nat->Bool)->World->Prop}{j:Nat}{w:World}(z:Zs md ops S j L w)(k:Nat)(h:waits md ops k j=cC:=by kernel_rfl):L k=cA:=z.r k j h z.i
theorem Ab.y{P:Program}{Q:Exit->Act->World->Prop}{S:(Nat->Bool)->World->Prop}{o:Oper}{i:Nat}{a a1:Act}(hw:Region.wanted o (yielded ops a.tmps)=cC)(h:∀L w K Q,Zs md ops S i L w->Shut (∀w',S (upd L i) w'->K a1 w')->o.wp P a w K Q)(ha:a1=a.put o.dst (G8 a1 o.dst))(hr:Ab P md ops Q S rest (i+1) a1):Ab P md ops Q S (o::rest) i a:=
 Ab.step hw (λL w K Q' hS hi hR hd=>h L w K Q' ⟨hS,hi,hR.out,hd.out⟩) ha hr
theorem Ab.z{P:Program}{Q:Exit->Act->World->Prop}{S:(Nat->Bool)->World->Prop}{o:Oper}{i:Nat}{a a1:Act}(hw:Region.wanted o (yielded ops a.tmps)=cC)(h:∀L w K Q,(∀(a:Act) (d:Option Tmp) (v:Value),a.put d v=match d with|some d=>{a with tmps:=a.tmps.setIfInBounds d v}|none=>a)->Zs md ops S i L w->(∀{w'},S (upd L i) w'->K a1 w')->o.wp P a w K Q)(ha:a1=a.put o.dst (G8 a1 o.dst))(hr:Ab P md ops Q S rest (i+1) a1):Ab P md ops Q S (o::rest) i a:=
 Ab.y hw (λL w K Q' z hK=>h L w K Q' pA z λh=>hK.out _ h) ha hr
def ALS{p q:Prop}(a:p)(b:q):p/\q:=⟨a,b⟩
section
variable {P : Program} {md : Region.Mode} {ops : Array Oper} {Q : Exit -> Act -> World -> Prop} {S : (Nat -> Value) -> (Nat -> Bool) -> World -> Prop} {o : Oper} {rest : List Oper} {i : Nat} {a a1 : (Nat -> Value) -> Act}
def ALR{l:List Oper}{a:Act}{w:World}(hw:S (λ_=>undef) (λ_=>cA) w.drew)(h:AU P .any l.toArray Q S l 0 (λ_=>a)) (hm:P.follows .mixedOrders=cC:=by rfl) (hok:OC .any l.toArray=cC:=by kernel_rfl):(Code.region id l.toArray cC).wp P Q a w:=AV hm hok hw h
def ALQ{S:(Nat->Bool)->World->Prop}{l:List Oper}{a:Act}{w:World}(hw:S (λ_=>cA) w.drew)(h:Ab P .any l.toArray Q S l 0 a) (hm:P.follows .mixedOrders=cC:=by rfl) (hok:OC .any l.toArray=cC:=by kernel_rfl):(Code.region id l.toArray cC).wp P Q a w:=AO hm hok hw h
theorem AU.q(k:∀{V L w},Zf md ops S i V L w->S V (upd L i) w)(hr:AU P md ops Q S rest (i+1) a1)(hw:(λV=>Region.wanted o (yielded ops (a V).tmps))=λ_=>cC:=by rfl)(h:∀V L w K Q,(∀(a:Act) (d:Option Tmp) (v:Value),a.put d v=match d with|some d=>{a with tmps:=a.tmps.setIfInBounds d v}|none=>a)->Zf md ops S i V L w->K (a1 V) w->o.wp P (a V) w K Q:=by intro V L w1 _ _ _ z hK;go_simp;exact hK)(ha:∀V V',fv2 (a1 V) (G8 (a1 V) o.dst)=fv2 ((a V).put o.dst (G8 (a1 V) o.dst)) (G8 (a1 V') o.dst):=by intros;rfl):AU P md ops Q S (o::rest) i a:=
 AU.z hw (λV L w K Q' pe z hK=>h V L w K Q' pe z (hK (k z))) ha hr
theorem AU.f{F:(Nat->Value)->(Nat->Bool)->World->Prop}(k:∀{V L w},Zf md ops S i V L w->S V (upd L i) w)(f:∀{V L w},Zf md ops S i V L w->F V L w)(hr:AU P md ops Q S rest (i+1) a1)(hw:(λV=>Region.wanted o (yielded ops (a V).tmps))=λ_=>cC:=by rfl)(h:∀V L w K Q,(∀(a:Act) (d:Option Tmp) (v:Value),a.put d v=match d with|some d=>{a with tmps:=a.tmps.setIfInBounds d v}|none=>a)->F V L w->K (a1 V) w->o.wp P (a V) w K Q:=by intro V L w1 _ _ _ hF hK;go_simp;exact hK)(ha:∀V V',fv2 (a1 V) (G8 (a1 V) o.dst)=fv2 ((a V).put o.dst (G8 (a1 V) o.dst)) (G8 (a1 V') o.dst):=by intros;rfl):AU P md ops Q S (o::rest) i a:=
 AU.z hw (λV L w K Q' pe z hK=>h V L w K Q' pe (f z) (hK (k z))) ha hr
theorem AU.c{R:World->World->Prop}{g:Nat}{args:(Nat->Value)->Array Value}(c:∀{V L w},Zf md ops S i V L w->Calls P g (args V) w λe w'=>e=.returned v/\R w w')(k:∀{V L w w2},Zf md ops S i V L w->R w w2->S V (upd L i) w2)(hr:AU P md ops Q S rest (i+1) a1)(hw:(λV=>Region.wanted o (yielded ops (a V).tmps))=λ_=>cC:=by rfl)(h:∀V w K Q,Calls P g (args V) w (λe w'=>e=.returned v/\R w w')->Shut (∀w',R w w'->K (a1 V) w')->o.wp P (a V) w K Q:=by intro V w1 _ _ hc hK;go_simp;go_wp2_with(refine hc.mono ?_;rintro e w2 ⟨rfl,hb⟩);(try simp only[pE]);exact hK.out _ hb)(ha:∀V V',fv2 (a1 V) (G8 (a1 V) o.dst)=fv2 ((a V).put o.dst (G8 (a1 V) o.dst)) (G8 (a1 V') o.dst):=by intros;rfl):AU P md ops Q S (o::rest) i a:=
 AU.y hw (λV L w K Q' z hK=>h V w K Q' (c z) λw' hR=>hK.out _ (k z hR)) ha hr
section
variable {S : (Nat -> Bool) -> World -> Prop} {a a1 : Act}
theorem Ab.q(k:∀{L w},Zs md ops S i L w->S (upd L i) w)(hr:Ab P md ops Q S rest (i+1) a1)(hw:Region.wanted o (yielded ops a.tmps)=cC:=by rfl)(h:∀L w K Q,(∀(a:Act) (d:Option Tmp) (v:Value),a.put d v=match d with|some d=>{a with tmps:=a.tmps.setIfInBounds d v}|none=>a)->Zs md ops S i L w->K a1 w->o.wp P a w K Q:=by intro L w1 _ _ _ z hK;go_simp;exact hK)(ha:a1=a.put o.dst (G8 a1 o.dst):=by rfl):Ab P md ops Q S (o::rest) i a:=
 Ab.z hw (λL w K Q' pe z hK=>h L w K Q' pe z (hK (k z))) ha hr
theorem Ab.f{F:(Nat->Bool)->World->Prop}(k:∀{L w},Zs md ops S i L w->S (upd L i) w)(f:∀{L w},Zs md ops S i L w->F L w)(hr:Ab P md ops Q S rest (i+1) a1)(hw:Region.wanted o (yielded ops a.tmps)=cC:=by rfl)(h:∀L w K Q,(∀(a:Act) (d:Option Tmp) (v:Value),a.put d v=match d with|some d=>{a with tmps:=a.tmps.setIfInBounds d v}|none=>a)->F L w->K a1 w->o.wp P a w K Q:=by intro L w1 _ _ _ hF hK;go_simp;exact hK)(ha:a1=a.put o.dst (G8 a1 o.dst):=by rfl):Ab P md ops Q S (o::rest) i a:=
 Ab.z hw (λL w K Q' pe z hK=>h L w K Q' pe (f z) (hK (k z))) ha hr
theorem Ab.c{R:World->World->Prop}{g:Nat}{args:Array Value}(c:∀{L w},Zs md ops S i L w->Calls P g args w λe w'=>e=.returned v/\R w w')(k:∀{L w w2},Zs md ops S i L w->R w w2->S (upd L i) w2)(hr:Ab P md ops Q S rest (i+1) a1)(hw:Region.wanted o (yielded ops a.tmps)=cC:=by rfl)(h:∀w K Q,Calls P g args w (λe w'=>e=.returned v/\R w w')->Shut (∀w',R w w'->K a1 w')->o.wp P a w K Q:=by intro w1 _ _ hc hK;go_simp;go_wp2_with(refine hc.mono ?_;rintro e w2 ⟨rfl,hb⟩);(try simp only[pE]);exact hK.out _ hb)(ha:a1=a.put o.dst (G8 a1 o.dst):=by rfl):Ab P md ops Q S (o::rest) i a:=
 Ab.y hw (λL w K Q' z hK=>h w K Q' (c z) λw' hR=>hK.out _ (k z hR)) ha hr
end
end
end
section
theorem AB{w:World}(h1:AA6 w w1)(h2:AA6 w1 w2):AA6 w w2:=h1.trans (h2.mono h1.size)
structure Ae(w:World)(p:Nat)(cs:List Value):Prop where
 c:∀i v,cs[i]? =cP v->w.cell? ⟨p,i,cX⟩=cP v
 f:∀i,i<cs.length->w.frozen? ⟨p,i,cX⟩=cA
theorem Ae.alloc(w:World)(cs:List Value)(t:TypeId):Ae (w.alloc (Obj.cells cs.toArray t)) w.heap.size cs:=
 {c:=λi v h=>by rw[World.cell?_alloc_mark];simpa using h
  f:=λi h=>by rw[World.frozen?_alloc_mark];rfl}
theorem Ae.below{w:World}{p B:Nat}(h:Ae w p cs)(hp:p<B)(hb:Below B w w1):Ae w1 p cs:=
 {c:=λi v hv=>by rw[hb.cell hp];exact h.c i v hv
  f:=λi hi=>by rw[hb.frozen hp];exact h.f i hi}
theorem Ae.drew{w:World}{p:Nat}(h:Ae w p cs):Ae w.drew p cs:={c:=λi v hv=>h.c i v hv,f:=λi hi=>h.f i hi}
theorem Ae.lt{w:World}{p:Nat}(h:Ae w p (v::cs)):p<w.heap.size:=World.block_lt_of_cell? w _ (h.c 0 v rfl)
theorem Ae.set{w:World}{p:Nat}(h:Ae w p cs){i:Nat}(hi:i<cs.length)(v:Value):Ae (w.setCell ⟨p,i,cX⟩ v) p (cs.set i v):=
 {c:=λj u hu=>by
   by_cases e:j=i
   ·subst e;have:u=v:=(by simpa[hi]using hu.symm);subst this;exact World.cell?_setCell_same _ _ _ (h.c j cs[j] (by simp[hi]))
   ·have e':i≠j:=λh=>e h.symm;rw[World.cell?_setCell_other _ _ _ _ (by intro he;exact e' (congrArg Addr.off he))];exact h.c j u (by simpa[List.getElem?_set_ne e']using hu)
  f:=λj hj=>by
   rw[World.frozen?_setCell]
   exact h.f j (by simpa using hj)}
def Ae.al{w:World}{p:Nat}(h:Ae w p (v::cs))(o:Obj):Ae (w.alloc o) p (v::cs):=h.below h.lt (AJ _ o)
def Ae.nx{w:World}{p:Nat}(h:Ae w p (v::cs))(hb:AA6 w w1):Ae w1 p (v::cs):=h.below h.lt hb
theorem Ae.far{w:World}{p:Nat}(h:Ae w p cs){q:Addr}(hq:q.block≠p)(v:Value):Ae (w.setCell q v) p cs:=
 {c:=λj u hu=>by
   rw[World.cell?_setCell_other _ _ _ _ (by intro he;exact hq (congrArg Addr.block he))];exact h.c j u hu
  f:=λj hj=>by rw[World.frozen?_setCell];exact h.f j hj}
theorem Ae.same{w:World}{p:Nat}(h:Ae w p cs)(he:w'.heap[p]? =w.heap[p]?):Ae w' p cs:=
 {c:=λi v hv=>by rw[World.cell?_of_block (w:=w) (w':=w') (a:=⟨p,i,cX⟩) he];exact h.c i v hv
  f:=λi hi=>by rw[World.frozen?_of_block (w:=w) (w':=w') (a:=⟨p,i,cX⟩) he];exact h.f i hi}
theorem JM(w:World)(p:Nat)(i:Nat)(v:Value):w.grownBy (w.setCell ⟨p,i,cX⟩ v) (cP p):=
 ⟨rfl,rfl,rfl,by simp[World.setCell],λk _ hne=>Below.heap_setCell _ _ _ _ (λe=>hne (by rw[e]))⟩
section
variable {w : World} {p : Nat} {a b c d e f g h i j k m n : Value} {l : List Value}
theorem Ae.c2(x:Ae w p (a::b::l)):w.cell? ⟨p,0,cX⟩=cP a/\w.cell? ⟨p,1,cX⟩=cP b:=⟨x.c 0 _ rfl,x.c 1 _ rfl⟩
theorem Ae.c3(x:Ae w p (a::b::c::l)):w.cell? ⟨p,0,cX⟩=cP a/\w.cell? ⟨p,1,cX⟩=cP b/\w.cell? ⟨p,2,cX⟩=cP c:=by grind [cases Ae]
theorem Ae.c4(x:Ae w p (a::b::c::d::l)):w.cell? ⟨p,0,cX⟩=cP a/\w.cell? ⟨p,1,cX⟩=cP b/\w.cell? ⟨p,2,cX⟩=cP c/\w.cell? ⟨p,3,cX⟩=cP d:=by grind [cases Ae]
theorem Ae.c5(x:Ae w p (a::b::c::d::e::l)):w.cell? ⟨p,0,cX⟩=cP a/\w.cell? ⟨p,1,cX⟩=cP b/\w.cell? ⟨p,2,cX⟩=cP c/\w.cell? ⟨p,3,cX⟩=cP d/\w.cell? ⟨p,4,cX⟩=cP e:=by grind [cases Ae]
theorem Ae.c6(x:Ae w p (a::b::c::d::e::f::l)):w.cell? ⟨p,0,cX⟩=cP a/\w.cell? ⟨p,1,cX⟩=cP b/\w.cell? ⟨p,2,cX⟩=cP c/\w.cell? ⟨p,3,cX⟩=cP d/\w.cell? ⟨p,4,cX⟩=cP e/\w.cell? ⟨p,5,cX⟩=cP f:=by grind [cases Ae]
def Ae.c9(x:Ae w p (a::b::c::d::e::f::g::h::i::l)):w.cell? ⟨p,0,cX⟩=cP a/\w.cell? ⟨p,1,cX⟩=cP b/\w.cell? ⟨p,2,cX⟩=cP c/\w.cell? ⟨p,3,cX⟩=cP d/\w.cell? ⟨p,4,cX⟩=cP e/\w.cell? ⟨p,5,cX⟩=cP f/\w.cell? ⟨p,6,cX⟩=cP g/\w.cell? ⟨p,7,cX⟩=cP h/\w.cell? ⟨p,8,cX⟩=cP i:=⟨x.c 0 _ rfl,x.c 1 _ rfl,x.c 2 _ rfl,x.c 3 _ rfl,x.c 4 _ rfl,x.c 5 _ rfl,x.c 6 _ rfl,x.c 7 _ rfl,x.c 8 _ rfl⟩
def Ae.c11(x:Ae w p (a::b::c::d::e::f::g::h::i::j::k::l)):w.cell? ⟨p,0,cX⟩=cP a/\w.cell? ⟨p,1,cX⟩=cP b/\w.cell? ⟨p,2,cX⟩=cP c/\w.cell? ⟨p,3,cX⟩=cP d/\w.cell? ⟨p,4,cX⟩=cP e/\w.cell? ⟨p,5,cX⟩=cP f/\w.cell? ⟨p,6,cX⟩=cP g/\w.cell? ⟨p,7,cX⟩=cP h/\w.cell? ⟨p,8,cX⟩=cP i/\w.cell? ⟨p,9,cX⟩=cP j/\w.cell? ⟨p,10,cX⟩=cP k:=⟨x.c 0 _ rfl,x.c 1 _ rfl,x.c 2 _ rfl,x.c 3 _ rfl,x.c 4 _ rfl,x.c 5 _ rfl,x.c 6 _ rfl,x.c 7 _ rfl,x.c 8 _ rfl,x.c 9 _ rfl,x.c 10 _ rfl⟩
def Ae.c13(x:Ae w p (a::b::c::d::e::f::g::h::i::j::k::m::n::l)):w.cell? ⟨p,0,cX⟩=cP a/\w.cell? ⟨p,1,cX⟩=cP b/\w.cell? ⟨p,2,cX⟩=cP c/\w.cell? ⟨p,3,cX⟩=cP d/\w.cell? ⟨p,4,cX⟩=cP e/\w.cell? ⟨p,5,cX⟩=cP f/\w.cell? ⟨p,6,cX⟩=cP g/\w.cell? ⟨p,7,cX⟩=cP h/\w.cell? ⟨p,8,cX⟩=cP i/\w.cell? ⟨p,9,cX⟩=cP j/\w.cell? ⟨p,10,cX⟩=cP k/\w.cell? ⟨p,11,cX⟩=cP m/\w.cell? ⟨p,12,cX⟩=cP n:=⟨x.c 0 _ rfl,x.c 1 _ rfl,x.c 2 _ rfl,x.c 3 _ rfl,x.c 4 _ rfl,x.c 5 _ rfl,x.c 6 _ rfl,x.c 7 _ rfl,x.c 8 _ rfl,x.c 9 _ rfl,x.c 10 _ rfl,x.c 11 _ rfl,x.c 12 _ rfl⟩
theorem Ae.f2(x:Ae w p (a::b::l)):w.frozen? ⟨p,0,cX⟩=cA/\w.frozen? ⟨p,1,cX⟩=cA:=by grind [cases Ae]
theorem Ae.f3(x:Ae w p (a::b::c::l)):w.frozen? ⟨p,0,cX⟩=cA/\w.frozen? ⟨p,1,cX⟩=cA/\w.frozen? ⟨p,2,cX⟩=cA:=by grind [cases Ae]
theorem Ae.f5(x:Ae w p (a::b::c::d::e::l)):w.frozen? ⟨p,0,cX⟩=cA/\w.frozen? ⟨p,1,cX⟩=cA/\w.frozen? ⟨p,2,cX⟩=cA/\w.frozen? ⟨p,3,cX⟩=cA/\w.frozen? ⟨p,4,cX⟩=cA:=by grind [cases Ae]
theorem Ae.f6(x:Ae w p (a::b::c::d::e::f::l)):w.frozen? ⟨p,0,cX⟩=cA/\w.frozen? ⟨p,1,cX⟩=cA/\w.frozen? ⟨p,2,cX⟩=cA/\w.frozen? ⟨p,3,cX⟩=cA/\w.frozen? ⟨p,4,cX⟩=cA/\w.frozen? ⟨p,5,cX⟩=cA:=by grind [cases Ae]
def Ae.f9(x:Ae w p (a::b::c::d::e::f::g::h::i::l)):w.frozen? ⟨p,0,cX⟩=cA/\w.frozen? ⟨p,1,cX⟩=cA/\w.frozen? ⟨p,2,cX⟩=cA/\w.frozen? ⟨p,3,cX⟩=cA/\w.frozen? ⟨p,4,cX⟩=cA/\w.frozen? ⟨p,5,cX⟩=cA/\w.frozen? ⟨p,6,cX⟩=cA/\w.frozen? ⟨p,7,cX⟩=cA/\w.frozen? ⟨p,8,cX⟩=cA:=⟨x.f 0 (by simp),x.f 1 (by simp),x.f 2 (by simp),x.f 3 (by simp),x.f 4 (by simp),x.f 5 (by simp),x.f 6 (by simp),x.f 7 (by simp),x.f 8 (by simp)⟩
def Ae.f13(x:Ae w p (a::b::c::d::e::f::g::h::i::j::k::m::n::l)):w.frozen? ⟨p,0,cX⟩=cA/\w.frozen? ⟨p,1,cX⟩=cA/\w.frozen? ⟨p,2,cX⟩=cA/\w.frozen? ⟨p,3,cX⟩=cA/\w.frozen? ⟨p,4,cX⟩=cA/\w.frozen? ⟨p,5,cX⟩=cA/\w.frozen? ⟨p,6,cX⟩=cA/\w.frozen? ⟨p,7,cX⟩=cA/\w.frozen? ⟨p,8,cX⟩=cA/\w.frozen? ⟨p,9,cX⟩=cA/\w.frozen? ⟨p,10,cX⟩=cA/\w.frozen? ⟨p,11,cX⟩=cA/\w.frozen? ⟨p,12,cX⟩=cA:=⟨x.f 0 (by simp),x.f 1 (by simp),x.f 2 (by simp),x.f 3 (by simp),x.f 4 (by simp),x.f 5 (by simp),x.f 6 (by simp),x.f 7 (by simp),x.f 8 (by simp),x.f 9 (by simp),x.f 10 (by simp),x.f 11 (by simp),x.f 12 (by simp)⟩
end
section
variable {P : Program} {fn : Func} {R : Ending -> World -> Prop} {a : Act} {w : World} {v : Value} {p u t : Tmp} {ty oo : TypeId}
def rB(h:fn.results=#[.cell p ty,.tmp u])(hr:(((asAddr (a.tmps.getD p undef)).run P w).andThen λb w₁=>((loadVar ty b).run P w₁).andThen λv w₂=> .ok (.tuple #[v,a.tmps.getD u undef]) w₂)=.ok v w)(hd:a.defers=[])(hR:R (.returned v) w):bodyPost P fn R .ret a w:=
 bodyPost_ret_by ((results_cell_tmp h _ _ _).trans hr) hd hR
end
def TG(w:World)(p:Nat)(t:TypeId):Prop:=∃cur m,w.heap[p]? =cP (.cells cur t m)
theorem TG.lt{w:World}{p:Nat}{t:TypeId}(h:TG w p t):p<w.heap.size:=by grind [TG]
theorem BR{w:World}(h:Below (w.alloc (Obj.cells c1.toArray t1)).heap.size (w.alloc (Obj.cells c1.toArray t1)) w1):Ae w1 w.heap.size c1/\AA6 w w1:=by
 have h1:=AJ w (Obj.cells c1.toArray t1);exact⟨(Ae.alloc w c1 t1).below (by simp) h,AB h1 h⟩
theorem Ch{w:World}{c2:List Value}(h:Below ((w.alloc (Obj.cells c1.toArray t1)).alloc (Obj.cells c2.toArray t2)).heap.size ((w.alloc (Obj.cells c1.toArray t1)).alloc (Obj.cells c2.toArray t2)) w1):Ae w1 w.heap.size c1/\Ae w1 (w.heap.size+1) c2/\AA6 w w1:=by
 have s1:(w.alloc (Obj.cells c1.toArray t1)).heap.size=w.heap.size+1:=by simp
 grind [BR,cases Ae]
theorem aY{w:World}{c2 c3:List Value}{t3:TypeId}(h:Below (((w.alloc (Obj.cells c1.toArray t1)).alloc (Obj.cells c2.toArray t2)).alloc (Obj.cells c3.toArray t3)).heap.size (((w.alloc (Obj.cells c1.toArray t1)).alloc (Obj.cells c2.toArray t2)).alloc (Obj.cells c3.toArray t3)) w1):Ae w1 w.heap.size c1/\Ae w1 (w.heap.size+1) c2/\Ae w1 (w.heap.size+1+1) c3/\AA6 w w1:=by
 have s1:((w.alloc (Obj.cells c1.toArray t1)).alloc (Obj.cells c2.toArray t2)).heap.size=w.heap.size+1+1:=by simp
 grind [BR,Ch,cases Ae]
def Ck(w0:World)(na ns:Nat)(zs cs:List Value)(V:Nat->Value)(L:Nat->Bool)(w1:World):Prop:=
 AA6 w0 w1/\(L ns=cC->L na=cC)/\
  (L na=cC->∃p,V na=.pointer (cP ⟨p,0,cX⟩)/\w0.heap.size<=p/\p<w1.heap.size/\Ae w1 p (if L ns=cC then cs else zs))
theorem upd_ne{i k:Nat}(h:(k==i)=cA):upd L i k=L k:=by simp[upd,h]
theorem Cc{i:Nat}:upd L i i=cC:=by simp[upd]
theorem Ck.start(h:AA6 w0 w1):Ck w0 na ns zs cs V (λ_=>cA) w1:=by grind [Ck]
def Ck.keep(h:Ck w0 na ns zs cs V L w1){i:Nat}(h1:(na==i)=cA)(h2:(ns==i)=cA):Ck w0 na ns zs cs V (upd L i) w1:=by simp_all[Ck,upd]
theorem Ck.call(h:Ck w0 na ns zs cs V L w1)(hb:AA6 w1 w2){i:Nat}(h1:(na==i)=cA)(h2:(ns==i)=cA):Ck w0 na ns zs cs V (upd L i) w2:=by
 refine Ck.keep ⟨h.1.trans (hb.mono h.1.size),h.2.1,λhl=>?_⟩ h1 h2;obtain⟨p,e,h3,h4,h5⟩:=h.2.2 hl;exact⟨p,e,h3,A9 h4 hb.size,h5.below h4 hb⟩
def Ck.made(h:Ck w0 na ns zs cs V L w1)(hns:(ns==na)=cA)(hl:L na=cA)(t:TypeId):Ck w0 na ns zs cs (EB V na (.pointer (cP ⟨w1.heap.size,0,cX⟩))) (upd L na) (w1.alloc (Obj.cells zs.toArray t)):=by
 have hno:L ns=cA:=by
  cases hn:L ns with
  |false=>rfl
  |true=>have:=h.2.1 hn;rw[hl]at this;cases this
 refine⟨h.1.alloc h.1.size _,λ_=>Cc,λ_=>⟨w1.heap.size,BL _ _ _,h.1.size,by simp,?_⟩⟩;rw[upd_ne hns,hno];exact Ae.alloc w1 zs t
theorem Ck.at(h:Ck w0 na ns zs cs V L w1)(hl:L na=cC)(hn:L ns=cA):∃p,V na=.pointer (cP ⟨p,0,cX⟩)/\w0.heap.size<=p/\p<w1.heap.size/\Ae w1 p zs:=by simp_all[Ck,cX]
def Ck.done(h:Ck w0 na ns zs cs V L w1)(hl:L na=cC)(hn:L ns=cC):∃p,V na=.pointer (cP ⟨p,0,cX⟩)/\w0.heap.size<=p/\p<w1.heap.size/\Ae w1 p cs:=by simp_all[Ck,cX]
def Ck.fill(_:Ck w0 na ns zs cs V L w1)(hl:L na=cC){p:Nat}(hp:V na=.pointer (cP ⟨p,0,cX⟩))(hp0:w0.heap.size<=p)(hp1:p<w2.heap.size)(hB:AA6 w0 w2)(hx:Ae w2 p cs)(hns:(na==ns)=cA):Ck w0 na ns zs cs V (upd L ns) w2:=by simp_all[Ck,cX,upd]
def Ah(st:Nat)(I J:World->Prop)(L:Nat->Bool)(w:World):Prop:=(L st=cA->I w)/\(L st=cC->J w)
theorem Ah.start{I J:World->Prop}{w:World}(h:I w):Ah st I J (λ_=>cA) w:=by grind [Ah]
def Ah.keep{I J:World->Prop}{i:Nat}{w:World}(hl:L st=cA)(h:I w)(hne:(st==i)=cA):Ah st I J (upd L i) w:=by simp_all[Ah,upd]
def Ah.done{I J:World->Prop}{w:World}(h:J w):Ah st I J (upd L st) w:=by simp_all[Ah,upd]
def Ah.pass{I J:World->Prop}{i:Nat}{w:World}(h:Ah st I J L w)(hne:(st==i)=cA):Ah st I J (upd L i) w:=by simp_all[Ah,upd]
def wrN{n:Nat}(h:n<=9223372036854775807):IntKind.i64.wrap (n:Int)=n:=IntWalk.i64_in _ (by omega)
def again{α:Type}(w:α):∃v,v=w:=⟨w,rfl⟩
def ng{w W:World}{t:TypeId}(h:w.alloc (Obj.cells cs.toArray t)=W):AA6 w W/\Ae W w.heap.size cs:=by
 subst h;exact⟨AJ _ _,Ae.alloc w cs t⟩
def ABY{w W:World}{c2:List Value}(h:(w.alloc (Obj.cells c1.toArray t1)).alloc (Obj.cells c2.toArray t2)=W):Ae W w.heap.size c1/\Ae W (w.heap.size+1) c2/\AA6 w W:=by
 subst h;exact Ch (AL)
end
section
def IV(s n:Nat)(f:Nat->Nat->Value):List Value:=(List.range (n*s)).map λj=>f (j/s) (j%s)
theorem Jq(s n:Nat)(f:Nat->Nat->Value):(IV s n f).length=n*s:=by simp[IV]
theorem Jj{n:Nat}{f:Nat->Nat->Value}{j:Nat}(h:j<n*s):(IV s n f)[j]? =cP (f (j/s) (j%s)):=by simp[IV,h]
theorem tq{i k:Nat}(hk:k<s):(i*s+k)/s=i:=by
 rw[Nat.mul_comm,Nat.mul_add_div (by omega),Nat.div_eq_of_lt hk,Nat.add_zero]
theorem sU{i k:Nat}(hk:k<s):(i*s+k)%s=k:=by
 rw[Nat.mul_comm,Nat.mul_add_mod,Nat.mod_eq_of_lt hk]
theorem OG{n i k:Nat}(hi:i<n)(hk:k<s):i*s+k<n*s:=by
 have:(i+1)*s<=n*s:=Nat.mul_le_mul_right s hi;grind
theorem Rh{n:Nat}{f:Nat->Nat->Value}{i k:Nat}(hi:i<n)(hk:k<s):(IV s n f)[i*s+k]? =cP (f i k):=by grind [Jj,OG,tq,sU]
theorem KY{n:Nat}{f:Nat->Nat->Value}{j:Nat}(h:n*s<=j):(IV s n f)[j]? =cX:=by grind [Jq]
theorem Ud{n:Nat}{f g:Nat->Nat->Value}(h:∀i k,i<n->k<s->f i k=g i k):IV s n f=IV s n g:=by
 apply List.ext_getElem?;intro j;by_cases hj:j<n*s
 ·have hs:0<s:=by
   rcases Nat.eq_zero_or_pos s with e|e
   ·subst e;omega
   ·exact e
  rw[Jj hj,Jj hj,h _ _ ((Nat.div_lt_iff_lt_mul hs).2 hj) (Nat.mod_lt _ hs)]
 grind [Jj,KY]
theorem Xh(s:Nat)(f:Nat->Nat->Value):IV s 0 f=[]:=by simp[IV]
theorem Xi(s n:Nat)(f:Nat->Nat->Value):IV s (n+1) f=IV s n f++(List.range s).map (f n):=by
 apply List.ext_getElem?;intro j;have e:(n+1)*s=n*s+s:=by rw[Nat.add_mul,Nat.one_mul]
 by_cases hj:j<n*s
 ·rw[List.getElem?_append_left (by rw[Jq];exact hj),Jj hj,Jj (by omega)]
 ·rw[List.getElem?_append_right (by rw[Jq];omega),Jq];by_cases hj2:j<n*s+s
  ·obtain⟨k,rfl⟩:∃k,j=n*s+k:=⟨j-n*s,by omega⟩;have hk:k<s:=(by omega);rw[Rh (by omega) hk];have:n*s+k-n*s=k:=(by omega);rw[this];simp[hk]
  ·rw[KY (by omega),List.getElem?_eq_none (by simp;omega)]
theorem Dk{g o j:Nat}:(⟨g,o,cX⟩:Addr).add j=⟨g,o+j,cX⟩:=by
 unfold Addr.add;split<;>simp_all
def EM(w:World)(B:Nat)(e:TypeId)(s:Nat)(v:Value)(n:Nat)(f:Nat->Nat->Value):Prop:=w.ownsRow B e s v n (IV s n f)
section
variable {w w' : World} {B : Nat} {e : TypeId} {s : Nat} {v : Value} {n : Nat} {f : Nat -> Nat -> Value}
def EM.nil:EM w B e s (cY cX 0 0) 0 f:=by
 unfold EM;rw[Xh];exact World.ownsRow_nil _ _ _ _
theorem EM.slice(h:EM w B e s v n f):∃pu cu,v=cY pu n cu:=by
 rcases h.2 with⟨rfl,rfl⟩|⟨g,cap,cur,rfl,_⟩<;>exact⟨_,_,rfl⟩
theorem Bf{xs:List Value}(h:w.ownsRow B e s v n xs):∃pu cu,v=cY pu n cu:=by
 rcases h.2 with⟨rfl,rfl⟩|⟨g,cap,cur,rfl,_⟩<;>exact⟨_,_,rfl⟩
theorem EM.at(h:EM w B e s v n f)(h0:0<n):∃g cu,v=cY (cP ⟨g,0,cX⟩) n cu/\B<=g/\g<w.heap.size/\n<=cu/\(∀i k,i<n->k<s->w.cell? ⟨g,i*s+k,cX⟩=cP (f i k))/\∀j,w.frozen? ⟨g,j,cX⟩=cA:=by
 rcases h.2 with⟨_,h1⟩|⟨g,cap,cur,rfl,hb,hg,hn,_⟩
 ·omega
 ·exact⟨g,cap,rfl,hb,(h.lt g rfl).2,hn,λi k hi hk=>by rw[h.cellAt _ (OG hi hk),Rh hi hk],λj=>h.frozenAt j⟩
def EM.kept{row:Option Nat}(h:EM w B e s v n f)(hg:w.grownBy w' row)(hne:v.ownBlock=cX\/v.ownBlock≠row):EM w' B e s v n f:=World.ownsRow.kept h hg hne
theorem Ez{w:World}{C:Nat}(hb:Below C w w')(hC:w.heap.size<=C):w.grownBy w' cX:=⟨hb.os,hb.tape,hb.output,hb.size,λk hk _=>hb.block k (by omega)⟩
def EM.next{C:Nat}(h:EM w B e s v n f)(hb:Below C w w')(hC:w.heap.size<=C):EM w' B e s v n f:=h.kept (Ez hb hC) (by cases v.ownBlock<;>simp)
def EM.alloc(h:EM w B e s v n f)(o:Obj):EM (w.alloc o) B e s v n f:=World.ownsRow.alloc h o
theorem EM.push{v':Value}{xs:List Value}{f':Nat->Nat->Value}(h:w.ownsRow B e s v' (n+1) (IV s n f++xs))(hf:∀i k,i<n->k<s->f' i k=f i k)(hx:xs=(List.range s).map (f' n)):EM w B e s v' (n+1) f':=by grind [IV,EM,Xi,Ud]
def EM.typ(h:EM w B e s v n f){g:Nat}(hg:v.ownBlock=cP g):∃cur m,w.heap[g]? =cP (.cells cur e m):=by
 rcases h.2 with⟨rfl,rfl⟩|⟨g',cap,cur,rfl,hb,hheap,hn,hm,hs,hx⟩
 ·cases hg
 ·obtain rfl:g'=g:=by simpa[Value.ownBlock]using hg
  exact⟨cur,(0,0),hheap⟩
theorem EM.unlike{B':Nat}{e':TypeId}{s':Nat}{v':Value}{n':Nat}{f':Nat->Nat->Value}(h:EM w B e s v n f)(h':EM w B' e' s' v' n' f')(hne:e≠e'){g:Nat}(hg:v.ownBlock=cP g):v'.ownBlock≠cP g:=λe1=>by
 obtain⟨cur,m,a⟩:=h.typ hg;obtain⟨cur',m',b⟩:=h'.typ e1;rw[a]at b;injection b with b;injection b with _ b;exact hne b
end
end
section
open Go.MapKept Go.ChangeMaps
abbrev Vu:=ByteArray×Int
abbrev Vm:=List (ByteArray×Vu)
abbrev Bv:ByteArray:=⟨#[]⟩
def getM(l:Vm)(x:ByteArray):Vu:=match l.find? (λy=>decide (y.1=x))with
 |some y=>y.2
 |none=>(Bv,0)
def Wu(l:Vm)(x:ByteArray):Bool:=(l.find? (λy=>decide (y.1=x))).isSome
def Ei:Vm->ByteArray->Vu->Vm
 | [],x,v=> [(x,v)]
 |y::r,x,v=>if y.1=x then(x,v)::r else y::Ei r x v
abbrev Kn(v:Vu):Value:=.agg #[cS v.1,cI cJ v.2]
def Eu(x:ByteArray×Vu):Value×Value:=(cS x.1,Kn x.2)
def CQ(w:World)(b:Nat)(m:Vm):Prop:=
 ∃es clock,w.heap[b]? =cP (.map es clock)/\Stamped es clock/\es.toList.map (λe=>(e.key,e.val))=m.map Eu
theorem LV(x:ByteArray):IsKey .string (cS x):=trivial
theorem V6:∀{m:Vm} {x:ByteArray} {j:Nat} {v:Vu},(m.map (·.1)).Nodup->m[j]? =cP (x,v)->getM m x=v/\Wu m x=cC
 | [],_,_,_,_,h=>by simp at h
 |y::r,x,0,v,_,h=>by
  obtain rfl:y=(x,v):=by simpa using h
  simp[getM,Wu]
 |y::r,x,j+1,v,hn,h=>by
  simp only[List.map_cons,List.nodup_cons]at hn;have h':r[j]? =cP (x,v):=by simpa using h
  have hne:y.1≠x:=λe=>hn.1 (e▸List.mem_map.2 ⟨(x,v),List.mem_of_getElem? h',rfl⟩);have ih:=V6 hn.2 h';unfold getM Wu at ih⊢;rw[List.find?_cons_of_neg (by simpa using hne)];exact ih
theorem lS{m:Vm}{x:ByteArray}(h:∀y∈m,y.1≠x):getM m x=(Bv,0)/\Wu m x=cA:=by grind [getM,Wu]
theorem Vn:∀{m:Vm} {x:ByteArray} {v:Vu},(∀y∈m,y.1≠x)->Ei m x v=m++[(x,v)]
 | [],_,_,_=>rfl
 |y::r,x,v,h=>by
  unfold Ei;rw[if_neg (h y (by simp)),Vn (λz hz=>h z (by simp[hz]))];rfl
theorem Vo:∀{m:Vm} {x:ByteArray} {v u:Vu} {j:Nat},(m.map (·.1)).Nodup->m[j]? =cP (x,u)->Ei m x v=m.set j (x,v)
 | [],_,_,_,_,_,h=>by simp at h
 |y::r,x,v,u,0,_,h=>by
  obtain rfl:y=(x,u):=by simpa using h
  unfold Ei;rw[if_pos rfl]
  rfl
 |y::r,x,v,u,j+1,hn,h=>by
  simp only[List.map_cons,List.nodup_cons]at hn;have h':r[j]? =cP (x,u):=by simpa using h
  have hne:y.1≠x:=λe=>hn.1 (e▸List.mem_map.2 ⟨(x,u),List.mem_of_getElem? h',rfl⟩);unfold Ei;rw[if_neg hne,Vo hn.2 h'];rfl
section
variable {P : Program} {w : World} {t kt et : TypeId} {b : Nat} {m : Vm}
theorem CQ.keys(h:es.toList.map (λe=>(e.key,e.val))=m.map Eu):∀x∈es.toList,∃y∈m,x.key=cS y.1/\x.val=Kn y.2:=by
 intro x hx;have:(x.key,x.val)∈m.map Eu:=h▸List.mem_map.2 ⟨x,hx,rfl⟩;grind [Eu]
def CQ.MS(h:es.toList.map (λe=>(e.key,e.val))=m.map Eu):∀x∈es.toList,IsKey .string x.key:=λx hx=>by
 obtain⟨y,_,e,_⟩:=CQ.keys h x hx;rw[e];trivial
theorem CQ.aH(hs:Stamped es clock)(h:es.toList.map (λe=>(e.key,e.val))=m.map Eu):(m.map (·.1)).Nodup:=by
 have h1:es.toList.map (·.key)=m.map (λx=>cS x.1):=by
  have:=congrArg (List.map Prod.fst) h;simpa[List.map_map,Function.comp_def,Eu]using this
 have h2:=hs.2.2;grind
theorem CQ.lt(h:CQ w b m):b<w.heap.size:=by grind [CQ]
def CQ.find(hs:Stamped es clock)(he:es.toList.map (λe=>(e.key,e.val))=m.map Eu)(x:ByteArray):(Instr.findNow .string (cS x) es.toList 0=cP cX/\(∀y∈m,y.1≠x)/\∀y∈es.toList,y.key≠ cS x)\/∃j e,Instr.findNow .string (cS x) es.toList 0=cP (cP (j,Kn (getM m x)))/\es.toList[j]? =cP e/\e.key=cS x/\e.val=Kn (getM m x)/\m[j]? =cP (x,getM m x)/\Wu m x=cC:=by
 rcases findNow_spec (LV x) es.toList 0 (CQ.MS he)with⟨h1,h2⟩|⟨j,e,h1,h2,h3⟩
 ·refine .inl ⟨h1,λy hy e=>?_,h2⟩;have:Eu y∈es.toList.map (λe=>(e.key,e.val)):=he▸List.mem_map.2 ⟨y,hy,rfl⟩;obtain⟨z,hz,ez⟩:=List.mem_map.1 this;simp only[Eu,Prod.mk.injEq]at ez;exact h2 z hz (by rw[ez.1,e])
 ·have:(es.toList.map (λe=>(e.key,e.val)))[j]? =cP (e.key,e.val):=by simp[h2]
  rw[he,List.getElem?_map]at this
  cases hm:m[j]? with
  |none=>rw[hm]at this;cases this
  |some y=>
   rw[hm]at this;have ey:Eu y=(e.key,e.val):=(by simpa using this);simp only[Eu,Prod.mk.injEq]at ey;rw[h3]at ey;have hx:y.1=x:=(by simpa using ey.1);subst hx;have hg:=V6 (CQ.aH hs he) (show m[j]? =cP (y.1,y.2)from hm);rw[hg.1];rw[<-ey.2]at h1;exact .inr ⟨j,e,by simpa using h1,h2,h3,ey.2.symm,hm,hg.2⟩
theorem AB8(hm:P.underlying t=cP (.map kt et))(hk:P.underlying kt=cP .string)(hz:∀u:World,(zeroValue et).run P u=.ok (Kn (Bv,0)) u)(h:CQ w b m)(x:ByteArray):(Instr.lookup t (.map (cP b)) (cS x) cA).run P w=.ok (Kn (getM m x)) w:=by
 obtain⟨es,clock,hb,hs,he⟩:=h;rcases CQ.find hs he x with⟨h1,h2,_⟩|⟨j,e,h1,h2,h3,h4,h5,h6⟩
 ·rw[(lS h2).1];simp[Instr.lookup,run_underlying hm,MapKept.run_getObj_map hb,MapKept.run_checkKey hk (LV x),MapKept.run_findKey hk h1,hz,Result.andThen]
 ·simp[Instr.lookup,run_underlying hm,MapKept.run_getObj_map hb,MapKept.run_checkKey hk (LV x),MapKept.run_findKey hk h1,Result.andThen]
theorem ABl(hm:P.underlying t=cP (.map kt et))(hk:P.underlying kt=cP .string)(hz:∀u:World,(zeroValue et).run P u=.ok (Kn (Bv,0)) u)(h:CQ w b m)(x:ByteArray):(Instr.lookup t (.map (cP b)) (cS x) cC).run P w=.ok (.tuple #[Kn (getM m x),cE (Wu m x)]) w:=by
 obtain⟨es,clock,hb,hs,he⟩:=h;rcases CQ.find hs he x with⟨h1,h2,_⟩|⟨j,e,h1,h2,h3,h4,h5,h6⟩
 ·rw[(lS h2).1,(lS h2).2];simp[Instr.lookup,run_underlying hm,MapKept.run_getObj_map hb,MapKept.run_checkKey hk (LV x),MapKept.run_findKey hk h1,hz,Result.andThen]
 ·rw[h6];simp[Instr.lookup,run_underlying hm,MapKept.run_getObj_map hb,MapKept.run_checkKey hk (LV x),MapKept.run_findKey hk h1,Result.andThen]
def Dx(w:World)(b:Nat)(o:Obj):World:={w with heap:=w.heap.setIfInBounds b o}
theorem Hz(w:World)(b:Nat)(o:Obj):w.grownBy (Dx w b o) (cP b):=
 ⟨rfl,rfl,rfl,by simp[Dx],λk _ hne=>by
  have:b≠k:=λe=>hne (by rw[e])
  simp[Dx,this]⟩
def KW{w:World}{b:Nat}{o o':Obj}(h:w.heap[b]? =cP o):(Dx w b o').heap[b]? =cP o':=(MapKept.heap_set h).1
theorem I4{w:World}{b k:Nat}(o:Obj)(h:k≠b):(Dx w b o).heap[k]? =w.heap[k]? :=by grind [Dx]
theorem CQ.other{w:World}{b:Nat}{m:Vm}(h:CQ w b m)(he:w'.heap[b]? =w.heap[b]?):CQ w' b m:=by grind [CQ]
theorem Ua{m:Vm}{j:Nat}{e:MapEntry}{x:ByteArray}{v:Vu}(he:es.toList.map (λe=>(e.key,e.val))=m.map Eu)(hj:es.toList[j]? =cP e)(hk:e.key=cS x)(f:MapEntry->MapEntry)(hf:∀e,e.key=cS x->((f e).key,(f e).val)=(cS x,Kn v)):(es.modify j f).toList.map (λe=>(e.key,e.val))=(m.set j (x,v)).map Eu:=by
 rw[Array.toList_modify];apply List.ext_getElem?;intro i;rw[List.getElem?_map,List.getElem?_map,List.getElem?_modify,List.getElem?_set];have hi:(es.toList.map (λe=>(e.key,e.val)))[i]? =(m.map Eu)[i]? :=by rw[he]
 rw[List.getElem?_map,List.getElem?_map]at hi;by_cases hji:j=i
 ·subst hji;rw[hj]at hi;have:j<m.length:=by
   cases hm:m[j]? with
   |none=>rw[hm]at hi;cases hi
   |some y=>exact(List.getElem?_eq_some_iff.1 hm).1
  have e1:=hf e hk;simp only[hj,this,if_true,Option.map_eq_map,Option.map_some,Eu];exact congrArg cP e1
 grind
theorem Mi(hm:P.underlying t=cP (.map kt et))(hk:P.underlying kt=cP .string)(h:CQ w b m)(x:ByteArray)(v:Vu):∃o2,(Instr.mapUpdate t (.map (cP b)) (cS x) (Kn v)).run P w=.ok () (Dx w b o2)/\CQ (Dx w b o2) b (Ei m x v):=by
 obtain⟨es,clock,hb,hs,he⟩:=h;rcases CQ.find hs he x with⟨h1,h2,h2'⟩|⟨j,e,h1,h2,h3,h4,h5,h6⟩
 ·refine⟨.map (es.push ⟨cS x,Kn v,clock⟩) (clock+1),?_,_,_,KW hb,stamped_push hs h2',?_⟩
  ·simp[Instr.mapUpdate,run_underlying hm,MapKept.run_getObj_map hb,MapKept.run_checkKey hk (LV x),MapKept.run_findKey hk h1,MapKept.run_setObj_map _ hb,Result.andThen,Dx]
  ·rw[Vn h2];simp[he,Eu]
 ·have hj:es[j]? =cP e:=by simpa using h2
  refine⟨.map (es.modify j (λe=>{e with key:=cS x,val:=Kn v})) clock,?_,_,_,KW hb,?_,?_⟩
  ·simp[Instr.mapUpdate,run_underlying hm,MapKept.run_getObj_map hb,MapKept.run_checkKey hk (LV x),MapKept.run_findKey hk h1,hj,h3,MapKept.run_keyThatStays (LV x),MapKept.run_setObj_map _ hb,Result.andThen,Dx]
  ·refine stamped_modify hs j (λe=>{e with key:=cS x,val:=Kn v}) (λ_ _=>rfl) (λe' _ he'=>?_);rw[hj]at he';injection he' with he';subst he';exact h3.symm
  ·rw[Vo (CQ.aH hs he) h5];exact Ua he h2 h3 _ (λ_ _=>rfl)
def CQ.made{w:World}:CQ (w.alloc (.map #[] clock)) w.heap.size []:=⟨#[],clock,(MapKept.heap_alloc w _).1,stamped_empty clock,rfl⟩
def CQ.copy{w:World}(hb:w.heap[b]? =cP (.map es clock))(h:CQ w b m):CQ (w.alloc (.map es clock)) w.heap.size m:=by
 obtain⟨es',clock',hb',hs,he⟩:=h;rw[hb]at hb';injection hb' with hb';injection hb' with h1 h2;subst h1 h2;exact⟨es,clock,(MapKept.heap_alloc w _).1,hs,he⟩
end
end
end Go.Proofs.YtlffomedflegdaaGreatDoor
