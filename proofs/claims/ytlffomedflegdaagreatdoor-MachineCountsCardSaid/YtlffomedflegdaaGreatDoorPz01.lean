/- Part 1 of 49 of the proof: See, Ser. -/
import Derived.Deep.Slices
import Derived.Deep.Fields
import Derived.Lib.SmallJoins
import Derived.WideShapes
import Derived.SizedLaws
import Derived.OrdersHeld
import Derived.Deep.RegionHeld
import Derived.Test.YtlffomedflegdaaGreatDoorPz00
set_option linter.all false
set_option maxHeartbeats 16000000
set_option maxRecDepth 100000
namespace Go.Proofs.YtlffomedflegdaaGreatDoor
open Go.RowKit
variable {L:Nat->Bool}{P:Program}{a a1:Act}{e:TypeId}{i j n sz:Nat}{md:Region.Mode}{ops:Array Oper}{rest:List Oper}{v:Value}{w:World}{α:Type}
section
open Go.ChangeShapes Go.WideShapes Go.Deep
def Rd{H:Type}(enc:TypeId×Value->H)(P:Program)(w:World)(base:Nat)(spare:Nat->Bool)(held:Bool)(t:TypeId)(cs:List Value):Prop:=
 ∃fuel x,DataW.trod enc P w base spare held fuel t cs=some x/\∀k∈DataW.weights P t x.1,k<=140737488351232
theorem Im{H:Type}{k:Nat}:∀{l:List (DataW H)} {d:DataW H},d∈l->k∈d.weights P e->k∈DataW.weightsAll P e l
 |d0::r,d,hd,hk=>by
  simp only[DataW.weightsAll,List.mem_append];rcases List.mem_cons.1 hd with rfl|hd
  ·exact .inl hk
  ·exact .inr (Im hd hk)
theorem VF{Q:Nat->α->Prop}(h:∀i,i<n->∃x,Q i x):∃l:List α,l.length=n/\∀(i:Nat) x,l[i]? =some x->Q i x:=by
 induction n with
 |zero=>exact⟨[],rfl,fun i x e=>by simp at e⟩
 |succ n ih=>
  obtain⟨l,hl,hq⟩:=ih fun i hi=>h i (by omega);obtain⟨x,hx⟩:=h n (by omega);refine⟨l++[x],by simp[hl],fun i y e=>?_⟩;rcases Nat.lt_or_ge i l.length with hi|hi
  ·exact hq i y (by rwa[List.getElem?_append_left hi]at e)
  ·rw[List.getElem?_append_right hi]at e;have h0:i-l.length=0:=by
    rcases Nat.eq_zero_or_pos (i-l.length)with h0|h0
    ·exact h0
    ·rw[List.getElem?_eq_none (by simp;omega)]at e;cases e
   rw[h0]at e;have hxy:x=y:=(by simpa using e);subst hxy;have:i=n:=(by omega);rw[this];exact hx
def Row{α:Type}(E:World->Addr->α->Prop)(sz:Nat)(w:World)(v:Value)(l:List α):Prop:=
 ∃p cu,v=.slice p l.length cu/\(p=none->l.length=0/\cu=0)/\(l.length<=140737488351232/\l.length<=cu)/\∀(i:Nat) x,l[i]? =some x->∃a,p=some a/\E w (a.add (i*sz)) x
theorem Row.map{E:World->Addr->α->Prop}{w':World}{l:List α}(h:Row E sz w v l)(hE:∀a x,E w a x->E w' a x):Row E sz w' v l:=by grind [Row]
theorem Row.slice{E:World->Addr->α->Prop}{l:List α}(h:Row E sz w v l):∃p cu,v=.slice p l.length cu:=by grind [Row]
section
variable {H : Type} {enc : TypeId × Value -> H} {P : Program} {w : World} {base : Nat} {spare : Nat -> Bool} {held : Bool} {t : TypeId} {cs : List Value}
theorem Rd.str(ht:P.underlying t=some .string)(h:Rd enc P w base spare held t cs):∃s:ByteArray,cs=[.string s]/\s.size<=140737488351232:=by
 obtain⟨f,x,h,hk⟩:=h;obtain⟨s,h1,rfl,h3⟩:=DataW.trod_string ht h;refine⟨s,h1,?_⟩;have:=hk s.data.toList.length (by simp[DataW.weights]);simpa using this
theorem Rd.int{k:IntKind}(ht:P.underlying t=some (.int k))(h:Rd enc P w base spare held t cs):∃n,cs=[.int k n]/\(Lit.int k n).wf=true:=by
 obtain⟨f,x,h,hk⟩:=h;obtain⟨s,h1,-,h3⟩:=DataW.trod_int ht h;exact⟨s,h1,h3⟩
theorem Rd.bool(ht:P.underlying t=some .bool)(h:Rd enc P w base spare held t cs):∃b,cs=[.bool b]:=by
 obtain⟨f,x,h,hk⟩:=h;obtain⟨s,h1,-⟩:=DataW.trod_bool ht h;exact⟨s,h1⟩
theorem Rd.struct{fs:Array Field}(ht:P.underlying t=some (.struct fs))(h:Rd enc P w base spare held t cs):cs.length=P.cellsOf t/\∀(i:Nat) (f:Field),fs[i]? =some f->Rd enc P w base spare held f.type ((cs.drop f.offset).take (P.cellsOf f.type)):=by
 obtain⟨n,x,h,hk⟩:=h;obtain⟨xs,m,-,rfl,hlen,hxl,hf⟩:=DataW.trod_struct ht h;refine⟨hlen,fun i f hi=>?_⟩;have hil:i<fs.size:=(Array.getElem?_eq_some_iff.1 hi).1;have h1:=hf i f hi;rw[List.getElem?_eq_getElem (by omega)]at h1;refine⟨m,_,h1,fun k hk1=>hk k ?_⟩;simp only[DataW.weights,ht];exact DataW.weights_mem_each (j:=i) (t:=f.type) (d:=(xs[i]'(by omega)).1) (by simp[hi]) (by simp[show i<xs.length by omega]) k hk1
theorem Rd.slice(ht:P.underlying t=some (.slice e))(hby:1<=P.bytesOf e)(h:Rd enc P w base spare held t cs):∃p len cap,cs=[.slice p len cap]/\(p=none->len=0/\cap=0)/\(len<=140737488351232/\len<=cap)/\∀a,p=some a->∀i,i<len->∃cs',cs'.length=P.cellsOf e/\(∀j,j<P.cellsOf e->w.cell? ((a.add (i*P.cellsOf e)).add j)=cs'[j]?)/\Rd enc P w base spare held e cs':=by
 obtain⟨n,x,h,hk⟩:=h;rcases open_slice ht h with⟨rfl,-⟩|⟨a,len,cap,m,n,D,Pl,rfl,hb,hl,hm,hmm,rfl,hi⟩
 ·exact⟨none,0,0,rfl,fun _=>⟨rfl,rfl⟩,⟨AY,AQ⟩,fun a e=>by cases e⟩
 ·have hlm:len<=m:=by rw[hmm];split<;>omega
  refine⟨some a,len,cap,rfl,(fun e=>by cases e),⟨?_,hl⟩,fun a' ea i hil=>?_⟩
  ·have:=hk ((len+(m-len))*P.bytesOf e) (by simp[DataW.weights,ht]);have h2:len*1<=(len+(m-len))*P.bytesOf e:=Nat.mul_le_mul (by omega) hby;omega
  ·obtain rfl:a=a':=(by simpa using ea);obtain⟨cs',h1,h2⟩:=hi i (by omega);obtain⟨-,h3,h4⟩:=World.cells?_some h1;refine⟨cs',h3,h4,n,_,h2,fun k hk1=>hk k ?_⟩;simp only[DataW.weights,ht,List.mem_cons,List.mem_append];exact .inr (.inl (Im (List.mem_map.2 ⟨i,List.mem_range.2 hil,rfl⟩) hk1))
theorem Rd.row{E:World->Addr->α->Prop}(ht:P.underlying t=some (.slice e))(hby:1<=P.bytesOf e)(hsz:P.cellsOf e=sz)(h:Rd enc P w base spare held t [v])(hE:∀(a:Addr) (cs:List Value),Rd enc P w base spare held e cs->cs.length=sz->(∀j,j<sz->w.cell? (a.add j)=cs[j]?)->∃x,E w a x):∃l,Row E sz w v l:=by
 obtain⟨p,len,cap,hv,hp,hl,hi⟩:=h.slice ht hby;obtain rfl:v=.slice p len cap:=by simpa using hv
 have each:∀i,i<len->∃x,∃a,p=some a/\E w (a.add (i*sz)) x:=fun i hil=>by
  cases p with
  |none=>have:=(hp rfl).1;omega
  |some a=>
   obtain⟨cs',h1,h2,h3⟩:=hi a rfl i hil;rw[hsz]at h1 h2;obtain⟨x,hx⟩:=hE _ _ h3 h1 h2;exact⟨x,a,rfl,hx⟩
 obtain⟨l,hl2,hq⟩:=VF each;subst hl2;exact⟨l,p,cap,rfl,hp,hl,hq⟩
end
end
section
def upd(L:Nat->Bool)(i:Nat):Nat->Bool:=fun j=>j==i||L j
def waits(md:Region.Mode)(ops:Array Oper)(j i:Nat):Bool:=match ops[j]? with
 |none=>false
 |some o=>o.after.any fun e=>Region.binds md e&&e.on==i
def Right(md:Region.Mode)(ops:Array Oper)(L:Nat->Bool):Prop:=∀j i,waits md ops j i=true->L i=false->L j=false
def Ab(P:Program)(md:Region.Mode)(ops:Array Oper)(Q:Exit->Act->World->Prop)(S:(Nat->Bool)->World->Prop):List Oper->Nat->Act->Prop
 | [],_,a=>∀w,S (fun j=>decide (j<ops.size)) w->Q .normal a w
 |o::rest,i,a=>∃v,
  ((Region.wanted o (yielded ops a.tmps)=true/\∀(L:Nat->Bool) (w:World),S L w->L i=false->Right md ops L->(∀j,waits md ops i j=true->L j=true)->
    o.wp P a w (fun a' w'=>a'=a.put o.dst v/\S (upd L i) w') (fun _ _ _=>False))\/
   (Region.wanted o (yielded ops a.tmps)=false/\v=undef/\∀(L:Nat->Bool) (w:World),S L w->L i=false->S (upd L i) w))/\
  Ab P md ops Q S rest (i+1) (a.put o.dst v)
def OC(md:Region.Mode)(ops:Array Oper):Bool:=
 Region.noSelect ops&& (List.range ops.size).all fun i=>match ops[i]? with
  |none=>true
  |some oi=>oi.after.all (fun e=> !Region.binds md e||decide (e.on<i))&&
   (List.range ops.size).all fun j=>match ops[j]? with
    |none=>true
    |some oj=>j==i||oi.after.any (fun e=>Region.binds md e&&e.on==j)||oj.after.any (fun e=>Region.binds md e&&e.on==i)||oi.apart ops oj
section
variable {P : Program} {md : Region.Mode} {ops : Array Oper} {Q : Exit -> Act -> World -> Prop} {S : (Nat -> Bool) -> World -> Prop}
def puts(ops:Array Oper)(V:Nat->Value)(L:Nat->Bool)(a:Act):Nat->Act
 |0=>a
 |n+1=>if L n then(puts ops V L a n).put ((ops[n]?).bind (·.dst)) (V n)else puts ops V L a n
theorem Ec{V:Nat->Value}(h:L n=true):puts ops V L a (n+1)=(puts ops V L a n).put ((ops[n]?).bind (·.dst)) (V n):=if_pos h
theorem Ij{V:Nat->Value}(h:L n=false):puts ops V L a (n+1)=puts ops V L a n:=if_neg (by simp[h])
theorem EX(V:Nat->Value)(L:Nat->Bool)(a:Act)(n:Nat):(puts ops V L a n).tmps.size=a.tmps.size:=by
 induction n with
 |zero=>rfl
 |succ n ih=>
  unfold puts;split
  ·cases(ops[n]?).bind (·.dst)<;>simp[Act.put,ih]
  ·exact ih
theorem Oe(V:Nat->Value)(L L':Nat->Bool)(a:Act)(t:Nat)(n:Nat)(h:∀j,j<n->(ops[j]?).bind (·.dst)=some t->L j=L' j):(puts ops V L a n).tmps[t]? =(puts ops V L' a n).tmps[t]? :=by
 induction n with
 |zero=>rfl
 |succ n ih=>
  have ih:=ih fun j hj=>h j (by omega);unfold puts;by_cases hd:(ops[n]?).bind (·.dst)=some t
  ·rw[h n (by omega) hd];split
   ·rw[hd];simp only[Act.put];by_cases ht:t<a.tmps.size
    ·rw[Array.getElem?_setIfInBounds_self,Array.getElem?_setIfInBounds_self,EX,EX]
    ·rw[Array.getElem?_eq_none (by simp[EX];omega),Array.getElem?_eq_none (by simp[EX];omega)]
   ·exact ih
  ·have hne:∀(b:Act) (v:Value),(b.put ((ops[n]?).bind (·.dst)) v).tmps[t]? =b.tmps[t]? :=fun b v=>by
    cases hc:(ops[n]?).bind (·.dst)with
    |none=>rfl
    |some d=>
     have:d≠t:=fun e=>hd (by rw[hc,e]);simp[Act.put,Array.getElem?_setIfInBounds_ne this]
   split<;>split<;>simp[hne,ih]
theorem CW(V:Nat->Value)(L:Nat->Bool)(a:Act)(m n:Nat)(hm:m<=n)(h:∀j,m<=j->j<n->L j=false):puts ops V L a n=puts ops V L a m:=by
 induction n with
 |zero=>
  have:m=0:=by omega
  subst this;rfl
 |succ n ih=>
  by_cases e:m=n+1
  ·subst e;rfl
  ·rw[puts,h n (by omega) (by omega)];exact ih (by omega) fun j h1 h2=>h j h1 (by omega)
theorem D6(V:Nat->Value)(L L':Nat->Bool)(a:Act)(n:Nat)(h:∀j,j<n->L j=L' j):puts ops V L a n=puts ops V L' a n:=by
 induction n with
 |zero=>rfl
 |succ n ih=>unfold puts;rw[ih fun j hj=>h j (by omega),h n (by omega)]
theorem PE(o:Oper)(hs:∀cs b,o.op≠ .select cs b)(a a':Act)(h:∀t∈o.looksAt ops,a'.tmps[t]? =a.tmps[t]?):execOp a'.eval o=execOp a.eval o:=
 execOp_congr o hs fun x hx=>by
  cases x with
  |tmp t=>
   have:=h t (List.mem_append_left _ (List.mem_filterMap.2 ⟨.tmp t,by simpa using hx,rfl⟩))
   simp[Act.eval,this]
  |_=>rfl
theorem K7(o:Oper)(a a':Act)(h:∀t∈o.looksAt ops,a'.tmps[t]? =a.tmps[t]?):Region.wanted o (yielded ops a'.tmps)=Region.wanted o (yielded ops a.tmps):=by
 unfold Region.wanted
 cases hg:o.guard with
 |none=>rfl
 |some gw=>
  obtain⟨g,want⟩:=gw;have hy:yielded ops a'.tmps g=yielded ops a.tmps g:=by
   unfold yielded
   cases ht:(ops[g]?).bind (·.dst)with
   |none=>rfl
   |some t=>
    have:=h t (by simp[Oper.looksAt,hg,ht]);simp[this]
  simp only[hy]
theorem F8{b:Act}{d:Option Tmp}{u:Value}(hs:a.tmps.size=b.tmps.size)(h:a.put d u=a.put d v):b.put d u=b.put d v:=by
 cases d with
 |none=>rfl
 |some d=>
  simp only[Act.put]at h⊢;have ht:a.tmps.setIfInBounds d u=a.tmps.setIfInBounds d v:=congrArg Act.tmps h;by_cases hd:d<a.tmps.size
  ·have h1:(a.tmps.setIfInBounds d u)[d]? =(a.tmps.setIfInBounds d v)[d]? :=(by rw[ht]);rw[Array.getElem?_setIfInBounds_self,Array.getElem?_setIfInBounds_self,if_pos hd,if_pos hd]at h1;rw[Option.some.inj h1]
  ·have hd':b.tmps.size<=d:=Nat.le_of_not_lt (hs▸hd);congr 1;rw[Array.setIfInBounds_eq_of_size_le hd',Array.setIfInBounds_eq_of_size_le hd']
theorem jZ{o:Oper}{a':Act}{S1:World->Prop}{K:Act->World->Prop}(he:execOp a'.eval o=execOp a.eval o)(hs:a.tmps.size=a'.tmps.size)(h:o.wp P a w (fun a1 w'=>a1=a.put o.dst v/\S1 w') (fun _ _ _=>False)) (hK:∀w',S1 w'->K (a'.put o.dst v) w'):o.wp P a' w K Q:=by
 unfold Oper.wp at*;rw[he];generalize(execOp a.eval o).run P w=r at*
 cases r with
 |ok n w'=>
  cases n<;>simp only[Oper.upon]at h⊢
  case value u=>rw[F8 hs h.1];exact hK _ h.2
  case skip=>rw[F8 hs h.1];exact hK _ h.2
  case defer d=>
   have h1:=congrArg (fun x:Act=>x.defers.length) h.1;exfalso;cases hd:o.dst<;>simp[Act.put,hd]at h1
  case enter f args=>
   refine Calls.mono h fun e w'' he=>?_
   cases e with
   |returned u=>simp only at he⊢;rw[F8 hs he.1];exact hK _ he.2
   |panicked c=>exact he.elim
   |outgrown=>
    obtain⟨_,_,hf⟩:=he;exact hf.elim
  case row row args=>exact Rows.mono h fun u w'' he=>by rw[F8 hs he.1];exact hK _ he.2
 |halt x w'=>
  cases x<;>simp only[Oper.upon]at h⊢
theorem bT:∀(l:List Oper) (i:Nat) (a:Act),Ab P md ops Q S l i a->(∀k,k<l.length->ops[i+k]? =l[k]?)->∃V:Nat->Value,(∀k o,l[k]? =some o->((Region.wanted o (yielded ops (puts ops V (fun j=>decide (i<=j)) a (i+k)).tmps)=true/\∀(L:Nat->Bool) (w:World),S L w->L (i+k)=false->Right md ops L->(∀j,waits md ops (i+k) j=true->L j=true)->o.wp P (puts ops V (fun j=>decide (i<=j)) a (i+k)) w (fun a' w'=>a'=(puts ops V (fun j=>decide (i<=j)) a (i+k)).put o.dst (V (i+k))/\S (upd L (i+k)) w') (fun _ _ _=>False))\/(Region.wanted o (yielded ops (puts ops V (fun j=>decide (i<=j)) a (i+k)).tmps)=false/\V (i+k)=undef/\∀(L:Nat->Bool) (w:World),S L w->L (i+k)=false->S (upd L (i+k)) w)))/\∀w,S (fun j=>decide (j<ops.size)) w->Q .normal (puts ops V (fun j=>decide (i<=j)) a (i+l.length)) w:=by
 intro l
 induction l with
 |nil=>
  intro i a h _;refine⟨fun _=>undef,fun k o hk=>(by simp at hk),fun w hw=>?_⟩;rw[CW _ _ a 0 (i+([]:List Oper).length) (by omega) (fun j h1 h2=>by simp at h2⊢;omega)]
  exact h w hw
 |cons o rest ih=>
  intro i a h hops;obtain⟨v,h1,h2⟩:=h
  obtain⟨V,hV,hend⟩:=ih (i+1) (a.put o.dst v) h2 (fun k hk=>by
   have:=hops (k+1) (by simpa using hk)
   rw[show i+1+k=i+(k+1) by omega,this];rfl)
  have ho:ops[i]? =some o:=by have:=hops 0 (by simp);simpa using this
  have hput:∀n,i+1<=n->puts ops (fun j=>if j=i then v else V j) (fun j=>decide (i<=j)) a n=puts ops V (fun j=>decide (i+1<=j)) (a.put o.dst v) n:=by
   intro n hn
   induction n with
   |zero=>omega
   |succ n ihn=>
    by_cases e:n=i
    ·subst e;rw[Ec (by simp),ho];rw[CW _ _ a 0 n (by omega) (fun j _ h2=>by simp;omega),CW _ _ (a.put o.dst v) 0 (n+1) (by omega) (fun j _ h2=>by simp;omega)];simp[puts]
    ·rw[Ec (by simp;omega),Ec (by simp;omega),ihn (by omega)];simp[e]
  refine⟨fun j=>if j=i then v else V j,fun k ok hk=>?_,fun w hw=>?_⟩
  ·cases k with
   |zero=>
    have:ok=o:=(by simpa using hk.symm);subst this;have hp:puts ops (fun j=>if j=i then v else V j) (fun j=>decide (i<=j)) a (i+0)=a:=CW _ _ a 0 _ (by omega) (fun j _ h2=>by simp;omega);rw[hp]
    simpa using h1
   |succ k=>
    have hk':rest[k]? =some ok:=(by simpa using hk);have:=hV k ok hk';rw[show i+1+k=i+(k+1) by omega]at this;rw[hput _ (by omega)];have hne:i+(k+1)≠i:=(by omega);simp only[hne,if_false];exact this
  ·rw[hput _ (by simp)];have:=hend w hw;rw[show i+1+rest.length=i+(o::rest).length by simp;omega]at this;exact this
theorem NA(h:OC md ops=true):(∀(j:Nat) (o:Oper) cs b,ops[j]? =some o->o.op≠ .select cs b)/\∀i oi,ops[i]? =some oi->(∀e∈oi.after,Region.binds md e=true->e.on<i)/\∀j oj,ops[j]? =some oj->j≠i->(∃e∈oi.after,Region.binds md e=true/\e.on=j)\/(∃e∈oj.after,Region.binds md e=true/\e.on=i)\/oi.apart ops oj=true:=by
 unfold OC at h;rw[Bool.and_eq_true]at h;refine⟨Region.noSelect_spec h.1,fun i oi hi=>?_⟩;have hlt:i<ops.size:=(Array.getElem?_eq_some_iff.1 hi).1;have h2:=List.all_eq_true.1 h.2 i (List.mem_range.2 hlt);simp only[hi,Bool.and_eq_true]at h2;refine⟨fun e he hb=>?_,fun j oj hj hne=>?_⟩
 ·have:=Array.all_eq_true_iff_forall_mem.1 h2.1 e he;simpa[hb]using this
 grind
theorem Rj(hsp:∀i oi,ops[i]? =some oi->∀j oj,ops[j]? =some oj->j≠i->(∃e∈oi.after,Region.binds md e=true/\e.on=j)\/(∃e∈oj.after,Region.binds md e=true/\e.on=i)\/oi.apart ops oj=true)(hup:∀i oi,ops[i]? =some oi->∀e∈oi.after,Region.binds md e=true->e.on<i)(V:Nat->Value) (L:Nat->Bool) (a:Act) (i:Nat) (o:Oper) (ho:ops[i]? =some o) (hi:L i=false) (hclosed:∀j oj,ops[j]? =some oj->L j=true->∀e∈oj.after,Region.binds md e=true->L e.on=true):∀n,i<n->(puts ops V L a n).put o.dst (V i)=puts ops V (upd L i) a n:=by
 intro n
 induction n with
 |zero=>intro h;omega
 |succ n ih=>
  intro hn;by_cases e:n=i
  ·subst e;rw[Ij hi,Ec (L:=upd L n) (by simp[upd]),ho];rw[D6 V (upd L n) L a n (fun j hj=>by simp[upd];omega)];rfl
  ·have ih:=ih (by omega);by_cases hL:L n=true
   ·rw[Ec hL,Ec (L:=upd L i) (by simp[upd,hL]),<-ih]
    cases hon:ops[n]? with
    |none=>rfl
    |some on=>
     refine Act.put_comm _ _ _ fun d hd hd'=>?_;rcases hsp i o ho n on hon e with⟨ed,he,hb,heq⟩|⟨ed,he,hb,heq⟩|hap
     ·have:=hup i o ho ed he hb;omega
     ·have:=hclosed n on hon hL ed he hb;rw[heq,hi]at this;cases this
     ·exact(Oper.apart_spec hap).2.1 d hd' hd
   ·have hL:L n=false:=(by simpa using hL);rw[Ij hL,Ij (L:=upd L i) (by simp[upd,hL,e]),ih]
theorem Js{listed:Array Bool}(hj:j∈Region.ready md ops listed):listed.getD j true=false/\∃o,ops[j]? =some o/\∀e∈o.after,Region.binds md e=true->listed.getD e.on false=true:=mem_ready.1 hj
def left(L:Nat->Bool):Nat->Nat
 |0=>0
 |n+1=>left L n+if L n then 0 else 1
theorem Rx(L:Nat->Bool)(i:Nat)(hi:L i=false):∀n,(n<=i->left (upd L i) n=left L n)/\(i<n->left (upd L i) n+1=left L n):=by
 intro n
 induction n with
 |zero=>exact⟨fun _=>rfl,fun h=>by omega⟩
 |succ n ih=>
  refine⟨fun h=>?_,fun h=>?_⟩
  ·have hne:n≠i:=(by omega);simp only[left,ih.1 (by omega),upd,beq_iff_eq,hne,Bool.or_eq_true,false_or]
  ·by_cases e:n=i
   ·subst e;simp[left,ih.1 (by omega),upd,hi]
   ·simp only[left,upd,beq_iff_eq,e,Bool.or_eq_true,false_or];have:=ih.2 (by omega);omega
theorem Gw(L:Nat->Bool):∀n,left L n=0->∀j,j<n->L j=true:=by
 intro n
 induction n with
 |zero=>intro _ j hj;omega
 |succ n ih=>
  intro h j hj;unfold left at h;by_cases e:j=n
  ·subst e
   cases hL:L j with
   |true=>rfl
   |false=>simp[hL]at h
  ·exact ih (by omega) j (by omega)
theorem Ou(L:Nat->Bool):∀n,0<left L n->∃j,j<n/\L j=false/\∀k,k<j->L k=true:=by
 intro n
 induction n with
 |zero=>intro h;simp[left]at h
 |succ n ih=>
  intro h;by_cases h0:0<left L n
  ·obtain⟨j,hj,h1,h2⟩:=ih h0;exact⟨j,by omega,h1,h2⟩
  ·have h0:left L n=0:=(by omega);have hall:=Gw L n h0
   cases hL:L n with
   |false=>exact⟨n,by omega,hL,hall⟩
   |true=>simp[left,h0,hL]at h
theorem getD_upd(listed:Array Bool)(i:Nat)(hi:i<listed.size):(fun j=>(listed.setIfInBounds i true).getD j false)=upd (fun j=>listed.getD j false) i:=by
 funext j;by_cases e:i=j
 ·subst e;simp[upd,hi]
 ·have e':¬j=i:=fun h=>e h.symm;rw[getD_set_ne false e];simp[upd,e']
theorem getD_both(listed:Array Bool)(j:Nat)(h:j<listed.size)(d d':Bool):listed.getD j d=listed.getD j d':=by simp[h]
theorem Hy(listed:Array Bool)(n:Nat)(hsz:listed.size=n)(hall:∀j,j<n->listed.getD j false=true):(fun j=>listed.getD j false)=fun j=>decide (j<n):=by grind
theorem Vz(L:Nat->Bool):∀n,left L n<=n:=by
 intro n
 induction n with
 |zero=>exact AQ
 |succ n ih=>unfold left;split<;>omega
theorem Ho(h:waits md ops j i=true):∃o,ops[j]? =some o/\∃e∈o.after,Region.binds md e=true/\e.on=i:=by grind [waits]
theorem jm(hok:OC md ops=true)(h:Ab P md ops Q S ops.toList 0 a)(hw:S (fun _=>false) w):wpAny P md ops Q ops.size (Array.replicate ops.size false) a w:=by
 obtain⟨V,hV,hend⟩:=bT ops.toList 0 a h (fun k _=>by simp);obtain⟨hsel,hsp⟩:=NA hok;have hL0:(fun j=>decide (0<=j))=fun _:Nat=>true:=by funext j;simp
 rw[hL0]at hV hend;have main:∀(fuel:Nat) (listed:Array Bool) (w:World),listed.size=ops.size->left (fun j=>listed.getD j false) ops.size<=fuel->
   (∀j oj,ops[j]? =some oj->listed.getD j false=true->∀e∈oj.after,Region.binds md e=true->listed.getD e.on false=true)->
   S (fun j=>listed.getD j false) w->wpAny P md ops Q fuel listed (puts ops V (fun j=>listed.getD j false) a ops.size) w:=by
  intro fuel
  induction fuel with
  |zero=>
   intro listed w hsz hleft hcl hS;have hall:=Gw _ _ (Nat.le_zero.1 hleft);have UC:Region.ready md ops listed=[]:=by
    rw[List.eq_nil_iff_forall_not_mem];intro j hj;obtain⟨h0,o,ho,_⟩:=Js hj;have hlt:j<ops.size:=(Array.getElem?_eq_some_iff.1 ho).1;have h1:=hall j hlt;rw[getD_both listed j (by omega) false true,h0]at h1;cases h1
   refine⟨UC,?_⟩;have pX:=Hy listed ops.size hsz hall;rw[D6 V _ (fun _=>true) a ops.size (fun j hj=>hall j hj)];rw[pX]at hS
   simpa using hend w hS
  |succ fuel ih=>
   intro listed w hsz hleft hcl hS;refine⟨fun hr=>?_,fun i hi=>?_⟩
   ·
    by_cases h0:left (fun j=>listed.getD j false) ops.size=0
    ·have hall:=Gw _ _ h0;have pX:=Hy listed ops.size hsz hall;rw[D6 V _ (fun _=>true) a ops.size (fun j hj=>hall j hj)];rw[pX]at hS;simpa using hend w hS
    ·exfalso;obtain⟨j,hj,hno,QH⟩:=Ou _ _ (Nat.pos_of_ne_zero h0);obtain⟨o,ho⟩:∃o,ops[j]? =some o:=⟨ops[j],by simp[hj]⟩;have:j∈Region.ready md ops listed:=mem_ready.2 ⟨by rw[getD_both listed j (by omega) true false];exact hno,o,ho,fun e he hb=>QH _ ((hsp j o ho).1 e he hb)⟩;rw[hr]at this;cases this
   ·obtain⟨h0,o,ho,MH⟩:=Js hi;have hlt:i<ops.size:=(Array.getElem?_eq_some_iff.1 ho).1;have hno:listed.getD i false=false:=(by rw[getD_both listed i (by omega) false true];exact h0);have Mv:∀j oj,ops[j]? =some oj->(listed.setIfInBounds i true).getD j false=true->∀e∈oj.after,Region.binds md e=true->(listed.setIfInBounds i true).getD e.on false=true:=by
     intro j oj hj hl e he hb;by_cases hji:j=i
     ·subst hji;rw[ho]at hj;cases hj;exact getD_set_true (MH e he hb)
     ·rw[getD_set_ne false (Ne.symm hji)]at hl;exact getD_set_true (hcl j oj hj hl e he hb)
    have UD:left (fun j=>(listed.setIfInBounds i true).getD j false) ops.size<=fuel:=by
     rw[getD_upd listed i (by omega)];have:=(Rx (fun j=>listed.getD j false) i hno ops.size).2 hlt;omega
    have hput:=Rj (fun i oi hi=>(hsp i oi hi).2) (fun i oi hi=>(hsp i oi hi).1) V (fun j=>listed.getD j false) a i o ho hno hcl ops.size hlt;have RH:∀t∈o.looksAt ops,(puts ops V (fun j=>listed.getD j false) a ops.size).tmps[t]? =(puts ops V (fun _=>true) a (0+i)).tmps[t]? :=by
     intro t ht;have h1:(puts ops V (fun j=>listed.getD j false) a ops.size).tmps[t]? =(puts ops V (fun j=>decide (j<i)) a ops.size).tmps[t]? :=by
      refine Oe V _ _ a t ops.size fun j hj hd=>?_;by_cases hji:j=i
      ·subst hji;simp only[hno];simp
      ·obtain⟨oj,hoj⟩:∃o,ops[j]? =some o:=⟨ops[j],by simp[hj]⟩;rcases(hsp i o ho).2 j oj hoj hji with⟨e,he,hb,heq⟩|⟨e,he,hb,heq⟩|hap
       ·have hl:=MH e he hb;have hlt':=(hsp i o ho).1 e he hb;rw[heq]at hl hlt';simp only[hl,hlt',decide_true]
       ·have hlt':=(hsp j oj hoj).1 e he hb;rw[heq]at hlt';have:¬j<i:=(by omega);simp only[this,decide_false]
        cases hl:listed.getD j false with
        |false=>rfl
        |true=>
         have:=hcl j oj hoj hl e he hb;rw[heq,hno]at this;cases this
       ·rw[hoj]at hd;exact absurd ht ((Oper.apart_spec hap).2.2 t hd)
     rw[h1,CW V (fun j=>decide (j<i)) a i ops.size (by omega) (fun j h1 _=>by simp;omega),Nat.zero_add];rw[D6 V (fun j=>decide (j<i)) (fun _=>true) a i (fun j hj=>by simp[hj])]
    have VX:=PE o (fun cs b=>hsel i o cs b ho) _ _ RH;have hwant:=K7 o _ _ RH;have hk:ops.toList[i]? =some o:=(by simpa using ho);have hVi:=hV i o hk;have hR:Right md ops fun j=>listed.getD j false:=by
     intro j k hjk hk;obtain⟨oj,hj,e,he,hb,rfl⟩:=Ho hjk;show listed.getD j false=false
     cases hl:listed.getD j false with
     |false=>rfl
     |true=>
      have hk:listed.getD e.on false=false:=hk;rw[hcl j oj hj hl e he hb]at hk;cases hk
    have rE:∀j,waits md ops i j=true->listed.getD j false=true:=by
     intro j hj;obtain⟨oi,hi',e,he,hb,rfl⟩:=Ho hj;rw[ho]at hi';cases hi';exact MH e he hb
    unfold wpOp;simp only[ho];rw[hwant];have hnext:∀w',S (upd (fun j=>listed.getD j false) i) w'->wpAny P md ops Q fuel (listed.setIfInBounds i true) ((puts ops V (fun j=>listed.getD j false) a ops.size).put o.dst (V (0+i))) w':=by
     intro w' hS';rw[Nat.zero_add,hput,<-getD_upd listed i (by omega)];exact ih _ w' (by simpa using hsz) UD Mv (by rw[getD_upd listed i (by omega)];exact hS')
    rcases hVi with⟨hw,hrun⟩|⟨hw,hv,hrun⟩
    ·rw[if_pos hw];refine .inl (jZ VX (by rw[EX,EX]) (hrun _ w hS (by rw[Nat.zero_add];exact hno) hR (by rw[Nat.zero_add];exact rE)) ?_);intro w' hS';rw[Nat.zero_add]at hS';exact hnext w' hS'
    ·rw[if_neg (by rw[hw];simp),<-hv];refine hnext w ?_;have:=hrun _ w hS (by rw[Nat.zero_add];exact hno);rwa[Nat.zero_add]at this
 have h0:(fun j=>(Array.replicate ops.size false).getD j false)=fun _:Nat=>false:=by
  funext j;by_cases hj:j<ops.size<;>simp[hj]
 have:=main ops.size (Array.replicate ops.size false) w (by simp) (Vz _ _) (fun j oj hj hl=>by
  have:=congrFun h0 j;rw[hl]at this
  cases this) (by rw[h0];exact hw)
 rw[h0,CW V (fun _=>false) a 0 ops.size (by omega) (fun _ _ _=>rfl)]at this;exact this
theorem AO{id:Nat}{l:List Oper}(hm:P.follows .mixedOrders=true)(hok:OC .any l.toArray=true)(hw:S (fun _=>false) w.drew)(h:Ab P .any l.toArray Q S l 0 a):(Code.region id l.toArray true).wp P Q a w:=
 wp_region_any hm (jm hok (by simpa using h) hw)
theorem Ab.nil(h:∀w,S (fun j=>decide (j<ops.size)) w->Q .normal a w):Ab P md ops Q S [] i a:=h
theorem Ab.cons{o:Oper}(hw:Region.wanted o (yielded ops a.tmps)=true)(h:∀(L:Nat->Bool) (w:World) (K:Act->World->Prop) (Q':Exit->Act->World->Prop),S L w->L i=false->Shut (Right md ops L)->Shut (∀j,waits md ops i j=true->L j=true)->Shut (∀w',S (upd L i) w'->K (a.put o.dst v) w')->o.wp P a w K Q')(hr:Ab P md ops Q S rest (i+1) (a.put o.dst v)):Ab P md ops Q S (o::rest) i a:=
 ⟨v,.inl ⟨hw,fun L w hS hi hR hd=>h L w _ _ hS hi hR hd (fun _ hS'=>⟨rfl,hS'⟩)⟩,hr⟩
def G8(a:Act)(d:Option Tmp):Value:=match d with
 |some d=>a.tmps.getD d undef
 |none=>undef
theorem Ab.step{o:Oper}(hw:Region.wanted o (yielded ops a.tmps)=true)(h:∀(L:Nat->Bool) (w:World) (K:Act->World->Prop) (Q':Exit->Act->World->Prop),S L w->L i=false->Shut (Right md ops L)->Shut (∀j,waits md ops i j=true->L j=true)->Shut (∀w',S (upd L i) w'->K a1 w')->o.wp P a w K Q')(ha:a1=a.put o.dst (G8 a1 o.dst)) (hr:Ab P md ops Q S rest (i+1) a1):Ab P md ops Q S (o::rest) i a:=
 Ab.cons hw (fun L w K Q' hS hi hR hd hK=>h L w K Q' hS hi hR hd (by rw[<-ha]at hK;exact hK)) (by rw[<-ha];exact hr)
theorem Ab.skip{o:Oper}(hw:Region.wanted o (yielded ops a.tmps)=false)(h:∀(L:Nat->Bool) (w:World),S L w->L i=false->S (upd L i) w)(hr:Ab P md ops Q S rest (i+1) (a.put o.dst undef)):Ab P md ops Q S (o::rest) i a:=
 ⟨undef,.inr ⟨hw,rfl,h⟩,hr⟩
end
theorem pA(a:Act)(d:Option Tmp)(v:Value):a.put d v=match d with
 |some d=>{a with tmps:=a.tmps.setIfInBounds d v}
 |none=>a:=rfl
theorem pB(l:List Value)(i:Nat)(v:Value):l.toArray.setIfInBounds i v=(l.set i v).toArray:=by simp
theorem pC(x:Value)(l:List Value)(v:Value):(x::l).set 0 v=v::l:=rfl
theorem pD(x:Value)(l:List Value)(n:Nat)(v:Value):(x::l).set (n+1) v=x::l.set n v:=rfl
theorem pE:(∀(a:Act) (d:Option Tmp) (v:Value),a.put d v=match d with
 |some d=>{a with tmps:=a.tmps.setIfInBounds d v}
 |none=>a)/\(∀(l:List Value) (i:Nat) (v:Value),l.toArray.setIfInBounds i v=(l.set i v).toArray)/\(∀(x:Value) (l:List Value) (v:Value),(x::l).set 0 v=v::l)/\∀(x:Value) (l:List Value) (n:Nat) (v:Value),(x::l).set (n+1) v=x::l.set n v:=⟨pA,pB,pC,pD⟩
structure Zs(md:Region.Mode)(ops:Array Oper)(S:(Nat->Bool)->World->Prop)(j:Nat)(L:Nat->Bool)(w:World):Prop where
 s:S L w
 i:L j=false
 r:Right md ops L
 d:∀k,waits md ops j k=true->L k=true
theorem Zs.o{S:(Nat->Bool)->World->Prop}(z:Zs md ops S j L w)(k:Nat)(h:waits md ops k j=true):L k=false:=z.r k j h z.i
theorem Ab.y{Q:Exit->Act->World->Prop}{S:(Nat->Bool)->World->Prop}{o:Oper}(hw:Region.wanted o (yielded ops a.tmps)=true)(h:∀L w K Q,Zs md ops S i L w->Shut (∀w',S (upd L i) w'->K a1 w')->o.wp P a w K Q)(ha:a1=a.put o.dst (G8 a1 o.dst))(hr:Ab P md ops Q S rest (i+1) a1):Ab P md ops Q S (o::rest) i a:=
 Ab.step hw (fun L w K Q' hS hi hR hd=>h L w K Q' ⟨hS,hi,hR.out,hd.out⟩) ha hr
theorem Ab.z{Q:Exit->Act->World->Prop}{S:(Nat->Bool)->World->Prop}{o:Oper}(hw:Region.wanted o (yielded ops a.tmps)=true)(h:∀L w K Q,(∀(a:Act) (d:Option Tmp) (v:Value),a.put d v=match d with|some d=>{a with tmps:=a.tmps.setIfInBounds d v}|none=>a)->Zs md ops S i L w->(∀{w'},S (upd L i) w'->K a1 w')->o.wp P a w K Q)(ha:a1=a.put o.dst (G8 a1 o.dst))(hr:Ab P md ops Q S rest (i+1) a1):Ab P md ops Q S (o::rest) i a:=
 Ab.y hw (fun L w K Q' z hK=>h L w K Q' pA z fun h=>hK.out _ h) ha hr
end
end Go.Proofs.YtlffomedflegdaaGreatDoor
