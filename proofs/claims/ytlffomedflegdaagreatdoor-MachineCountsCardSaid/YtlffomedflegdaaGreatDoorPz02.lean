/- Part 2 of 49 of the proof: SerF, Box. -/
import Derived.WalkKit
import Derived.Below
import Derived.Test.YtlffomedflegdaaGreatDoorPz00
import Derived.Test.YtlffomedflegdaaGreatDoorPz01
set_option linter.all false
set_option maxHeartbeats 16000000
set_option maxRecDepth 100000
namespace Go.Proofs.YtlffomedflegdaaGreatDoor
open Go.RowKit
variable {L:Nat->Bool}{V:Nat->Value}{c1 cs zs:List Value}{na ns st:Nat}{rest:List Oper}{t1:TypeId}{v:Value}{w0 w1 w2:World}
section
def EB(V:Nat->Value)(i:Nat)(v:Value):Nat->Value:=fun k=>if k=i then v else V k
theorem BL(V:Nat->Value)(i:Nat)(v:Value):EB V i v i=v:=if_pos rfl
theorem Br(V:Nat->Value){i k:Nat}(v:Value)(h:k≠i):EB V i v k=V k:=if_neg h
def QJ(md:Region.Mode)(ops:Array Oper)(i:Nat)(v:(Nat->Value)->Value):Prop:=
 ∀(L:Nat->Bool) (V V':Nat->Value),Right md ops L->L i=true->(∀k,L k=true->V k=V' k)->v V=v V'
def AU(P:Program)(md:Region.Mode)(ops:Array Oper)(Q:Exit->Act->World->Prop)(S:(Nat->Value)->(Nat->Bool)->World->Prop):List Oper->Nat->((Nat->Value)->Act)->Prop
 | [],_,a=>∀V w,S V (fun j=>decide (j<ops.size)) w->Q .normal (a V) w
 |o::rest,i,a=>∃v:(Nat->Value)->Value,QJ md ops i v/\
  (∀(V:Nat->Value) (L:Nat->Bool) (w:World),S V L w->L i=false->Right md ops L->(∀j,waits md ops i j=true->L j=true)->
   (Region.wanted o (yielded ops (a V).tmps)=true/\
    o.wp P (a V) w (fun a' w'=>∃V':Nat->Value,(∀k,k≠i->V' k=V k)/\a'=(a V).put o.dst (v V')/\S V' (upd L i) w') (fun _ _ _=>False))\/
   (Region.wanted o (yielded ops (a V).tmps)=false/\v V=undef/\S V (upd L i) w))/\
  AU P md ops Q S rest (i+1) (fun V=>(a V).put o.dst (v V))
section
variable {P : Program} {md : Region.Mode} {ops : Array Oper} {Q : Exit -> Act -> World -> Prop} {S : (Nat -> Value) -> (Nat -> Bool) -> World -> Prop}
theorem au{o:Oper}{a a':Act}{w:World}{G:Value->World->Prop}{K:Act->World->Prop}(he:execOp a'.eval o=execOp a.eval o)(hs:a.tmps.size=a'.tmps.size)(h:o.wp P a w (fun a1 w'=>∃v,a1=a.put o.dst v/\G v w') (fun _ _ _=>False)) (hK:∀v w',G v w'->K (a'.put o.dst v) w'):o.wp P a' w K Q:=by
 unfold Oper.wp at*;rw[he];generalize(execOp a.eval o).run P w=r at*
 cases r with
 |ok n w'=>
  cases n<;>simp only[Oper.upon]at h⊢
  case value u=>obtain⟨v,h1,h2⟩:=h;rw[F8 hs h1];exact hK _ _ h2
  case skip=>obtain⟨v,h1,h2⟩:=h;rw[F8 hs h1];exact hK _ _ h2
  case defer d=>
   obtain⟨v,h0,h2⟩:=h;have h1:=congrArg (fun x:Act=>x.defers.length) h0;exfalso;cases hd:o.dst<;>simp[Act.put,hd]at h1
  case enter f args=>
   refine Calls.mono h fun e w'' he=>?_
   cases e with
   |returned u=>simp only at he⊢;obtain⟨v,h1,h2⟩:=he;rw[F8 hs h1];exact hK _ _ h2
   |panicked c=>exact he.elim
   |outgrown=>
    obtain⟨_,_,hf⟩:=he;exact hf.elim
  case row row args=>exact Rows.mono h fun u w'' he=>by obtain⟨v,h1,h2⟩:=he;rw[F8 hs h1];exact hK _ _ h2
 |halt x w'=>
  cases x<;>simp only[Oper.upon]at h⊢
def oN(P:Program)(md:Region.Mode)(ops:Array Oper)(S:(Nat->Value)->(Nat->Bool)->World->Prop)(i:Nat)(o:Oper)(v:(Nat->Value)->Value)(a:(Nat->Value)->Act):Prop:=
 QJ md ops i v/\
  ∀(V:Nat->Value) (L:Nat->Bool) (w:World),S V L w->L i=false->Right md ops L->(∀j,waits md ops i j=true->L j=true)->
   (Region.wanted o (yielded ops (a V).tmps)=true/\
    o.wp P (a V) w (fun a' w'=>∃V':Nat->Value,(∀k,k≠i->V' k=V k)/\a'=(a V).put o.dst (v V')/\S V' (upd L i) w') (fun _ _ _=>False))\/
   (Region.wanted o (yielded ops (a V).tmps)=false/\v V=undef/\S V (upd L i) w)
theorem Xd:∀(l:List Oper) (i:Nat) (a:(Nat->Value)->Act),AU P md ops Q S l i a->(∀k,k<l.length->ops[i+k]? =l[k]?)->∃F:Nat->(Nat->Value)->Value,(∀k o,l[k]? =some o->oN P md ops S (i+k) o (F (i+k)) (fun V=>puts ops (fun j=>F j V) (fun j=>decide (i<=j)) (a V) (i+k)))/\∀V w,S V (fun j=>decide (j<ops.size)) w->Q .normal (puts ops (fun j=>F j V) (fun j=>decide (i<=j)) (a V) (i+l.length)) w:=by
 intro l
 induction l with
 |nil=>
  intro i a h _;refine⟨fun _ _=>undef,fun k o hk=>(by simp at hk),fun V w hw=>?_⟩;rw[CW _ _ (a V) 0 (i+([]:List Oper).length) (by omega) (fun j h1 h2=>by simp at h2⊢;omega)]
  exact h V w hw
 |cons o rest ih=>
  intro i a h hops;obtain⟨v,hv,h1,h2⟩:=h
  obtain⟨F,hF,hend⟩:=ih (i+1) _ h2 (fun k hk=>by
   have:=hops (k+1) (by simpa using hk)
   rw[show i+1+k=i+(k+1) by omega,this];rfl)
  have ho:ops[i]? =some o:=by have:=hops 0 (by simp);simpa using this
  have hput:∀(V:Nat->Value) n,i+1<=n->puts ops (fun j=>(if j=i then v else F j) V) (fun j=>decide (i<=j)) (a V) n=puts ops (fun j=>F j V) (fun j=>decide (i+1<=j)) ((a V).put o.dst (v V)) n:=by
   intro V n hn
   induction n with
   |zero=>omega
   |succ n ihn=>
    by_cases e:n=i
    ·subst e;rw[Ec (by simp),ho];rw[CW _ _ (a V) 0 n (by omega) (fun j _ h2=>by simp;omega),CW _ _ ((a V).put o.dst (v V)) 0 (n+1) (by omega) (fun j _ h2=>by simp;omega)];simp[puts]
    ·rw[Ec (by simp;omega),Ec (by simp;omega),ihn (by omega)];simp[e]
  refine⟨fun j=>if j=i then v else F j,fun k ok hk=>?_,fun V w hw=>?_⟩
  ·cases k with
   |zero=>
    have:ok=o:=(by simpa using hk.symm);subst this;have hp:(fun V=>puts ops (fun j=>(if j=i then v else F j) V) (fun j=>decide (i<=j)) (a V) (i+0))=a:=by
     funext V;exact CW _ _ (a V) 0 _ (by omega) (fun j _ h2=>by simp;omega)
    unfold oN;have hv0:(fun j=>if j=i then v else F j) (i+0)=v:=if_pos rfl;rw[hp,hv0]
    exact⟨hv,h1⟩
   |succ k=>
    have hk':rest[k]? =some ok:=(by simpa using hk);have:=hF k ok hk';rw[show i+1+k=i+(k+1) by omega]at this;have he:(fun V=>puts ops (fun j=>(if j=i then v else F j) V) (fun j=>decide (i<=j)) (a V) (i+(k+1)))=fun V=>puts ops (fun j=>F j V) (fun j=>decide (i+1<=j)) ((a V).put o.dst (v V)) (i+(k+1)):=by
     funext V;exact hput V _ (by omega)
    have hne:i+(k+1)≠i:=(by omega);simp only[hne,if_false,he];exact this
  ·rw[hput V _ (by simp)];have:=hend V w hw;rw[show i+1+rest.length=i+(o::rest).length by simp;omega]at this;exact this
theorem bU(hok:OC md ops=true){a:Act}(h:AU P md ops Q S ops.toList 0 (fun _=>a)){w:World}{V0:Nat->Value}(hw:S V0 (fun _=>false) w):wpAny P md ops Q ops.size (Array.replicate ops.size false) a w:=by
 obtain⟨F,hF,hend⟩:=Xd ops.toList 0 _ h (fun k _=>by simp);obtain⟨hsel,hsp⟩:=NA hok;have hL0:(fun j=>decide (0<=j))=fun _:Nat=>true:=by funext j;simp
 rw[hL0]at hF hend;have main:∀(fuel:Nat) (listed:Array Bool) (V:Nat->Value) (w:World),listed.size=ops.size->left (fun j=>listed.getD j false) ops.size<=fuel->
   (∀j oj,ops[j]? =some oj->listed.getD j false=true->∀e∈oj.after,Region.binds md e=true->listed.getD e.on false=true)->
   S V (fun j=>listed.getD j false) w->wpAny P md ops Q fuel listed (puts ops (fun j=>F j V) (fun j=>listed.getD j false) a ops.size) w:=by
  intro fuel
  induction fuel with
  |zero=>
   intro listed V w hsz hleft hcl hS;have hall:=Gw _ _ (Nat.le_zero.1 hleft);have UC:Region.ready md ops listed=[]:=by
    rw[List.eq_nil_iff_forall_not_mem];intro j hj;obtain⟨h0,o,ho,_⟩:=Js hj;have hlt:j<ops.size:=(Array.getElem?_eq_some_iff.1 ho).1;have h1:=hall j hlt;rw[getD_both listed j (by omega) false true,h0]at h1;cases h1
   refine⟨UC,?_⟩;have pX:=Hy listed ops.size hsz hall;rw[D6 _ _ (fun _=>true) a ops.size (fun j hj=>hall j hj)];rw[pX]at hS
   simpa using hend V w hS
  |succ fuel ih=>
   intro listed V w hsz hleft hcl hS;refine⟨fun hr=>?_,fun i hi=>?_⟩
   ·by_cases h0:left (fun j=>listed.getD j false) ops.size=0
    ·have hall:=Gw _ _ h0;have pX:=Hy listed ops.size hsz hall;rw[D6 _ _ (fun _=>true) a ops.size (fun j hj=>hall j hj)];rw[pX]at hS;simpa using hend V w hS
    ·exfalso;obtain⟨j,hj,hno,QH⟩:=Ou _ _ (Nat.pos_of_ne_zero h0);obtain⟨o,ho⟩:∃o,ops[j]? =some o:=⟨ops[j],by simp[hj]⟩;have:j∈Region.ready md ops listed:=mem_ready.2 ⟨by rw[getD_both listed j (by omega) true false];exact hno,o,ho,fun e he hb=>QH _ ((hsp j o ho).1 e he hb)⟩;rw[hr]at this;cases this
   ·obtain⟨h0,o,ho,MH⟩:=Js hi;have hlt:i<ops.size:=(Array.getElem?_eq_some_iff.1 ho).1;have hno:listed.getD i false=false:=(by rw[getD_both listed i (by omega) false true];exact h0);have Mv:∀j oj,ops[j]? =some oj->(listed.setIfInBounds i true).getD j false=true->∀e∈oj.after,Region.binds md e=true->(listed.setIfInBounds i true).getD e.on false=true:=by
     intro j oj hj hl e he hb;by_cases hji:j=i
     ·subst hji;rw[ho]at hj;cases hj;exact getD_set_true (MH e he hb)
     ·rw[getD_set_ne false (Ne.symm hji)]at hl;exact getD_set_true (hcl j oj hj hl e he hb)
    have UD:left (fun j=>(listed.setIfInBounds i true).getD j false) ops.size<=fuel:=by
     rw[getD_upd listed i (by omega)];have:=(Rx (fun j=>listed.getD j false) i hno ops.size).2 hlt;omega
    have hput:∀V,(puts ops (fun j=>F j V) (fun j=>listed.getD j false) a ops.size).put o.dst (F i V)=puts ops (fun j=>F j V) (upd (fun j=>listed.getD j false) i) a ops.size:=fun V=>
     Rj (fun i oi hi=>(hsp i oi hi).2) (fun i oi hi=>(hsp i oi hi).1) (fun j=>F j V) (fun j=>listed.getD j false) a i o ho hno hcl ops.size hlt
    have RH:∀t∈o.looksAt ops,(puts ops (fun j=>F j V) (fun j=>listed.getD j false) a ops.size).tmps[t]? =(puts ops (fun j=>F j V) (fun _=>true) a (0+i)).tmps[t]? :=by
     intro t ht;have h1:(puts ops (fun j=>F j V) (fun j=>listed.getD j false) a ops.size).tmps[t]? =(puts ops (fun j=>F j V) (fun j=>decide (j<i)) a ops.size).tmps[t]? :=by
      refine Oe _ _ _ a t ops.size fun j hj hd=>?_;by_cases hji:j=i
      ·subst hji;simp only[hno];simp
      ·obtain⟨oj,hoj⟩:∃o,ops[j]? =some o:=⟨ops[j],by simp[hj]⟩;rcases(hsp i o ho).2 j oj hoj hji with⟨e,he,hb,heq⟩|⟨e,he,hb,heq⟩|hap
       ·have hl:=MH e he hb;have hlt':=(hsp i o ho).1 e he hb;rw[heq]at hl hlt';simp only[hl,hlt',decide_true]
       ·have hlt':=(hsp j oj hoj).1 e he hb;rw[heq]at hlt';have:¬j<i:=(by omega);simp only[this,decide_false]
        cases hl:listed.getD j false with
        |false=>rfl
        |true=>
         have:=hcl j oj hoj hl e he hb;rw[heq,hno]at this;cases this
       ·rw[hoj]at hd;exact absurd ht ((Oper.apart_spec hap).2.2 t hd)
     rw[h1,CW _ (fun j=>decide (j<i)) a i ops.size (by omega) (fun j h1 _=>by simp;omega),Nat.zero_add];rw[D6 _ (fun j=>decide (j<i)) (fun _=>true) a i (fun j hj=>by simp[hj])]
    have VX:=PE o (fun cs b=>hsel i o cs b ho) _ _ RH;have hwant:=K7 o _ _ RH;have hk:ops.toList[i]? =some o:=(by simpa using ho);have hR:Right md ops fun j=>listed.getD j false:=by
     intro j k hjk hk;obtain⟨oj,hj,e,he,hb,rfl⟩:=Ho hjk;show listed.getD j false=false
     cases hl:listed.getD j false with
     |false=>rfl
     |true=>
      have hk:listed.getD e.on false=false:=hk;rw[hcl j oj hj hl e he hb]at hk;cases hk
    have rE:∀j,waits md ops i j=true->listed.getD j false=true:=by
     intro j hj;obtain⟨oi,hi',e,he,hb,rfl⟩:=Ho hj;rw[ho]at hi';cases hi';exact MH e he hb
    have AAZ:∀V':Nat->Value,(∀k,k≠i->V' k=V k)->puts ops (fun j=>F j V) (fun j=>listed.getD j false) a ops.size=puts ops (fun j=>F j V') (fun j=>listed.getD j false) a ops.size:=by
     intro V' hV';have hj:∀j,j<ops.size->listed.getD j false=true->F j V=F j V':=by
      intro j hj hl;have hkj:ops.toList[j]? =some ops[j]:=(by simp[hj]);have hd:=(hF j ops[j] hkj).1;rw[Nat.zero_add]at hd;refine hd (fun j=>listed.getD j false) V V' hR hl fun k hkl=>?_;have:k≠i:=fun e=>by
       subst e;have hkl:listed.getD k false=true:=hkl;rw[hno]at hkl;cases hkl
      exact(hV' k this).symm
     have:∀n,n<=ops.size->puts ops (fun j=>F j V) (fun j=>listed.getD j false) a n=puts ops (fun j=>F j V') (fun j=>listed.getD j false) a n:=by
      intro n
      induction n with
      |zero=>intro _;rfl
      |succ n ihn=>
       intro hn
       cases hl:listed.getD n false with
       |true=>rw[Ec (L:=fun j=>listed.getD j false) hl,Ec (L:=fun j=>listed.getD j false) hl,ihn (by omega),hj n (by omega) hl]
       |false=>rw[Ij (L:=fun j=>listed.getD j false) hl,Ij (L:=fun j=>listed.getD j false) hl,ihn (by omega)]
     exact this _ (AQ)
    have hVi:=(hF i o hk).2 V (fun j=>listed.getD j false) w hS (by rw[Nat.zero_add];exact hno) hR (by rw[Nat.zero_add];exact rE);unfold wpOp;simp only[ho];rw[hwant];have hnext:∀V' w',(∀k,k≠i->V' k=V k)->S V' (upd (fun j=>listed.getD j false) i) w'->wpAny P md ops Q fuel (listed.setIfInBounds i true) ((puts ops (fun j=>F j V) (fun j=>listed.getD j false) a ops.size).put o.dst (F i V')) w':=by
     intro V' w' hV' hS';rw[AAZ V' hV',hput V',<-getD_upd listed i (by omega)];exact ih _ V' w' (by simpa using hsz) UD Mv (by rw[getD_upd listed i (by omega)];exact hS')
    simp only[Nat.zero_add]at hVi;rw[Nat.zero_add]at VX⊢;rcases hVi with⟨hw,hrun⟩|⟨hw,hv,hrun⟩
    ·rw[if_pos hw];refine .inl (au (G:=fun v w'=>∃V':Nat->Value,(∀k,k≠i->V' k=V k)/\v=F i V'/\S V' (upd (fun j=>listed.getD j false) i) w') VX (by rw[EX,EX]) ?_ ?_)
     ·refine Oper.wp_mono ?_ hrun;rintro a1 w1 ⟨V',h1,h2,h3⟩;exact⟨_,h2,V',h1,rfl,h3⟩
     ·rintro v w' ⟨V',h1,rfl,h3⟩;exact hnext V' w' h1 h3
    ·rw[if_neg (by rw[hw];simp),<-hv];exact hnext V w (fun _ _=>rfl) hrun
 have h0:(fun j=>(Array.replicate ops.size false).getD j false)=fun _:Nat=>false:=by
  funext j;by_cases hj:j<ops.size<;>simp[hj]
 have:=main ops.size (Array.replicate ops.size false) V0 w (by simp) (Vz _ _) (fun j oj hj hl=>by
  have:=congrFun h0 j;rw[hl]at this
  cases this) (by rw[h0];exact hw)
 rw[h0,CW _ (fun _=>false) a 0 ops.size (by omega) (fun _ _ _=>rfl)]at this;exact this
theorem AV{id:Nat}{l:List Oper}{a:Act}{w:World}(hm:P.follows .mixedOrders=true)(hok:OC .any l.toArray=true)(hw:S (fun _=>undef) (fun _=>false) w.drew)(h:AU P .any l.toArray Q S l 0 (fun _=>a)):(Code.region id l.toArray true).wp P Q a w:=
 wp_region_any hm (bU hok (by simpa using h) hw)
theorem AU.nil{i:Nat}{a:(Nat->Value)->Act}(h:∀V w,S V (fun j=>decide (j<ops.size)) w->Q .normal (a V) w):AU P md ops Q S [] i a:=h
theorem AU.step{o:Oper}{i:Nat}{a a1:(Nat->Value)->Act}(hw:∀V,Region.wanted o (yielded ops (a V).tmps)=true)(h:∀(V:Nat->Value) (L:Nat->Bool) (w:World) (K:Act->World->Prop) (Q':Exit->Act->World->Prop),S V L w->L i=false->Shut (Right md ops L)->Shut (∀j,waits md ops i j=true->L j=true)->Shut (∀w',S V (upd L i) w'->K (a1 V) w')->o.wp P (a V) w K Q')(ha:∀V,a1 V=(a V).put o.dst (G8 (a1 V) o.dst)) (hd:QJ md ops i (fun V=>G8 (a1 V) o.dst)) (hr:AU P md ops Q S rest (i+1) a1):AU P md ops Q S (o::rest) i a:=
 ⟨fun V=>G8 (a1 V) o.dst,hd,fun V L w hS hi hR hd=> .inl ⟨hw V,h V L w _ _ hS hi hR hd (fun _ hS'=>⟨V,fun _ _=>rfl,ha V,hS'⟩)⟩,by
  have:(fun V=>(a V).put o.dst (G8 (a1 V) o.dst))=a1:=by funext V;exact(ha V).symm
  rw[this];exact hr⟩
theorem AU.LM{o:Oper}{i:Nat}{a a1:(Nat->Value)->Act}(hw:∀V,Region.wanted o (yielded ops (a V).tmps)=true)(h:∀(V:Nat->Value) (L:Nat->Bool) (w:World) (K:Act->World->Prop) (Q':Exit->Act->World->Prop),S V L w->L i=false->Shut (Right md ops L)->Shut (∀j,waits md ops i j=true->L j=true)->Shut (∀w',S V (upd L i) w'->K (a1 V) w')->o.wp P (a V) w K Q')(ha:∀V,a1 V=(a V).put o.dst (G8 (a1 V) o.dst)) (hd:∀(L:Nat->Bool) (V V':Nat->Value),Right md ops L->L i=true->(∀k,L k=true->V k=V' k)->G8 (a1 V) o.dst=G8 (a1 V') o.dst) (hr:AU P md ops Q S rest (i+1) a1):AU P md ops Q S (o::rest) i a:=AU.step hw h ha hd hr
theorem AU.free{o:Oper}{i:Nat}{a:(Nat->Value)->Act}(hw:∀V,Region.wanted o (yielded ops (a V).tmps)=true)(h:∀(V:Nat->Value) (L:Nat->Bool) (w:World) (K:Act->World->Prop) (Q':Exit->Act->World->Prop),S V L w->L i=false->Shut (Right md ops L)->Shut (∀j,waits md ops i j=true->L j=true)->Shut (∀a' w',a'=(a V).put o.dst (G8 a' o.dst)->S (EB V i (G8 a' o.dst)) (upd L i) w'->K a' w')->o.wp P (a V) w K Q')(hr:AU P md ops Q S rest (i+1) (fun V=>(a V).put o.dst (V i))):AU P md ops Q S (o::rest) i a:=
 ⟨fun V=>V i,fun L V V' _ hi h=>h i hi,fun V L w hS hi hR hd=> .inl ⟨hw V,h V L w _ _ hS hi hR hd (fun a' w' h1 hS'=>⟨EB V i (G8 a' o.dst),fun k hk=>Br V _ hk,by show a'=(a V).put o.dst (EB V i (G8 a' o.dst) i);rw[BL];exact h1,hS'⟩)⟩,hr⟩
theorem AU.val{o:Oper}{i:Nat}{a:(Nat->Value)->Act}(v:Value)(hw:∀V,Region.wanted o (yielded ops (a V).tmps)=true)(h:∀(V:Nat->Value) (L:Nat->Bool) (w:World) (K:Act->World->Prop) (Q':Exit->Act->World->Prop),S V L w->L i=false->Shut (Right md ops L)->Shut (∀j,waits md ops i j=true->L j=true)->Shut (∀a' w',a'=(a V).put o.dst v->S V (upd L i) w'->K a' w')->o.wp P (a V) w K Q')(hr:AU P md ops Q S rest (i+1) (fun V=>(a V).put o.dst v)):AU P md ops Q S (o::rest) i a:=
 ⟨fun _=>v,fun _ _ _ _ _ _=>rfl,fun V L w hS hi hR hd=> .inl ⟨hw V,h V L w _ _ hS hi hR hd (fun _ _ h1 hS'=>⟨V,fun _ _=>rfl,h1,hS'⟩)⟩,hr⟩
structure Zf(md:Region.Mode)(ops:Array Oper)(S:(Nat->Value)->(Nat->Bool)->World->Prop)(j:Nat)(V:Nat->Value)(L:Nat->Bool)(w:World):Prop where
 s:S V L w
 i:L j=false
 r:Right md ops L
 d:∀k,waits md ops j k=true->L k=true
theorem Zf.o{j:Nat}{w:World}(z:Zf md ops S j V L w)(k:Nat)(h:waits md ops k j=true):L k=false:=z.r k j h z.i
def fv2(a:Act)(v:Value):Act×Value:=(a,v)
theorem AU.y{o:Oper}{i:Nat}{a a1:(Nat->Value)->Act}(hw:(fun V=>Region.wanted o (yielded ops (a V).tmps))=fun _=>true)(h:∀V L w K Q,Zf md ops S i V L w->Shut (∀w',S V (upd L i) w'->K (a1 V) w')->o.wp P (a V) w K Q)(ha:∀V V',fv2 (a1 V) (G8 (a1 V) o.dst)=fv2 ((a V).put o.dst (G8 (a1 V) o.dst)) (G8 (a1 V') o.dst))(hr:AU P md ops Q S rest (i+1) a1):AU P md ops Q S (o::rest) i a:=
 AU.LM (fun V=>congrFun hw V) (fun V L w K Q' hS hi hR hd hK=>h V L w K Q' ⟨hS,hi,hR.out,hd.out⟩ hK) (fun V=>congrArg Prod.fst (ha V V)) (fun _ V V' _ _ _=>congrArg Prod.snd (ha V V')) hr
theorem AU.z{o:Oper}{i:Nat}{a a1:(Nat->Value)->Act}(hw:(fun V=>Region.wanted o (yielded ops (a V).tmps))=fun _=>true)(h:∀V L w K Q,(∀(a:Act) (d:Option Tmp) (v:Value),a.put d v=match d with|some d=>{a with tmps:=a.tmps.setIfInBounds d v}|none=>a)->Zf md ops S i V L w->(∀{w'},S V (upd L i) w'->K (a1 V) w')->o.wp P (a V) w K Q)(ha:∀V V',fv2 (a1 V) (G8 (a1 V) o.dst)=fv2 ((a V).put o.dst (G8 (a1 V) o.dst)) (G8 (a1 V') o.dst))(hr:AU P md ops Q S rest (i+1) a1):AU P md ops Q S (o::rest) i a:=
 AU.y hw (fun V L w K Q' z hK=>h V L w K Q' pA z fun h=>hK.out _ h) ha hr
theorem AU.w{o:Oper}{i:Nat}{a:(Nat->Value)->Act}(hw:(fun V=>Region.wanted o (yielded ops (a V).tmps))=fun _=>true)(h:∀V L w K Q,(∀(a:Act) (d:Option Tmp) (v:Value),a.put d v=match d with|some d=>{a with tmps:=a.tmps.setIfInBounds d v}|none=>a)->Zf md ops S i V L w->(∀{a' w'},a'=(a V).put o.dst (G8 a' o.dst)->S (EB V i (G8 a' o.dst)) (upd L i) w'->K a' w')->o.wp P (a V) w K Q)(hr:AU P md ops Q S rest (i+1) (fun V=>(a V).put o.dst (V i))):AU P md ops Q S (o::rest) i a:=
 AU.free (fun V=>congrFun hw V) (fun V L w K Q' hS hi hR hd hK=>h V L w K Q' pA ⟨hS,hi,hR.out,hd.out⟩ fun h=>hK.out _ _ h) hr
end
theorem Dm{i k:Nat}(h:(k==i)=false):upd L i k=L k:=by simp[upd,h]
theorem Gq{i:Nat}:upd L i i=true:=by simp[upd]
end
section
theorem AB{w:World}(h1:AA6 w w1)(h2:AA6 w1 w2):AA6 w w2:=h1.trans (h2.mono h1.size)
structure Ae(w:World)(p:Nat)(cs:List Value):Prop where
 c:∀i v,cs[i]? =some v->w.cell? ⟨p,i,none⟩=some v
 f:∀i,i<cs.length->w.frozen? ⟨p,i,none⟩=false
theorem Ae.alloc(w:World)(cs:List Value)(t:TypeId):Ae (w.alloc (Obj.cells cs.toArray t)) w.heap.size cs:=
 {c:=fun i v h=>by rw[World.cell?_alloc_mark];simpa using h
  f:=fun i h=>by rw[World.frozen?_alloc_mark];rfl}
theorem Ae.below{w:World}{p B:Nat}(h:Ae w p cs)(hp:p<B)(hb:Below B w w1):Ae w1 p cs:=
 {c:=fun i v hv=>by rw[hb.cell hp];exact h.c i v hv
  f:=fun i hi=>by rw[hb.frozen hp];exact h.f i hi}
theorem Ae.drew{w:World}{p:Nat}(h:Ae w p cs):Ae w.drew p cs:={c:=fun i v hv=>h.c i v hv,f:=fun i hi=>h.f i hi}
theorem Ae.lt{w:World}{p:Nat}(h:Ae w p (v::cs)):p<w.heap.size:=World.block_lt_of_cell? w _ (h.c 0 v rfl)
theorem Ae.set{w:World}{p:Nat}(h:Ae w p cs){i:Nat}(hi:i<cs.length)(v:Value):Ae (w.setCell ⟨p,i,none⟩ v) p (cs.set i v):=
 {c:=fun j u hu=>by
   by_cases e:j=i
   ·subst e;have:u=v:=(by simpa[hi]using hu.symm);subst this;exact World.cell?_setCell_same _ _ _ (h.c j cs[j] (by simp[hi]))
   ·have e':i≠j:=fun h=>e h.symm;rw[World.cell?_setCell_other _ _ _ _ (by intro he;exact e' (congrArg Addr.off he))];exact h.c j u (by simpa[List.getElem?_set_ne e']using hu)
  f:=fun j hj=>by
   rw[World.frozen?_setCell]
   exact h.f j (by simpa using hj)}
theorem Ae.al{w:World}{p:Nat}(h:Ae w p (v::cs))(o:Obj):Ae (w.alloc o) p (v::cs):=h.below h.lt (AJ _ o)
theorem Ae.nx{w:World}{p:Nat}(h:Ae w p (v::cs))(hb:AA6 w w1):Ae w1 p (v::cs):=h.below h.lt hb
theorem Ae.far{w:World}{p:Nat}(h:Ae w p cs){q:Addr}(hq:q.block≠p)(v:Value):Ae (w.setCell q v) p cs:=
 {c:=fun j u hu=>by
   rw[World.cell?_setCell_other _ _ _ _ (by intro he;exact hq (congrArg Addr.block he))];exact h.c j u hu
  f:=fun j hj=>by rw[World.frozen?_setCell];exact h.f j hj}
theorem Ae.same{w w':World}{p:Nat}(h:Ae w p cs)(he:w'.heap[p]? =w.heap[p]?):Ae w' p cs:=
 {c:=fun i v hv=>by rw[World.cell?_of_block (w:=w) (w':=w') (a:=⟨p,i,none⟩) he];exact h.c i v hv
  f:=fun i hi=>by rw[World.frozen?_of_block (w:=w) (w':=w') (a:=⟨p,i,none⟩) he];exact h.f i hi}
theorem JM(w:World)(p:Nat)(i:Nat)(v:Value):w.grownBy (w.setCell ⟨p,i,none⟩ v) (some p):=
 ⟨rfl,rfl,rfl,by simp[World.setCell],fun k _ hne=>Below.heap_setCell _ _ _ _ (fun e=>hne (by rw[e]))⟩
section
variable {w : World} {p : Nat} {a b c d e f g h i j k m n : Value} {l : List Value}
theorem Ae.c2(x:Ae w p (a::b::l)):w.cell? ⟨p,0,none⟩=some a/\w.cell? ⟨p,1,none⟩=some b:=⟨x.c 0 _ rfl,x.c 1 _ rfl⟩
theorem Ae.c3(x:Ae w p (a::b::c::l)):w.cell? ⟨p,0,none⟩=some a/\w.cell? ⟨p,1,none⟩=some b/\w.cell? ⟨p,2,none⟩=some c:=by grind [cases Ae]
theorem Ae.c4(x:Ae w p (a::b::c::d::l)):w.cell? ⟨p,0,none⟩=some a/\w.cell? ⟨p,1,none⟩=some b/\w.cell? ⟨p,2,none⟩=some c/\w.cell? ⟨p,3,none⟩=some d:=by grind [cases Ae]
theorem Ae.c5(x:Ae w p (a::b::c::d::e::l)):w.cell? ⟨p,0,none⟩=some a/\w.cell? ⟨p,1,none⟩=some b/\w.cell? ⟨p,2,none⟩=some c/\w.cell? ⟨p,3,none⟩=some d/\w.cell? ⟨p,4,none⟩=some e:=by grind [cases Ae]
theorem Ae.c6(x:Ae w p (a::b::c::d::e::f::l)):w.cell? ⟨p,0,none⟩=some a/\w.cell? ⟨p,1,none⟩=some b/\w.cell? ⟨p,2,none⟩=some c/\w.cell? ⟨p,3,none⟩=some d/\w.cell? ⟨p,4,none⟩=some e/\w.cell? ⟨p,5,none⟩=some f:=by grind [cases Ae]
theorem Ae.c9(x:Ae w p (a::b::c::d::e::f::g::h::i::l)):w.cell? ⟨p,0,none⟩=some a/\w.cell? ⟨p,1,none⟩=some b/\w.cell? ⟨p,2,none⟩=some c/\w.cell? ⟨p,3,none⟩=some d/\w.cell? ⟨p,4,none⟩=some e/\w.cell? ⟨p,5,none⟩=some f/\w.cell? ⟨p,6,none⟩=some g/\w.cell? ⟨p,7,none⟩=some h/\w.cell? ⟨p,8,none⟩=some i:=⟨x.c 0 _ rfl,x.c 1 _ rfl,x.c 2 _ rfl,x.c 3 _ rfl,x.c 4 _ rfl,x.c 5 _ rfl,x.c 6 _ rfl,x.c 7 _ rfl,x.c 8 _ rfl⟩
theorem Ae.c11(x:Ae w p (a::b::c::d::e::f::g::h::i::j::k::l)):w.cell? ⟨p,0,none⟩=some a/\w.cell? ⟨p,1,none⟩=some b/\w.cell? ⟨p,2,none⟩=some c/\w.cell? ⟨p,3,none⟩=some d/\w.cell? ⟨p,4,none⟩=some e/\w.cell? ⟨p,5,none⟩=some f/\w.cell? ⟨p,6,none⟩=some g/\w.cell? ⟨p,7,none⟩=some h/\w.cell? ⟨p,8,none⟩=some i/\w.cell? ⟨p,9,none⟩=some j/\w.cell? ⟨p,10,none⟩=some k:=⟨x.c 0 _ rfl,x.c 1 _ rfl,x.c 2 _ rfl,x.c 3 _ rfl,x.c 4 _ rfl,x.c 5 _ rfl,x.c 6 _ rfl,x.c 7 _ rfl,x.c 8 _ rfl,x.c 9 _ rfl,x.c 10 _ rfl⟩
theorem Ae.c13(x:Ae w p (a::b::c::d::e::f::g::h::i::j::k::m::n::l)):w.cell? ⟨p,0,none⟩=some a/\w.cell? ⟨p,1,none⟩=some b/\w.cell? ⟨p,2,none⟩=some c/\w.cell? ⟨p,3,none⟩=some d/\w.cell? ⟨p,4,none⟩=some e/\w.cell? ⟨p,5,none⟩=some f/\w.cell? ⟨p,6,none⟩=some g/\w.cell? ⟨p,7,none⟩=some h/\w.cell? ⟨p,8,none⟩=some i/\w.cell? ⟨p,9,none⟩=some j/\w.cell? ⟨p,10,none⟩=some k/\w.cell? ⟨p,11,none⟩=some m/\w.cell? ⟨p,12,none⟩=some n:=⟨x.c 0 _ rfl,x.c 1 _ rfl,x.c 2 _ rfl,x.c 3 _ rfl,x.c 4 _ rfl,x.c 5 _ rfl,x.c 6 _ rfl,x.c 7 _ rfl,x.c 8 _ rfl,x.c 9 _ rfl,x.c 10 _ rfl,x.c 11 _ rfl,x.c 12 _ rfl⟩
theorem Ae.f2(x:Ae w p (a::b::l)):w.frozen? ⟨p,0,none⟩=false/\w.frozen? ⟨p,1,none⟩=false:=by grind [cases Ae]
theorem Ae.f3(x:Ae w p (a::b::c::l)):w.frozen? ⟨p,0,none⟩=false/\w.frozen? ⟨p,1,none⟩=false/\w.frozen? ⟨p,2,none⟩=false:=by grind [cases Ae]
theorem Ae.f5(x:Ae w p (a::b::c::d::e::l)):w.frozen? ⟨p,0,none⟩=false/\w.frozen? ⟨p,1,none⟩=false/\w.frozen? ⟨p,2,none⟩=false/\w.frozen? ⟨p,3,none⟩=false/\w.frozen? ⟨p,4,none⟩=false:=by grind [cases Ae]
theorem Ae.f6(x:Ae w p (a::b::c::d::e::f::l)):w.frozen? ⟨p,0,none⟩=false/\w.frozen? ⟨p,1,none⟩=false/\w.frozen? ⟨p,2,none⟩=false/\w.frozen? ⟨p,3,none⟩=false/\w.frozen? ⟨p,4,none⟩=false/\w.frozen? ⟨p,5,none⟩=false:=by grind [cases Ae]
theorem Ae.f9(x:Ae w p (a::b::c::d::e::f::g::h::i::l)):w.frozen? ⟨p,0,none⟩=false/\w.frozen? ⟨p,1,none⟩=false/\w.frozen? ⟨p,2,none⟩=false/\w.frozen? ⟨p,3,none⟩=false/\w.frozen? ⟨p,4,none⟩=false/\w.frozen? ⟨p,5,none⟩=false/\w.frozen? ⟨p,6,none⟩=false/\w.frozen? ⟨p,7,none⟩=false/\w.frozen? ⟨p,8,none⟩=false:=⟨x.f 0 (by simp),x.f 1 (by simp),x.f 2 (by simp),x.f 3 (by simp),x.f 4 (by simp),x.f 5 (by simp),x.f 6 (by simp),x.f 7 (by simp),x.f 8 (by simp)⟩
theorem Ae.f13(x:Ae w p (a::b::c::d::e::f::g::h::i::j::k::m::n::l)):w.frozen? ⟨p,0,none⟩=false/\w.frozen? ⟨p,1,none⟩=false/\w.frozen? ⟨p,2,none⟩=false/\w.frozen? ⟨p,3,none⟩=false/\w.frozen? ⟨p,4,none⟩=false/\w.frozen? ⟨p,5,none⟩=false/\w.frozen? ⟨p,6,none⟩=false/\w.frozen? ⟨p,7,none⟩=false/\w.frozen? ⟨p,8,none⟩=false/\w.frozen? ⟨p,9,none⟩=false/\w.frozen? ⟨p,10,none⟩=false/\w.frozen? ⟨p,11,none⟩=false/\w.frozen? ⟨p,12,none⟩=false:=⟨x.f 0 (by simp),x.f 1 (by simp),x.f 2 (by simp),x.f 3 (by simp),x.f 4 (by simp),x.f 5 (by simp),x.f 6 (by simp),x.f 7 (by simp),x.f 8 (by simp),x.f 9 (by simp),x.f 10 (by simp),x.f 11 (by simp),x.f 12 (by simp)⟩
end
section
variable {P : Program} {fn : Func} {R : Ending -> World -> Prop} {a : Act} {w : World} {v : Value} {p u t : Tmp} {ty oo : TypeId}
theorem rB(h:fn.results=#[.cell p ty,.tmp u])(hr:(((asAddr (a.tmps.getD p undef)).run P w).andThen fun b w₁=>((loadVar ty b).run P w₁).andThen fun v w₂=> .ok (.tuple #[v,a.tmps.getD u undef]) w₂)=.ok v w)(hd:a.defers=[])(hR:R (.returned v) w):bodyPost P fn R .ret a w:=
 bodyPost_ret_by ((results_cell_tmp h _ _ _).trans hr) hd hR
end
def TG(w:World)(p:Nat)(t:TypeId):Prop:=∃cur m,w.heap[p]? =some (.cells cur t m)
theorem TG.lt{w:World}{p:Nat}{t:TypeId}(h:TG w p t):p<w.heap.size:=by grind [TG]
theorem BR{w:World}(h:Below (w.alloc (Obj.cells c1.toArray t1)).heap.size (w.alloc (Obj.cells c1.toArray t1)) w1):Ae w1 w.heap.size c1/\AA6 w w1:=by
 have h1:=AJ w (Obj.cells c1.toArray t1);exact⟨(Ae.alloc w c1 t1).below (by simp) h,AB h1 h⟩
theorem Ch{w:World}{c2:List Value}{t2:TypeId}(h:Below ((w.alloc (Obj.cells c1.toArray t1)).alloc (Obj.cells c2.toArray t2)).heap.size ((w.alloc (Obj.cells c1.toArray t1)).alloc (Obj.cells c2.toArray t2)) w1):Ae w1 w.heap.size c1/\Ae w1 (w.heap.size+1) c2/\AA6 w w1:=by
 have s1:(w.alloc (Obj.cells c1.toArray t1)).heap.size=w.heap.size+1:=by simp
 grind [BR,cases Ae]
theorem aY{w:World}{c2 c3:List Value}{t2 t3:TypeId}(h:Below (((w.alloc (Obj.cells c1.toArray t1)).alloc (Obj.cells c2.toArray t2)).alloc (Obj.cells c3.toArray t3)).heap.size (((w.alloc (Obj.cells c1.toArray t1)).alloc (Obj.cells c2.toArray t2)).alloc (Obj.cells c3.toArray t3)) w1):Ae w1 w.heap.size c1/\Ae w1 (w.heap.size+1) c2/\Ae w1 (w.heap.size+1+1) c3/\AA6 w w1:=by
 have s1:((w.alloc (Obj.cells c1.toArray t1)).alloc (Obj.cells c2.toArray t2)).heap.size=w.heap.size+1+1:=by simp
 grind [BR,Ch,cases Ae]
def Ck(w0:World)(na ns:Nat)(zs cs:List Value)(V:Nat->Value)(L:Nat->Bool)(w1:World):Prop:=
 AA6 w0 w1/\(L ns=true->L na=true)/\
  (L na=true->∃p,V na=.pointer (some ⟨p,0,none⟩)/\w0.heap.size<=p/\p<w1.heap.size/\Ae w1 p (if L ns=true then cs else zs))
theorem upd_ne{i k:Nat}(h:(k==i)=false):upd L i k=L k:=by simp[upd,h]
theorem Cc{i:Nat}:upd L i i=true:=by simp[upd]
theorem Ck.start(h:AA6 w0 w1):Ck w0 na ns zs cs V (fun _=>false) w1:=by grind [Ck]
theorem Ck.keep(h:Ck w0 na ns zs cs V L w1){i:Nat}(h1:(na==i)=false)(h2:(ns==i)=false):Ck w0 na ns zs cs V (upd L i) w1:=by simp_all[Ck,upd]
theorem Ck.call(h:Ck w0 na ns zs cs V L w1)(hb:AA6 w1 w2){i:Nat}(h1:(na==i)=false)(h2:(ns==i)=false):Ck w0 na ns zs cs V (upd L i) w2:=by
 refine Ck.keep ⟨h.1.trans (hb.mono h.1.size),h.2.1,fun hl=>?_⟩ h1 h2;obtain⟨p,e,h3,h4,h5⟩:=h.2.2 hl;exact⟨p,e,h3,A9 h4 hb.size,h5.below h4 hb⟩
theorem Ck.made(h:Ck w0 na ns zs cs V L w1)(hns:(ns==na)=false)(hl:L na=false)(t:TypeId):Ck w0 na ns zs cs (EB V na (.pointer (some ⟨w1.heap.size,0,none⟩))) (upd L na) (w1.alloc (Obj.cells zs.toArray t)):=by
 have hno:L ns=false:=by
  cases hn:L ns with
  |false=>rfl
  |true=>have:=h.2.1 hn;rw[hl]at this;cases this
 refine⟨h.1.alloc h.1.size _,fun _=>Cc,fun _=>⟨w1.heap.size,BL _ _ _,h.1.size,by simp,?_⟩⟩;rw[upd_ne hns,hno];exact Ae.alloc w1 zs t
theorem Ck.at(h:Ck w0 na ns zs cs V L w1)(hl:L na=true)(hn:L ns=false):∃p,V na=.pointer (some ⟨p,0,none⟩)/\w0.heap.size<=p/\p<w1.heap.size/\Ae w1 p zs:=by simp_all[Ck,none]
theorem Ck.done(h:Ck w0 na ns zs cs V L w1)(hl:L na=true)(hn:L ns=true):∃p,V na=.pointer (some ⟨p,0,none⟩)/\w0.heap.size<=p/\p<w1.heap.size/\Ae w1 p cs:=by simp_all[Ck,none]
theorem Ck.fill(_:Ck w0 na ns zs cs V L w1)(hl:L na=true){p:Nat}(hp:V na=.pointer (some ⟨p,0,none⟩))(hp0:w0.heap.size<=p)(hp1:p<w2.heap.size)(hB:AA6 w0 w2)(hx:Ae w2 p cs)(hns:(na==ns)=false):Ck w0 na ns zs cs V (upd L ns) w2:=by simp_all[Ck,none,upd]
def Ah(st:Nat)(I J:World->Prop)(L:Nat->Bool)(w:World):Prop:=(L st=false->I w)/\(L st=true->J w)
theorem Ah.start{I J:World->Prop}{w:World}(h:I w):Ah st I J (fun _=>false) w:=by grind [Ah]
theorem Ah.keep{I J:World->Prop}{i:Nat}{w:World}(hl:L st=false)(h:I w)(hne:(st==i)=false):Ah st I J (upd L i) w:=by simp_all[Ah,upd]
theorem Ah.done{I J:World->Prop}{w:World}(h:J w):Ah st I J (upd L st) w:=by simp_all[Ah,upd]
theorem Ah.pass{I J:World->Prop}{i:Nat}{w:World}(h:Ah st I J L w)(hne:(st==i)=false):Ah st I J (upd L i) w:=by simp_all[Ah,upd]
end
end Go.Proofs.YtlffomedflegdaaGreatDoor
