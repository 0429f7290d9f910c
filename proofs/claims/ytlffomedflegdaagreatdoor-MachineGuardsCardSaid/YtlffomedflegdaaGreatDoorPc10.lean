/- Part 10 of the proof: Nj, Nk, Nl, Nm, Nn, No. -/
import Derived.Laws.Externs
import Derived.Shelf.SlMaps.Clone
import Derived.Test.YtlffomedflegdaaGreatDoorPc09
set_option linter.all false
set_option maxHeartbeats 16000000
set_option maxRecDepth 100000
namespace Go.Proofs.YtlffomedflegdaaGreatDoor
open Go.Proofs.Tryz
open Go.RowKit
variable {B g m n o:Nat}{F f fp:List Nat}{e:TypeId}{fr gl hp mk tr v:Value}{r:List Dt}{w w0 w1:World}{xs:List Value}{α:Type}
section
open Num Dp
structure ED{α:Type}(enc:α->Dt)(w:World)(B:Nat)(e:TypeId)(s:Nat)(l:List α)(xs:List Value)(v:Value)(q:Nat)(f1:List Nat):Prop where
 own:∃ys,w.ownsRow B e s v l.length ys/\∀j,q*s<=j->ys[j]? =xs[j]?
 done:∀F c,v=.slice (some ⟨F,0,none⟩) l.length c->AP w B ((l.take q).map enc) F 0 f1/\(F::f1).Nodup
 nil:v.ownBlock=none->f1=[]
section
variable {α : Type} {enc : α -> Dt} {w w2 : World} {B : Nat} {e : TypeId} {s : Nat} {l : List α} {xs : List Value} {v : Value} {q : Nat} {f1 f2 : List Nat}
theorem ED.start(h:w.ownsRow B e s v l.length xs):ED enc w B e s l xs v 0 []:=
 ⟨⟨xs,h,fun _ _=>rfl⟩,fun F c _=>⟨by simp;unfold AP;rfl,by simp⟩,fun _=>rfl⟩
theorem ED.slice(h:ED enc w B e s l xs v q f1)(hq:q<l.length):∃F c,v=.slice (some ⟨F,0,none⟩) l.length c/\B<=F/\F<w.heap.size/\(∀o,w.frozen? ⟨F,o,none⟩=false)/\∀k,k<s->w.cell? ⟨F,q*s+k,none⟩=xs[q*s+k]? :=by
 obtain⟨ys,ho,hy⟩:=h.own;rcases id ho.2 with⟨-,h0⟩|⟨g,cap,cur,rfl,hb,hg,hn,-⟩
 ·omega
 ·refine⟨g,cap,rfl,hb,(ho.lt g rfl).2,fun o=>ho.frozenAt o,fun k hk=>?_⟩;rw[ho.cellAt _ (OG hq hk)];exact hy _ (by omega)
theorem ED.step{F c k:Nat}(h:ED enc w B e s l xs (.slice (some ⟨F,0,none⟩) l.length c) q f1)(hq:q<l.length)(hs:∀x,(enc x).wd=s)(hk:k<s)(hb:AA6 w w2){u:Value}(hl:Af (w2.setCell ⟨F,q*s+k,none⟩ u) B (enc l[q]) F (q*s) f2) (hf2:∀b∈f2,w.heap.size<=b) (hn2:f2.Nodup):ED enc (w2.setCell ⟨F,q*s+k,none⟩ u) B e s l xs (.slice (some ⟨F,0,none⟩) l.length c) (q+1) (f1++f2):=by
 obtain⟨ys,ho,hy⟩:=h.own;obtain⟨hd,hnd⟩:=h.done F c rfl;have hF:=(ho.lt F rfl).2;have ho2:=(World.ownsRow.stored (Dh ho hb (AQ)) (q*s+k) u).1;rw[BN]at hnd;have hlt:∀b∈f1,b<w.heap.size:=fun b hb'=>(hd.fp b hb').2;have hwd:Dt.DF ((l.take q).map enc)=q*s:=by
  rw[HZ (s:=s) (fun d hd=>by obtain⟨x,-,rfl⟩:=List.mem_map.1 hd;exact hs x)];rw[List.length_map,List.length_take,Nat.min_eq_left (by omega)]
 refine⟨⟨_,ho2,fun j hj=>?_⟩,fun F' c' e'=>?_,fun e'=>by simp[Value.ownBlock]at e'⟩
 ·rw[List.getElem?_set_ne (by rw[Nat.add_mul]at hj;omega)];exact hy j (by rw[Nat.add_mul]at hj;omega)
 ·obtain⟨rfl,-⟩:F'=F/\True:=by simpa using(show F=F'/\_ by simpa using e').1.symm
  refine⟨?_,BN.2 ⟨?_,GL.2 ⟨hnd.2,hn2,fun b h1 h2=>?_⟩⟩⟩
  ·rw[List.take_succ_eq_append_getElem hq,List.map_append,List.map_singleton];refine AP.app.2 ⟨f1,f2,rfl,hd.move (fun j hj=>?_) (fun b hb'=>?_),?_⟩
   ·rw[hwd]at hj;rw[World.cell?_setCell_other _ _ _ _ (Ik (by omega))];exact BM (hb.block _ hF) _
   ·exact(Below.heap_setCell _ _ _ _ (fun e=>hnd.1 (by rw[show F'=b from e.symm];exact hb'))).trans (hb.block b (hlt b hb'))
   ·rw[hwd,Nat.zero_add];unfold AP;exact⟨f2,[],by simp,hl,by unfold AP;rfl⟩
  ·rw[List.mem_append,not_or];exact⟨hnd.1,fun h3=>by have:=hf2 _ h3;omega⟩
  ·have:=hf2 b h2;have:=hlt b h1;omega
theorem ED.fin(h:ED enc w B e s l xs v l.length f1)(hs:∀x,(enc x).wd=s):∃fp,AZ w B e s (l.map enc) v fp/\fp.Nodup:=by
 obtain⟨ys,ho,-⟩:=h.own;rcases ho.2 with⟨rfl,h0⟩|⟨g,cap,cur,rfl,hb,hg,hn,hc,hz,-⟩
 ·have:l=[]:=List.eq_nil_of_length_eq_zero h0;subst this;exact⟨[],.nil,by simp⟩
 ·obtain⟨hd,hnd⟩:=h.done g cap rfl;rw[List.take_length]at hd;exact⟨g::f1,.inr ⟨g,cap,cur,f1,by simp,hb,hg,by simpa using hn,hc,hz,rfl,fun d hd=>by obtain⟨x,-,rfl⟩:=List.mem_map.1 hd;exact hs x,hd⟩,hnd⟩
theorem ED.nx(h:ED enc w B e s l xs v q f1)(hk:∀b,b<w.heap.size->B<=b->w2.heap[b]? =w.heap[b]?)(hz:w.heap.size<=w2.heap.size):ED enc w2 B e s l xs v q f1:=by
 obtain⟨⟨ys,ho,hy⟩,hd,hn⟩:=h;refine⟨⟨ys,?_,hy⟩,fun F c e=>?_,hn⟩
 ·rcases id ho with⟨h1,h2⟩;refine⟨h1,?_⟩;rcases h2 with h2|⟨g,cap,cur,e,hb,hg,h3⟩
  ·exact .inl h2
  ·exact .inr ⟨g,cap,cur,e,hb,(hk g (Array.getElem?_eq_some_iff.1 hg).1 hb).trans hg,h3⟩
 ·obtain⟨h1,h2⟩:=hd F c e;have hF:=ho.lt F (by rw[e];rfl);exact⟨h1.move (fun j _=>BM (hk F hF.2 hF.1) _) (fun b hb=>hk b (h1.fp b hb).2 (h1.fp b hb).1),h2⟩
end
theorem AZ.RB{s:Nat}{l:List Dt}(h:AZ w B e s l v fp):∃xs,w.ownsRow B e s v l.length xs/\(∀u∈xs,u.oneCell'=true)/\∀F c,v=.slice (some ⟨F,0,none⟩) l.length c->∃f1,AP w B l F 0 f1:=by
 obtain⟨xs,hx⟩:=h.owns;refine⟨xs,hx,fun u hu=>?_,fun F c e=>?_⟩
 ·obtain⟨j,hj⟩:=List.mem_iff_getElem?.1 hu;have hjl:=(List.getElem?_eq_some_iff.1 hj).1;rcases h with⟨rfl,rfl,-⟩|⟨g',cap,cur,f',rfl,h2,h3,h4,h5,h6,h7,h8,h9⟩
  ·have:=hx.1;simp at this;subst this;simp at hu
  ·rw[hx.1]at hjl;obtain⟨v,hc,h1⟩:=h9.cells j (by rw[HZ h8];exact hjl);rw[Nat.zero_add,Ep hx hjl,hj]at hc;obtain rfl:u=v:=(by simpa using hc);exact h1
 ·rcases h with⟨rfl,rfl,-⟩|⟨g',cap,cur,f',rfl,h2,h3,h4,h5,h6,h7,h8,h9⟩
  ·simp at e
  ·obtain⟨rfl,-⟩:g'=F/\True:=(by simpa using(show g'=F/\_ by simpa using e).1);exact⟨f',h9⟩
theorem AZ.flat{enc:α->Dt}{w2:World}{B2 s:Nat}{l:List α}{v2:Value}(h:AZ w B e s (l.map enc) v fp)(hx:w.ownsRow B e s v l.length xs)(ho:w2.ownsRow B2 e s v2 l.length xs)(hs:∀x,(enc x).wd=s)(hf:∀x g o f g2 o2,Af w B (enc x) g o f->(∀j,j<s->w2.cell? ⟨g2,o2+j,none⟩=w.cell? ⟨g,o+j,none⟩)->Af w2 B2 (enc x) g2 o2 []):∃fp,AZ w2 B2 e s (l.map enc) v2 fp/\fp.Nodup:=by
 rcases id ho.2 with⟨rfl,h0⟩|⟨g,cap,cur,rfl,hb,hg,hn,hc,hz,-⟩
 ·have:l=[]:=List.eq_nil_of_length_eq_zero h0;subst this;exact⟨[],.nil,by simp⟩
 ·have key:AP w2 B2 (l.map enc) g 0 []:=by
   rcases h with⟨-,h0,-⟩|⟨g',cap',cur',f',rfl,h2,h3,h4,h5,h6,h7,h8,h9⟩
   ·have:l=[]:=(by simpa using h0);subst this;unfold AP;rfl
   ·have each:∀(m:Nat),m<=l.length->AP w2 B2 ((l.take m).map enc) g 0 []:=by
     intro m
     induction m with
     |zero=>intro _;unfold AP;rfl
     |succ m ih=>
      intro hm;have hm':m<l.length:=(by omega);rw[List.take_succ_eq_append_getElem hm',List.map_append,List.map_singleton];refine AP.app.2 ⟨[],[],rfl,ih (by omega),?_⟩;unfold AP;refine⟨[],[],rfl,?_,by unfold AP;rfl⟩;have hwd:Dt.DF ((l.take m).map enc)=m*s:=by
       rw[HZ (s:=s) (fun d hd=>by obtain⟨x,-,rfl⟩:=List.mem_map.1 hd;exact hs x)];rw[List.length_map,List.length_take,Nat.min_eq_left (by omega)]
      rw[hwd,Nat.zero_add];obtain⟨f,hf1⟩:=h9.nth hs m l[m] (by simp[hm']);refine hf _ _ _ _ _ _ hf1 fun j hj=>?_;rw[Nat.zero_add,ho.cellAt _ (OG hm' hj),<-Ep (by simpa using hx) (OG hm' hj)]
    have:=each l.length (AQ);rwa[List.take_length]at this
  exact⟨[g],.inr ⟨g,cap,cur,[],by simp,hb,hg,by simpa using hn,hc,hz,rfl,fun d hd=>by obtain⟨x,-,rfl⟩:=List.mem_map.1 hd;exact hs x,key⟩,by simp⟩
theorem AAp(h:w.ownsRow B 84 4 v n xs)(h1:∀u∈xs,u.oneCell'=true)(hn:n<=1000000):Calls prog 44 #[v] w fun e w'=>∃v',e=.returned v'/\w'.ownsRow w.heap.size 84 4 v' n xs/\AA6 w w':=by
 obtain⟨i0,hi,hz0,hz1,hz2⟩:=Cq aL;have hlen:=h.1;rcases h.2 with⟨rfl,rfl⟩|⟨g,cap,cur,rfl,-⟩
 ·have hnil:=fun(w:World) (l c:Nat)=>Lib.run_eql_slice_nil (P:=prog) w 35 84 none l c 0 0 underlying35;have hx:xs=[]:=List.eq_nil_of_length_eq_zero (by simpa using hlen);subst hx;clear h;go_enter func44,ntmps44;go_wp2;go_ret;exact⟨_,rfl,World.ownsRow_nil _ _ _ _,AL⟩
 ·have hnews':∀j u,xs[j]? =some u->(w.alloc (Obj.cells #[] 84)).cell? ((⟨g,0,none⟩:Addr).add j)=some u:=fun j u hu=>by
   have hc:=h.cells rfl j u hu;rw[World.cell?_alloc_lt _ _ _ (World.block_lt_of_cell? w _ hc)];exact hc
  have hnil:=fun(w:World) (l c:Nat)=>Lib.run_eql_slice_nil (P:=prog) w 35 84 (some ⟨g,0,none⟩) l c 0 0 underlying35;go_enter func44,ntmps44;go_wp2_with(at_builtin;refine wpList_append_own _ rfl _ _ 35 rfl w.heap.size 84 i0 _ 4 48 underlying35 hi hz0 hz1 hz2 rfl (by decide) _ _ _ rfl (World.ownsRow_made w #[] 0 (AQ) (by decide) rfl) ⟨g,0,none⟩ n cap xs rfl ?c1 hnews' ?c3 ?c4 ?c5 ?c6 ?_)
  case c1=>exact hlen
  case c3=>exact h1
  case c4=>unfold maxLen;omega
  case c5=>omega
  case c6=>simp
  intro v' w2 hown hg _;have hB:AA6 w w2:=(AJ w _).grown hg (by simp) (fun k e=>Nat.le_of_eq (by simpa[Value.ownBlock]using e));obtain⟨pu,cu,rfl⟩:=Bf hown;replace hown:w2.ownsRow w.heap.size 84 4 (.slice pu n cu) n xs:=by simpa using hown
  go_wp2;go_ret;exact⟨_,rfl,hown,hB⟩
theorem AAo(h:w.ownsRow B 119 2 v n xs)(h1:∀u∈xs,u.oneCell'=true)(hn:n<=1000000):Calls prog 46 #[v] w fun e w'=>∃v',e=.returned v'/\w'.ownsRow w.heap.size 119 2 v' n xs/\AA6 w w':=by
 obtain⟨i0,hi,hz0,hz1,hz2⟩:=Cq aK;have hlen:=h.1;rcases h.2 with⟨rfl,rfl⟩|⟨g,cap,cur,rfl,-⟩
 ·have hnil:=fun(w:World) (l c:Nat)=>Lib.run_eql_slice_nil (P:=prog) w 36 119 none l c 0 0 underlying36;have hx:xs=[]:=List.eq_nil_of_length_eq_zero (by simpa using hlen);subst hx;clear h;go_enter func46,ntmps46;go_wp2;go_ret;exact⟨_,rfl,World.ownsRow_nil _ _ _ _,AL⟩
 ·have hnews':∀j u,xs[j]? =some u->(w.alloc (Obj.cells #[] 119)).cell? ((⟨g,0,none⟩:Addr).add j)=some u:=fun j u hu=>by
   have hc:=h.cells rfl j u hu;rw[World.cell?_alloc_lt _ _ _ (World.block_lt_of_cell? w _ hc)];exact hc
  have hnil:=fun(w:World) (l c:Nat)=>Lib.run_eql_slice_nil (P:=prog) w 36 119 (some ⟨g,0,none⟩) l c 0 0 underlying36;go_enter func46,ntmps46;go_wp2_with(at_builtin;refine wpList_append_own _ rfl _ _ 36 rfl w.heap.size 119 i0 _ 2 40 underlying36 hi hz0 hz1 hz2 rfl (by decide) _ _ _ rfl (World.ownsRow_made w #[] 0 (AQ) (by decide) rfl) ⟨g,0,none⟩ n cap xs rfl ?c1 hnews' ?c3 ?c4 ?c5 ?c6 ?_)
  case c1=>exact hlen
  case c3=>exact h1
  case c4=>unfold maxLen;omega
  case c5=>omega
  case c6=>simp
  intro v' w2 hown hg _;have hB:AA6 w w2:=(AJ w _).grown hg (by simp) (fun k e=>Nat.le_of_eq (by simpa[Value.ownBlock]using e));obtain⟨pu,cu,rfl⟩:=Bf hown;replace hown:w2.ownsRow w.heap.size 119 2 (.slice pu n cu) n xs:=by simpa using hown
  go_wp2;go_ret;exact⟨_,rfl,hown,hB⟩
theorem copyV(h:w.ownsRow B 34 2 v n xs)(h1:∀u∈xs,u.oneCell'=true)(hn:n<=1000000):Calls prog 47 #[v] w fun e w'=>∃v',e=.returned v'/\w'.ownsRow w.heap.size 34 2 v' n xs/\AA6 w w':=by
 obtain⟨i0,hi,hz0,hz1,hz2⟩:=Cq VW;have hlen:=h.1;rcases h.2 with⟨rfl,rfl⟩|⟨g,cap,cur,rfl,-⟩
 ·have hnil:=fun(w:World) (l c:Nat)=>Lib.run_eql_slice_nil (P:=prog) w 37 34 none l c 0 0 underlying37;have hx:xs=[]:=List.eq_nil_of_length_eq_zero (by simpa using hlen);subst hx;clear h;go_enter func47,ntmps47;go_wp2;go_ret;exact⟨_,rfl,World.ownsRow_nil _ _ _ _,AL⟩
 ·have hnews':∀j u,xs[j]? =some u->(w.alloc (Obj.cells #[] 34)).cell? ((⟨g,0,none⟩:Addr).add j)=some u:=fun j u hu=>by
   have hc:=h.cells rfl j u hu;rw[World.cell?_alloc_lt _ _ _ (World.block_lt_of_cell? w _ hc)];exact hc
  have hnil:=fun(w:World) (l c:Nat)=>Lib.run_eql_slice_nil (P:=prog) w 37 34 (some ⟨g,0,none⟩) l c 0 0 underlying37;go_enter func47,ntmps47;go_wp2_with(at_builtin;refine wpList_append_own _ rfl _ _ 37 rfl w.heap.size 34 i0 _ 2 24 underlying37 hi hz0 hz1 hz2 rfl (by decide) _ _ _ rfl (World.ownsRow_made w #[] 0 (AQ) (by decide) rfl) ⟨g,0,none⟩ n cap xs rfl ?c1 hnews' ?c3 ?c4 ?c5 ?c6 ?_)
  case c1=>exact hlen
  case c3=>exact h1
  case c4=>unfold maxLen;omega
  case c5=>omega
  case c6=>simp
  intro v' w2 hown hg _;have hB:AA6 w w2:=(AJ w _).grown hg (by simp) (fun k e=>Nat.le_of_eq (by simpa[Value.ownBlock]using e));obtain⟨pu,cu,rfl⟩:=Bf hown;replace hown:w2.ownsRow w.heap.size 34 2 (.slice pu n cu) n xs:=by simpa using hown
  go_wp2;go_ret;exact⟨_,rfl,hown,hB⟩
theorem AAq(h:w.ownsRow B 59 4 v n xs)(h1:∀u∈xs,u.oneCell'=true)(hn:n<=1000000):Calls prog 48 #[v] w fun e w'=>∃v',e=.returned v'/\w'.ownsRow w.heap.size 59 4 v' n xs/\AA6 w w':=by
 obtain⟨i0,hi,hz0,hz1,hz2⟩:=Cq aM;have hlen:=h.1;rcases h.2 with⟨rfl,rfl⟩|⟨g,cap,cur,rfl,-⟩
 ·have hnil:=fun(w:World) (l c:Nat)=>Lib.run_eql_slice_nil (P:=prog) w 38 59 none l c 0 0 underlying38;have hx:xs=[]:=List.eq_nil_of_length_eq_zero (by simpa using hlen);subst hx;clear h;go_enter func48,ntmps48;go_wp2;go_ret;exact⟨_,rfl,World.ownsRow_nil _ _ _ _,AL⟩
 ·have hnews':∀j u,xs[j]? =some u->(w.alloc (Obj.cells #[] 59)).cell? ((⟨g,0,none⟩:Addr).add j)=some u:=fun j u hu=>by
   have hc:=h.cells rfl j u hu;rw[World.cell?_alloc_lt _ _ _ (World.block_lt_of_cell? w _ hc)];exact hc
  have hnil:=fun(w:World) (l c:Nat)=>Lib.run_eql_slice_nil (P:=prog) w 38 59 (some ⟨g,0,none⟩) l c 0 0 underlying38;go_enter func48,ntmps48;go_wp2_with(at_builtin;refine wpList_append_own _ rfl _ _ 38 rfl w.heap.size 59 i0 _ 4 56 underlying38 hi hz0 hz1 hz2 rfl (by decide) _ _ _ rfl (World.ownsRow_made w #[] 0 (AQ) (by decide) rfl) ⟨g,0,none⟩ n cap xs rfl ?c1 hnews' ?c3 ?c4 ?c5 ?c6 ?_)
  case c1=>exact hlen
  case c3=>exact h1
  case c4=>unfold maxLen;omega
  case c5=>omega
  case c6=>simp
  intro v' w2 hown hg _;have hB:AA6 w w2:=(AJ w _).grown hg (by simp) (fun k e=>Nat.le_of_eq (by simpa[Value.ownBlock]using e));obtain⟨pu,cu,rfl⟩:=Bf hown;replace hown:w2.ownsRow w.heap.size 59 4 (.slice pu n cu) n xs:=by simpa using hown
  go_wp2;go_ret;exact⟨_,rfl,hown,hB⟩
theorem AAn(h:w.ownsRow B 2 1 v n xs)(h1:∀u∈xs,u.oneCell'=true)(hn:n<=1000000):Calls prog 49 #[v] w fun e w'=>∃v',e=.returned v'/\w'.ownsRow w.heap.size 2 1 v' n xs/\AA6 w w':=by
 obtain⟨i0,hi,hz0,hz1,hz2⟩:=Cq Zx;have hlen:=h.1;rcases h.2 with⟨rfl,rfl⟩|⟨g,cap,cur,rfl,-⟩
 ·have hnil:=fun(w:World) (l c:Nat)=>Lib.run_eql_slice_nil (P:=prog) w 28 2 none l c 0 0 underlying28;have hx:xs=[]:=List.eq_nil_of_length_eq_zero (by simpa using hlen);subst hx;clear h;go_enter func49,ntmps49;go_wp2;go_ret;exact⟨_,rfl,World.ownsRow_nil _ _ _ _,AL⟩
 ·have hnews':∀j u,xs[j]? =some u->(w.alloc (Obj.cells #[] 2)).cell? ((⟨g,0,none⟩:Addr).add j)=some u:=fun j u hu=>by
   have hc:=h.cells rfl j u hu;rw[World.cell?_alloc_lt _ _ _ (World.block_lt_of_cell? w _ hc)];exact hc
  have hnil:=fun(w:World) (l c:Nat)=>Lib.run_eql_slice_nil (P:=prog) w 28 2 (some ⟨g,0,none⟩) l c 0 0 underlying28;go_enter func49,ntmps49;go_wp2_with(at_builtin;refine wpList_append_own _ rfl _ _ 28 rfl w.heap.size 2 i0 _ 1 8 underlying28 hi hz0 hz1 hz2 rfl (by decide) _ _ _ rfl (World.ownsRow_made w #[] 0 (AQ) (by decide) rfl) ⟨g,0,none⟩ n cap xs rfl ?c1 hnews' ?c3 ?c4 ?c5 ?c6 ?_)
  case c1=>exact hlen
  case c3=>exact h1
  case c4=>unfold maxLen;omega
  case c5=>omega
  case c6=>simp
  intro v' w2 hown hg _;have hB:AA6 w w2:=(AJ w _).grown hg (by simp) (fun k e=>Nat.le_of_eq (by simpa[Value.ownBlock]using e));obtain⟨pu,cu,rfl⟩:=Bf hown;replace hown:w2.ownsRow w.heap.size 2 1 (.slice pu n cu) n xs:=by simpa using hown
  go_wp2;go_ret;exact⟨_,rfl,hown,hB⟩
end
section
open Num Dp
theorem YB{b:Nat}{m:Vm}(hm:CQ w b m):Calls prog 45 #[.map (some b)] w fun e w'=>∃nb,e=.returned (.map (some nb))/\w.heap.size<=nb/\CQ w' nb m/\AA6 w w':=by
 obtain⟨es,clock,hb,hrest⟩:=id hm;have t1:=underlying69;have hq:=fun w=>run_eql_map_nil_sl (P:=prog) w 69 _ _ (some b) t1;go_enter func45,ntmps45;go_wp2
 trace_state
 rw[run_callFunc_extern func72 (by kernel_rfl) (by kernel_rfl) (by kernel_rfl) (e:=Extern.MapsClone.clone) (by kernel_rfl),run_maps_clone_sl w 69 hb];simp only[Result.andThen];rw[Oper.upon_value];go_wp2;rw[run_typeAssert_map_sl _ 69 _ _ _ _ t1];simp only[Result.andThen];rw[Oper.upon_value];go_wp2;go_ret;exact⟨_,rfl,AQ,CQ.copy hb hm,AJ _ _⟩
end
section
open Num Dp
def Le(W:World)(na st:Nat)(R:Value->World->Prop)(dst:Addr)(V:Nat->Value)(L:Nat->Bool)(w:World):Prop:=
 (L st=true->L na=true)/\(L st=false->AA6 W w/\(L na=true->R (V na) w))/\(L st=true->∃v0,AA6 W v0/\R (V na) v0/\w=v0.setCell dst (V na))
section
variable {W w w2 : World} {na st : Nat} {R : Value -> World -> Prop} {dst : Addr} {V : Nat -> Value} {L : Nat -> Bool}
theorem Le.start(h:AA6 W w):Le W na st R dst V (fun _=>false) w:=by grind [Le]
theorem Le.keep(h:Le W na st R dst V L w){i:Nat}(h1:(na==i)=false)(h2:(st==i)=false):Le W na st R dst V (upd L i) w:=by simp_all[Le,upd]
theorem Le.below(h:Le W na st R dst V L w)(hs:L st=false):AA6 W w:=(h.2.1 hs).1
theorem Le.call(h:Le W na st R dst V L w)(hs:L st=false)(hb:AA6 w w2)(hR:R v w2)(h1:(st==na)=false):Le W na st R dst (EB V na v) (upd L na) w2:=by grind [Le,EB,upd,Cc,AB,BL,upd_ne]
theorem Le.val(h:Le W na st R dst V L w)(hs:L st=false)(hn:L na=true):R (V na) w:=(h.2.1 hs).2 hn
theorem Le.store(h:Le W na st R dst V L w)(hs:L st=false)(hn:L na=true)(h1:(na==st)=false):Le W na st R dst V (upd L st) (w.setCell dst (V na)):=by grind [Le,upd,upd_ne,Cc]
theorem Le.done(h:Le W na st R dst V L w)(hs:L st=true):∃v0,AA6 W v0/\R (V na) v0/\w=v0.setCell dst (V na):=h.2.2 hs
end
abbrev WG(s:St)(fr hp gl tr mk:Value):List Value:=[.int .i64 s.status,.string s.result.1,.int .i64 s.result.2,.int .i64 s.code,fr,hp,gl,tr,mk,.int .i64 s.allocs,.int .i64 s.steps,.int .i64 s.guards,.int .i64 s.asked]
abbrev Ko(s:St)(fr hp gl tr mk:Value):Value:=.agg #[.int .i64 s.status,.string s.result.1,.int .i64 s.result.2,.int .i64 s.code,fr,hp,gl,tr,mk,.int .i64 s.allocs,.int .i64 s.steps,.int .i64 s.guards,.int .i64 s.asked]
abbrev gF:List Value:=[.int .i64 0,.string ⟨#[]⟩,.int .i64 0,.int .i64 0,.slice none 0 0,.slice none 0 0,.slice none 0 0,.slice none 0 0,.slice none 0 0,.int .i64 0,.int .i64 0,.int .i64 0,.int .i64 0]
structure Qx(w:World)(s:St)(fr hp gl tr mk:Value):Prop where
 fr:∃F,AZ w 0 84 4 (s.frames.map Kw) fr F
 hp:∃F,AZ w 0 119 2 (s.heap.map Ld) hp F
 gl:∃F,AZ w 0 34 2 (s.globals.map C9) gl F
 tr:∃F,AZ w 0 59 4 (s.trace.map Qc) tr F
 mk':∃F,AZ w 0 2 1 (s.marks.map dN) mk F
theorem RD{s:Nat}{l:List Dt}(h:∃F,AZ w 0 e s l v F)(hb:AA6 w w1):∃F,AZ w1 0 e s l v F:=by
 obtain⟨F,h⟩:=h;exact⟨F,h.same fun b hb'=>hb.block b (h.fp b hb').2⟩
theorem Qx.kp{s:St}(h:Qx w s fr hp gl tr mk)(hb:AA6 w w1):Qx w1 s fr hp gl tr mk:=⟨RD h.fr hb,RD h.hp hb,RD h.gl hb,RD h.tr hb,RD h.mk' hb⟩
def Bt(w:World)(B:Nat)(s:St)(fr hp gl tr mk:Value):Prop:=
 ∃F1 F2 F3 F4 F5,AZ w B 84 4 (s.frames.map Kw) fr F1/\AZ w B 119 2 (s.heap.map Ld) hp F2/\AZ w B 34 2 (s.globals.map C9) gl F3/\AZ w B 59 4 (s.trace.map Qc) tr F4/\AZ w B 2 1 (s.marks.map dN) mk F5/\
  (F1++(F2++(F3++(F4++F5)))).Nodup
theorem Bt.in{s:St}(h:Bt w B s fr hp gl tr mk):Qx w s fr hp gl tr mk:=by
 obtain⟨F1,F2,F3,F4,F5,h1,h2,h3,h4,h5,-⟩:=h;exact⟨⟨_,AZ.mono (AY) h1⟩,⟨_,AZ.mono (AY) h2⟩,⟨_,AZ.mono (AY) h3⟩,⟨_,AZ.mono (AY) h4⟩,⟨_,AZ.mono (AY) h5⟩⟩
structure jW(s:St):Prop extends Small s where
 vs:∀ob∈s.heap,ob.vs.length<=1000000
 ar:∀ev∈s.trace,ev.ar.length<=1000000
theorem Lj{a b:List Nat}(ha:a.Nodup)(hb:b.Nodup)(h1:∀x∈a,x<m)(h2:∀x∈b,m<=x):(a++b).Nodup:=by grind
theorem Ja{enc:α->Dt}{s q:Nat}{l:List α}(h:AZ w B e s (l.map enc) v F)(hx:w.ownsRow B e s v l.length xs)(hs:∀x,(enc x).wd=s)(hq:q<l.length):∃G f,Af w B (enc l[q]) G (q*s) f/\∀k,k<s->w.cell? ⟨G,q*s+k,none⟩=xs[q*s+k]? :=by
 rcases h with⟨-,h0,-⟩|⟨g',cap',cur',f',rfl,h2,h3,h4,h5,h6,h7,h8,h9⟩
 ·have:l=[]:=by simpa using h0
  subst this;simp at hq
 ·obtain⟨f,hf⟩:=h9.nth hs q l[q] (by simp[hq]);rw[Nat.zero_add]at hf;exact⟨g',f,hf,fun k hk=>Ep (by simpa using hx) (OG hq hk)⟩
theorem dY{x:Lv}(h:Af w B (Kw x) g o F):w.cell? ⟨g,o,none⟩=some (.string x.f)/\w.cell? ⟨g,o+1,none⟩=some (.string x.b)/\w.cell? ⟨g,o+2,none⟩=some (.int .i64 x.i)/\∃b,w.cell? ⟨g,o+3,none⟩=some (.map (some b))/\CQ w b x.vars:=by
 obtain⟨_,_,h1,h2⟩:=h.l.hd;obtain⟨_,_,h3,h4⟩:=h2.hd;obtain⟨_,_,h5,h6⟩:=h4.hd;obtain⟨_,_,h7,_⟩:=h6.hd;unfold Af at h7;obtain⟨b,h7,-,h8,-⟩:=h7;exact⟨h1.c,h3.c,h5.c,b,h7,h8⟩
theorem dR{x:Ob}(h:Af w B (Ld x) g o F):w.cell? ⟨g,o,none⟩=some (.string x.c)/\∃u f,w.cell? ⟨g,o+1,none⟩=some u/\AZ w B 34 2 (x.vs.map C9) u f:=by
 obtain⟨_,_,h1,h2⟩:=h.l.hd;obtain⟨_,f,h3,h4⟩:=h2.hd;obtain⟨u,h5,h6⟩:=h3.row;exact⟨h1.c,u,_,h5,h6⟩
theorem fH{x:Ev}(h:Af w B (Qc x) g o F):w.cell? ⟨g,o,none⟩=some (.string x.n)/\w.cell? ⟨g,o+2,none⟩=some (.int .i64 x.r)/\w.cell? ⟨g,o+3,none⟩=some (.bool x.fl)/\∃u f,w.cell? ⟨g,o+1,none⟩=some u/\AZ w B 2 1 (x.ar.map dN) u f:=by
 obtain⟨_,_,h1,h2⟩:=h.l.hd;obtain⟨_,f,h3,h4⟩:=h2.hd;obtain⟨_,_,h7,h8⟩:=h4.hd;obtain⟨_,_,h9,_⟩:=h8.hd;obtain⟨u,h5,h6⟩:=h3.row;exact⟨h1.c,h7.c,h9.c,u,_,h5,h6⟩
structure PR(w wr:World)(s:St)(fr hp gl tr mk:Value):Prop where
 p:Ae wr w.heap.size (WG s fr hp gl tr mk)
 r:Ae wr (w.heap.size+1) gF
 b:AA6 w wr
section
variable {w wr w2 : World} {s : St} {fr hp gl tr mk : Value}
theorem PR.nx(h:PR w wr s fr hp gl tr mk)(hb:AA6 wr w2):PR w w2 s fr hp gl tr mk:=⟨h.p.nx hb,h.r.nx hb,AB h.b hb⟩
theorem PR.far(h:PR w wr s fr hp gl tr mk){F:Nat}(hF:w.heap.size+1<F)(o:Nat)(u:Value):PR w (wr.setCell ⟨F,o,none⟩ u) s fr hp gl tr mk:=⟨h.p.far (q:=⟨F,o,none⟩) (show F≠w.heap.size by omega) u,h.r.far (q:=⟨F,o,none⟩) (show F≠w.heap.size+1 by omega) u,h.b.setCell (p:=⟨F,o,none⟩) (show w.heap.size<=F by omega) u⟩
theorem PR.ADR(h:PR w wr s fr hp gl tr mk)(v:Value):PR w (wr.setCell ⟨w.heap.size,4,none⟩ v) s v hp gl tr mk:=⟨h.p.set (i:=4) (by simp) v,h.r.far (q:=⟨w.heap.size,4,none⟩) (show w.heap.size≠w.heap.size+1 by omega) v,h.b.setCell (p:=⟨w.heap.size,4,none⟩) (AQ) v⟩
theorem PR.iW(h:PR w wr s fr hp gl tr mk)(v:Value):PR w (wr.setCell ⟨w.heap.size,5,none⟩ v) s fr v gl tr mk:=⟨h.p.set (i:=5) (by simp) v,h.r.far (q:=⟨w.heap.size,5,none⟩) (show w.heap.size≠w.heap.size+1 by omega) v,h.b.setCell (p:=⟨w.heap.size,5,none⟩) (AQ) v⟩
theorem PR.Wj(h:PR w wr s fr hp gl tr mk)(v:Value):PR w (wr.setCell ⟨w.heap.size,6,none⟩ v) s fr hp v tr mk:=⟨h.p.set (i:=6) (by simp) v,h.r.far (q:=⟨w.heap.size,6,none⟩) (show w.heap.size≠w.heap.size+1 by omega) v,h.b.setCell (p:=⟨w.heap.size,6,none⟩) (AQ) v⟩
theorem PR.qI(h:PR w wr s fr hp gl tr mk)(v:Value):PR w (wr.setCell ⟨w.heap.size,7,none⟩ v) s fr hp gl v mk:=⟨h.p.set (i:=7) (by simp) v,h.r.far (q:=⟨w.heap.size,7,none⟩) (show w.heap.size≠w.heap.size+1 by omega) v,h.b.setCell (p:=⟨w.heap.size,7,none⟩) (AQ) v⟩
theorem PR.iV(h:PR w wr s fr hp gl tr mk)(v:Value):PR w (wr.setCell ⟨w.heap.size,8,none⟩ v) s fr hp gl tr v:=⟨h.p.set (i:=8) (by simp) v,h.r.far (q:=⟨w.heap.size,8,none⟩) (show w.heap.size≠w.heap.size+1 by omega) v,h.b.setCell (p:=⟨w.heap.size,8,none⟩) (AQ) v⟩
end
theorem ED.far{enc:α->Dt}{s:Nat}{l:List α}{q:Nat}{f1:List Nat}(h:ED enc w B e s l xs v q f1){P:Nat}(hP:P<B)(o:Nat)(u:Value):ED enc (w.setCell ⟨P,o,none⟩ u) B e s l xs v q f1:=
 h.nx (fun b _ hb=>Below.heap_setCell _ _ _ _ (by show b≠P;omega)) (by rw[G7];exact AQ)
theorem Apart.new{F:Nat}(h:Apart w0 w1 m)(hF:w0.heap.size<=F)(hm:m<=F)(o:Nat)(u:Value):Apart w0 (w1.setCell ⟨F,o,none⟩ u) m:=
 ⟨h.b.setCell (p:=⟨F,o,none⟩) hm u,fun r h1 h2=>(Below.heap_setCell _ _ _ _ (show r≠F by omega)).trans (h.k r h1 h2)⟩
theorem Apart.lies{s:Nat}{l:List Dt}(h:Apart w0 w1 m)(hl:AZ w0 B e s l v F)(hm:m<B):AZ w1 B e s l v F:=hl.same fun b hb=>h.k b (by have:=(hl.fp b hb).1;omega) (hl.fp b hb).2
theorem AZ.sl{enc:α->Dt}{s:Nat}{l:List α}(h:AZ w B e s (l.map enc) v F):∃p c,v=.slice p l.length c:=by
 obtain⟨p,c,h⟩:=h.slice;grind
theorem aV{l:List Vu}(h:AZ w B 34 2 (l.map C9) v F)(hn:l.length<=1000000):Calls prog 47 #[v] w fun e w'=>∃v' fp,e=.returned v'/\AZ w' w.heap.size 34 2 (l.map C9) v' fp/\fp.Nodup/\AA6 w w':=by
 obtain⟨xs,hx,hx1,-⟩:=h.RB;rw[List.length_map]at hx;refine(copyV hx hx1 hn).mono ?_;rintro e w' ⟨v',rfl,ho,hb⟩;obtain⟨fp,h1,h2⟩:=h.flat hx ho uE fun x g o f g2 o2 hl hc=>by
  have hu:=vU hl;have c0:=hc 0 (by decide);have c1:=hc 1 (by decide);exact Af.of (AP.cc (c0.trans hu.1) rfl (AP.cc (c1.trans hu.2) rfl AP.cn))
 grind
theorem aW{l:List Int}(h:AZ w B 2 1 (l.map dN) v F)(hn:l.length<=1000000):Calls prog 49 #[v] w fun e w'=>∃v' fp,e=.returned v'/\AZ w' w.heap.size 2 1 (l.map dN) v' fp/\fp.Nodup/\AA6 w w':=by
 obtain⟨xs,hx,hx1,-⟩:=h.RB;rw[List.length_map]at hx;refine(AAn hx hx1 hn).mono ?_;rintro e w' ⟨v',rfl,ho,hb⟩;obtain⟨fp,h1,h2⟩:=h.flat hx ho (fun _=>rfl) fun x g o f g2 o2 hl hc=>by
  have c0:=hc 0 (by decide);unfold dN Af at hl⊢;exact⟨c0.trans hl.1,rfl,rfl⟩
 grind
theorem VE{s:St}(hS:Qx w s fr hp gl tr mk)(hz:jW s):Calls prog 25 #[Ko s fr hp gl tr mk] w fun e w'=>∃fr' hp' TV TI mk',e=.returned (Ko s fr' hp' TV TI mk')/\Bt w' w.heap.size s fr' hp' TV TI mk'/\AA6 w w':=by
 unfold Ko;obtain⟨F0,hfr⟩:=hS.fr;obtain⟨pf,kf,rfl⟩:=hfr.slice;obtain⟨H0,nD⟩:=hS.hp;obtain⟨ph,kh,rfl⟩:=nD.slice;obtain⟨G0,hgl⟩:=hS.gl;obtain⟨pg,kg,rfl⟩:=hgl.slice;obtain⟨T0,htr⟩:=hS.tr;obtain⟨pt,kt,rfl⟩:=htr.slice;obtain⟨M0,hmk⟩:=hS.mk';obtain⟨pm,km,rfl⟩:=hmk.slice;simp only[List.length_map]at hfr nD hgl htr hmk hS⊢;obtain⟨hP,hR,hb1⟩:=Ch (w:=w) (c1:=WG s (.slice pf s.frames.length kf) (.slice ph s.heap.length kh) (.slice pg s.globals.length kg) (.slice pt s.trace.length kt) (.slice pm s.marks.length km)) (c2:=gF) (t1:=40) (t2:=40) (AL);have hPR:=PR.mk hP hR hb1;clear hP hR hb1;have hS0:=hS;clear hS;obtain⟨xf,mh,xS,-⟩:=hfr.RB;rw[List.length_map]at mh;have hcl:=fun(v:World) (hv:AA6 w v)=>AAp (Dh mh hv (AQ)) xS hz.fr;go_enter func25,ntmps25;go_wp2_with fail;generalize hW:World.alloc _ _=W at*;have hWz:W.heap.size=w.heap.size+1+1:=by rw[<-hW];simp
 clear hW;refine(hcl _ hPR.b).mono ?_;rintro e w1 ⟨v1,rfl,hv1,hb2⟩;obtain⟨p1,c1,rfl⟩:=Bf hv1;have hP1:=hPR.nx hb2;have hP2:=hP1.ADR (.slice p1 s.frames.length c1);have hC:=(ED.start (enc:=Kw) hv1).far (P:=w.heap.size) (by omega) 4 (.slice p1 s.frames.length c1);have k4:=hP1.p.c 4 _ rfl;have z4:=hP1.p.f 4 (by simp);have k4':=hP2.p.c 4 _ rfl;have hnf:=hz.fr;have hnh:=hz.hp;have hnt:=hz.tr;have hWs:W.heap.size<=(w1.setCell ⟨w.heap.size,4,none⟩ (.slice p1 s.frames.length c1)).heap.size:=by rw[G7];exact hb2.size
 clear hcl hPR hv1 hb2 hP1;go_wp2;go_loopw[13] (fun i wr=>∃(q:Nat) (f1:List Nat),q<=s.frames.length/\i=.int .i64 (q:Int)/\PR w wr s (.slice p1 s.frames.length c1) (.slice ph s.heap.length kh) (.slice pg s.globals.length kg) (.slice pt s.trace.length kt) (.slice pm s.marks.length km)/\ED Kw wr W.heap.size 84 4 s.frames xf (.slice p1 s.frames.length c1) q f1/\W.heap.size<=wr.heap.size) (fun i _=>s.frames.length-(intOf i).toNat);exact⟨0,[],AY,rfl,hP2,hC,hWs⟩;clear hP2 hC k4 z4 k4' hWs;obtain⟨q,f1,hq,rfl,hP,hC,hWs⟩:=hrel;by_cases hend:q=s.frames.length
 ·subst hend;obtain⟨wo,rfl⟩:=again wr;obtain⟨Io,hL1,hN1⟩:=hC.fin UG;clear hC hfr mh xS f1;obtain⟨xh,hxh,xR,-⟩:=nD.RB;rw[List.length_map]at hxh;have hcl:=AAo (Dh hxh hP.b (AQ)) xR hz.hp;have j5:=hP.p.c 5 _ rfl;go_wp2_with fail;refine hcl.mono ?_;rintro e w2 ⟨v2,rfl,hv2,hb2⟩;obtain⟨p2,c2,rfl⟩:=Bf hv2;have hP1:=hP.nx hb2;have hP2:=hP1.iW (.slice p2 s.heap.length c2);have hWo:W.heap.size<=wo.heap.size:=hWs;have hC:=(ED.start (enc:=Ld) hv2).far (P:=w.heap.size) (by omega) 5 (.slice p2 s.heap.length c2);have hap:Apart wo (w2.setCell ⟨w.heap.size,5,none⟩ (.slice p2 s.heap.length c2)) w.heap.size:=(Apart.of hb2 (by omega)).trans (Apart.set 5 _);have k5:=hP1.p.c 5 _ rfl;have z5:=hP1.p.f 5 (by simp);have k5':=hP2.p.c 5 _ rfl;clear hcl hP hv2 hb2 hP1 j5;go_wp2;go_loopw[36] (fun i wr=>∃(q:Nat) (f1:List Nat),q<=s.heap.length/\i=.int .i64 (q:Int)/\PR w wr s (.slice p1 s.frames.length c1) (.slice p2 s.heap.length c2) (.slice pg s.globals.length kg) (.slice pt s.trace.length kt) (.slice pm s.marks.length km)/\ED Ld wr wo.heap.size 119 2 s.heap xh (.slice p2 s.heap.length c2) q f1/\Apart wo wr w.heap.size) (fun i _=>s.heap.length-(intOf i).toNat);exact⟨0,[],AY,rfl,hP2,hC,hap⟩;clear hP2 hC k5 z5 k5' hap;obtain⟨q,f1,hq,rfl,hP,hC,hap⟩:=hrel;by_cases hend:q=s.heap.length
  ·subst hend;obtain⟨wx,rfl⟩:=again wr;obtain⟨fp2,hL2,Qh⟩:=hC.fin UF;have yj:=hap.lies hL1 (by omega);have hwx:=hap.b.size;have hr1:=hL1.fp;clear hC nD hxh xR f1 hap hL1;have hgx:AZ wx 0 34 2 (s.globals.map C9) (.slice pg s.globals.length kg) G0:=hgl.same (fun b hb=>hP.b.block b (hgl.fp b hb).2);have hcl:=aV hgx (by have:=hz.gl;omega);have j6:=hP.p.c 6 _ rfl;go_wp2_with fail;refine hcl.mono ?_;rintro e w3 ⟨v3,fp3,rfl,hL3,gK,hb3⟩;obtain⟨p3,c3,rfl⟩:=hL3.sl;have hP1:=hP.nx hb3;have k6:=hP1.p.c 6 _ rfl;have z6:=hP1.p.f 6 (by simp);have hP2:=hP1.Wj (.slice p3 s.globals.length c3);have Zd:Apart wx (w3.setCell ⟨w.heap.size,6,none⟩ (.slice p3 s.globals.length c3)) w.heap.size:=(Apart.of hb3 (by omega)).trans (Apart.set 6 _);have yh:=Zd.lies yj (by omega);have ACk:=Zd.lies hL2 (by omega);have hr2:=hL2.fp;have hr3:=hL3.fp;have yY:=(Apart.set (w:=w3) (m:=w.heap.size) 6 (.slice p3 s.globals.length c3)).lies hL3 (by omega);have hw3:=hb3.size;have j7:=hP2.p.c 7 _ rfl;have AJI:(w3.setCell ⟨w.heap.size,6,none⟩ (.slice p3 s.globals.length c3)).heap.size=w3.heap.size:=G7 _ _ _;clear hcl hP hb3 hP1 Zd yj hL2 hL3 hgx hgl j6;obtain⟨xt,hxt,xQ,-⟩:=htr.RB;rw[List.length_map]at hxt;go_wp2_with fail;generalize VK:w3.setCell ⟨w.heap.size,6,none⟩ (.slice p3 s.globals.length c3)=wy at*;have hcl:=AAq (Dh hxt hP2.b (AQ)) xQ hz.tr;refine hcl.mono ?_;rintro e w4 ⟨v4,rfl,hv4,hb4⟩;obtain⟨p4,c4,rfl⟩:=Bf hv4;have hP1:=hP2.nx hb4;have hP3:=hP1.qI (.slice p4 s.trace.length c4);have hC:=(ED.start (enc:=Qc) hv4).far (P:=w.heap.size) (by omega) 7 (.slice p4 s.trace.length c4);have hap:Apart wy (w4.setCell ⟨w.heap.size,7,none⟩ (.slice p4 s.trace.length c4)) w.heap.size:=(Apart.of hb4 (by omega)).trans (Apart.set 7 _);have k7:=hP1.p.c 7 _ rfl;have z7:=hP1.p.f 7 (by simp);have k7':=hP3.p.c 7 _ rfl;clear hcl hP2 hv4 hb4 hP1 j7 VK k6 z6;go_wp2;go_loopw[63] (fun i wr=>∃(q:Nat) (f1:List Nat),q<=s.trace.length/\i=.int .i64 (q:Int)/\PR w wr s (.slice p1 s.frames.length c1) (.slice p2 s.heap.length c2) (.slice p3 s.globals.length c3) (.slice p4 s.trace.length c4) (.slice pm s.marks.length km)/\ED Qc wr wy.heap.size 59 4 s.trace xt (.slice p4 s.trace.length c4) q f1/\Apart wy wr w.heap.size) (fun i _=>s.trace.length-(intOf i).toNat);exact⟨0,[],AY,rfl,hP3,hC,hap⟩;clear hP3 hC k7 z7 k7' hap;obtain⟨q,f1,hq,rfl,hP,hC,hap⟩:=hrel;by_cases hend:q=s.trace.length
   ·subst hend;obtain⟨wz,rfl⟩:=again wr;obtain⟨fp4,hL4,hN4⟩:=hC.fin UH;have yg:=hap.lies yh (by omega);have yZ:=hap.lies ACk (by omega);have yX:=hap.lies yY (by omega);have hr4:=hL4.fp;have hwz:=hap.b.size;clear hC htr hxt xQ f1 hap yh ACk yY;have hmx:AZ wz 0 2 1 (s.marks.map dN) (.slice pm s.marks.length km) M0:=hmk.same (fun b hb=>hP.b.block b (hmk.fp b hb).2);have hcl:=aW hmx hz.Lc;have j8:=hP.p.c 8 _ rfl;go_wp2_with fail;refine hcl.mono ?_;rintro e w5 ⟨v5,fp5,rfl,hL5,hN5,hb5⟩;obtain⟨p5,c5,rfl⟩:=hL5.sl;have hP1:=hP.nx hb5;have k8:=hP1.p.c 8 _ rfl;have z8:=hP1.p.f 8 (by simp);have hP2:=hP1.iV (.slice p5 s.marks.length c5);have JE:Apart wz (w5.setCell ⟨w.heap.size,8,none⟩ (.slice p5 s.marks.length c5)) w.heap.size:=(Apart.of hb5 (by omega)).trans (Apart.set 8 _);have vD:=hL5.fp;have hM1:=JE.lies yg (by omega);have hM2:=JE.lies yZ (by omega);have TR:=JE.lies yX (by omega);have hM4:=JE.lies hL4 (by omega);have Yw:=(Apart.set (w:=w5) (m:=w.heap.size) 8 (.slice p5 s.marks.length c5)).lies hL5 (by omega);clear hcl hP hb5 hP1 JE yg yZ yX hL4 hL5 hmx hmk j8;obtain⟨y0,y1,y2,y3,y4,y5,y6,y7,y8,y9,y10,y11,y12⟩:=hP2.p.c13;have r0:=hP2.r.c 0 _ rfl;have g0:=hP2.r.f 0 (by simp);have r1:=hP2.r.c 1 _ rfl;have g1:=hP2.r.f 1 (by simp);have r2:=hP2.r.c 2 _ rfl;have g2:=hP2.r.f 2 (by simp);have r3:=hP2.r.c 3 _ rfl;have g3:=hP2.r.f 3 (by simp);have r4:=hP2.r.c 4 _ rfl;have g4:=hP2.r.f 4 (by simp);have r5:=hP2.r.c 5 _ rfl;have g5:=hP2.r.f 5 (by simp);have r6:=hP2.r.c 6 _ rfl;have g6:=hP2.r.f 6 (by simp);have r7:=hP2.r.c 7 _ rfl;have g7:=hP2.r.f 7 (by simp);have r8:=hP2.r.c 8 _ rfl;have g8:=hP2.r.f 8 (by simp);have r9:=hP2.r.c 9 _ rfl;have g9:=hP2.r.f 9 (by simp);have r10:=hP2.r.c 10 _ rfl;have g10:=hP2.r.f 10 (by simp);have r11:=hP2.r.c 11 _ rfl;have g11:=hP2.r.f 11 (by simp);have r12:=hP2.r.c 12 _ rfl;have g12:=hP2.r.f 12 (by simp);have hRb:=Ay (B:=w.heap.size) (p:=w.heap.size+1) (Aa) (WG s (.slice p1 s.frames.length c1) (.slice p2 s.heap.length c2) (.slice p3 s.globals.length c3) (.slice p4 s.trace.length c4) (.slice p5 s.marks.length c5)) 0 (w5.setCell ⟨w.heap.size,8,none⟩ (.slice p5 s.marks.length c5));have wS:∀b,w.heap.size+1<b->(BZ (w5.setCell ⟨w.heap.size,8,none⟩ (.slice p5 s.marks.length c5)) (w.heap.size+1) 0 (WG s (.slice p1 s.frames.length c1) (.slice p2 s.heap.length c2) (.slice p3 s.globals.length c3) (.slice p4 s.trace.length c4) (.slice p5 s.marks.length c5))).heap[b]? =(w5.setCell ⟨w.heap.size,8,none⟩ (.slice p5 s.marks.length c5)).heap[b]? :=fun b hb=>Bu (by omega) _ 0 _;have hfin:Bt (BZ (w5.setCell ⟨w.heap.size,8,none⟩ (.slice p5 s.marks.length c5)) (w.heap.size+1) 0 (WG s (.slice p1 s.frames.length c1) (.slice p2 s.heap.length c2) (.slice p3 s.globals.length c3) (.slice p4 s.trace.length c4) (.slice p5 s.marks.length c5))) w.heap.size s (.slice p1 s.frames.length c1) (.slice p2 s.heap.length c2) (.slice p3 s.globals.length c3) (.slice p4 s.trace.length c4) (.slice p5 s.marks.length c5):=by
     refine⟨Io,fp2,fp3,fp4,fp5,AZ.mono (by omega) (hM1.same fun b hb=>wS b (by have:=(hM1.fp b hb).1;omega)),AZ.mono (by omega) (hM2.same fun b hb=>wS b (by have:=(hM2.fp b hb).1;omega)),AZ.mono (by omega) (TR.same fun b hb=>wS b (by have:=(TR.fp b hb).1;omega)),AZ.mono (by omega) (hM4.same fun b hb=>wS b (by have:=(hM4.fp b hb).1;omega)),AZ.mono (by omega) (Yw.same fun b hb=>wS b (by have:=(Yw.fp b hb).1;omega)),?_⟩;refine Lj hN1 (Lj Qh (Lj gK (Lj hN4 hN5 (m:=wz.heap.size) (fun b hb=>(hr4 b hb).2) (fun b hb=>(vD b hb).1)) (m:=wy.heap.size) (fun b hb=>?_) (fun b hb=>?_)) (m:=wx.heap.size) (fun b hb=>(hr2 b hb).2) (fun b hb=>?_)) (m:=wo.heap.size) (fun b hb=>(hr1 b hb).2) (fun b hb=>?_);all_goals (try simp only[List.mem_append]at hb)
     ·have:=hr3 b hb;omega
     ·rcases hb with hb|hb
      ·exact(hr4 b hb).1
      ·have:=(vD b hb).1;omega
     ·rcases hb with hb|hb|hb
      ·exact(hr3 b hb).1
      ·have:=(hr4 b hb).1;omega
      ·have:=(vD b hb).1;omega
     ·rcases hb with hb|hb|hb|hb
      ·exact(hr2 b hb).1
      ·have:=(hr3 b hb).1;omega
      ·have:=(hr4 b hb).1;omega
      ·have:=(vD b hb).1;omega
    have Nf:=hP2.b.trans hRb;go_wp2_with fail;(try simp only[Exit.inBlock,Exit.then]);refine bodyPost_ret_by (v:=Ko s (.slice p1 s.frames.length c1) (.slice p2 s.heap.length c2) (.slice p3 s.globals.length c3) (.slice p4 s.trace.length c4) (.slice p5 s.marks.length c5)) ((GQ rfl _ _ _).trans (by go_simp;try rfl)) rfl ?_;exact⟨_,_,_,_,_,rfl,hfin,Nf⟩
   ·have hlt:q<s.trace.length:=(by omega);have A8:(q:Int)<s.trace.length:=(by omega);obtain⟨G,f,hl,hcx⟩:=Ja htr hxt UH hlt;obtain⟨F,cF,iG,hF1,hF2,qB,J7⟩:=hC.slice hlt;obtain⟨rfl,rfl⟩:p4=some ⟨F,0,none⟩/\c4=cF:=(by simpa using iG);obtain⟨l0,l2,l3,u,fu,l1,hu⟩:=fH hl;have e0:=(J7 0 (by decide)).trans ((hcx 0 (by decide)).symm.trans l0);have e1:=(J7 1 (by decide)).trans ((hcx 1 (by decide)).symm.trans l1);have e2:=(J7 2 (by decide)).trans ((hcx 2 (by decide)).symm.trans l2);have e3:=(J7 3 (by decide)).trans ((hcx 3 (by decide)).symm.trans l3);replace hu:AZ wr 0 2 1 ((s.trace[q]).ar.map dN) u fu:=hu.same (fun b hb=>hP.b.block b (hu.fp b hb).2);obtain⟨pu,ku,rfl⟩:=hu.sl;have wH:=hz.ar s.trace[q] (by simp);have k7:=hP.p.c 7 _ rfl;have hwr:w.heap.size+1<F:=(by omega);have Zk:=qB (q*4+1);go_wp2;refine AV (S:=Le wr 9 12 (fun v u=>∃fp,AZ u wr.heap.size 2 1 ((s.trace[q]).ar.map dN) v fp/\fp.Nodup) ⟨F,q*4+1,none⟩) rfl (by kernel_rfl) (Le.start Ac) ?_;(apply AU.z rfl;intro V L w1 _ _ _ z hK;go_simp;exact hK (z.s.keep rfl rfl);intros;rfl);(apply AU.z rfl;intro V L w1 _ _ _ z hK;(have hI:=z.s.below (z.r 12 1 (by kernel_rfl) z.i);have m4:=AA hI k7);go_simp;exact hK (z.s.keep rfl rfl);intros;rfl);(iterate 2((apply AU.z rfl;intro V L w1 _ _ _ z hK;go_simp;exact hK (z.s.keep rfl rfl);intros;rfl)));(apply AU.z rfl;intro V L w1 _ _ _ z hK;(have hI:=z.s.below (z.r 12 4 (by kernel_rfl) z.i);have m4:=AA hI k7);go_simp;exact hK (z.s.keep rfl rfl);intros;rfl);(iterate 3((apply AU.z rfl;intro V L w1 _ _ _ z hK;go_simp;exact hK (z.s.keep rfl rfl);intros;rfl)));(apply AU.z rfl;intro V L w1 _ _ _ z hK;(have hI:=z.s.below (z.r 12 8 (by kernel_rfl) z.i);have m4:=AA hI e1);go_simp;exact hK (z.s.keep rfl rfl);intros;rfl);refine AU.free (fun _=>rfl) (fun V L w1 K' Q' hS hi hR hd hK=>?_) ?_
    ·have hI:=hS.below (hR.out 12 9 (by kernel_rfl) hi);have hcv:=aW (hu.same fun b hb=>hI.block b (hu.fp b hb).2) wH;go_simp;(go_wp2_with(refine hcv.mono ?_;rintro e w2 ⟨v',fp,rfl,hm2,hn2,hb⟩));exact hK.out _ _ rfl (hS.call (hR.out 12 9 (by kernel_rfl) hi) hb ⟨fp,AZ.mono hI.size hm2,hn2⟩ rfl)
    simp only[Act.put];(iterate 2((apply AU.z rfl;intro V L w1 _ _ _ z hK;go_simp;exact hK (z.s.keep rfl rfl);intros;rfl)));refine AU.val undef (fun _=>rfl) (fun V L w1 K' Q' hS hi hR hd hK=>?_) ?_
    ·have ha:=hd.out 9 (by kernel_rfl);have hI:=hS.below hi;have m3:=AA hI e1;have z3:w1.frozen? ⟨F,q*4+1,none⟩=false:=(by rw[hI.frozen (p:=⟨F,q*4+1,none⟩) hF2];exact Zk);obtain⟨fp,QX,-⟩:=hS.val hi ha;obtain⟨p9,c9,hV⟩:=QX.sl;have hS2:=hS.store hi ha rfl;rw[hV]at hS2;simp only[hV];go_simp;refine hK.out _ _ (by simp only[hV];rfl) hS2
    simp only[Act.put];refine AU.nil fun V w5 hS=>?_;obtain⟨v0,hb0,⟨fp,QX,hn9⟩,rfl⟩:=hS.done rfl;obtain⟨p9,c9,hV⟩:=QX.sl;rw[hV]at QX⊢;have Y8:=(hP.nx hb0).far hwr (q*4+1) (.slice p9 (s.trace[q]).ar.length c9);have JE:=(hap.trans (Apart.of hb0 (by have:=hap.b.size;omega))).new hF1 (by omega) (q*4+1) (.slice p9 (s.trace[q]).ar.length c9);have hst:∀k,k<4->k≠1->(v0.setCell ⟨F,q*4+1,none⟩ (.slice p9 (s.trace[q]).ar.length c9)).cell? ⟨F,q*4+k,none⟩=wr.cell? ⟨F,q*4+k,none⟩:=fun k hk hk1=>by
     rw[World.cell?_setCell_other _ _ _ _ (Ik (by omega))];exact BM (hb0.block F hF2) _
    have hlies:Af (v0.setCell ⟨F,q*4+1,none⟩ (.slice p9 (s.trace[q]).ar.length c9)) wy.heap.size (Qc s.trace[q]) F (q*4) (fp++[]):=by
     refine Af.of (AP.cc ((hst 0 (by decide) (by decide)).trans e0) rfl (AP.cr ?_ (AZ.mono hap.b.size (QX.same fun b hb=>Below.heap_setCell _ _ _ _ (by have:=(QX.fp b hb).1;show b≠F;omega))) (AP.cc ((hst 2 (by decide) (by decide)).trans e2) rfl (AP.cc ((hst 3 (by decide) (by decide)).trans e3) rfl AP.cn))));exact World.cell?_setCell_same _ _ _ (AA hb0 e1)
    have wY:=hC.step hlt UH (by decide) hb0 hlies (fun b hb=>(QX.fp b (by simpa using hb)).1) (by simpa using hn9);go_wp2;go_roundw;exact⟨q+1,_,by omega,by go_num,Y8,wY,JE⟩;simp[intOf];omega
  ·have hlt:q<s.heap.length:=(by omega);have A8:(q:Int)<s.heap.length:=(by omega);obtain⟨G,f,hl,hcx⟩:=Ja nD hxh UF hlt;obtain⟨F,cF,iG,hF1,hF2,qB,J7⟩:=hC.slice hlt;obtain⟨rfl,rfl⟩:p2=some ⟨F,0,none⟩/\c2=cF:=(by simpa using iG);obtain⟨l0,u,fu,l1,hu⟩:=dR hl;have e0:=(J7 0 (by decide)).trans ((hcx 0 (by decide)).symm.trans l0);have e1:=(J7 1 (by decide)).trans ((hcx 1 (by decide)).symm.trans l1);replace hu:AZ wr 0 34 2 ((s.heap[q]).vs.map C9) u fu:=hu.same (fun b hb=>hP.b.block b (hu.fp b hb).2);obtain⟨pu,ku,rfl⟩:=hu.sl;have wH:=hz.vs s.heap[q] (by simp);have k5:=hP.p.c 5 _ rfl;have hwr:w.heap.size+1<F:=(by omega);have Zk:=qB (q*2+1);go_wp2;refine AV (S:=Le wr 9 12 (fun v u=>∃fp,AZ u wr.heap.size 34 2 ((s.heap[q]).vs.map C9) v fp/\fp.Nodup) ⟨F,q*2+1,none⟩) rfl (by kernel_rfl) (Le.start Ac) ?_;(apply AU.z rfl;intro V L w1 _ _ _ z hK;go_simp;exact hK (z.s.keep rfl rfl);intros;rfl);(apply AU.z rfl;intro V L w1 _ _ _ z hK;(have hI:=z.s.below (z.r 12 1 (by kernel_rfl) z.i);have m4:=AA hI k5);go_simp;exact hK (z.s.keep rfl rfl);intros;rfl);(iterate 2((apply AU.z rfl;intro V L w1 _ _ _ z hK;go_simp;exact hK (z.s.keep rfl rfl);intros;rfl)));(apply AU.z rfl;intro V L w1 _ _ _ z hK;(have hI:=z.s.below (z.r 12 4 (by kernel_rfl) z.i);have m4:=AA hI k5);go_simp;exact hK (z.s.keep rfl rfl);intros;rfl);(iterate 3((apply AU.z rfl;intro V L w1 _ _ _ z hK;go_simp;exact hK (z.s.keep rfl rfl);intros;rfl)));(apply AU.z rfl;intro V L w1 _ _ _ z hK;(have hI:=z.s.below (z.r 12 8 (by kernel_rfl) z.i);have m4:=AA hI e1);go_simp;exact hK (z.s.keep rfl rfl);intros;rfl);refine AU.free (fun _=>rfl) (fun V L w1 K' Q' hS hi hR hd hK=>?_) ?_
   ·have hI:=hS.below (hR.out 12 9 (by kernel_rfl) hi);have hcv:=aV (hu.same fun b hb=>hI.block b (hu.fp b hb).2) wH;go_simp;(go_wp2_with(refine hcv.mono ?_;rintro e w2 ⟨v',fp,rfl,hm2,hn2,hb⟩));exact hK.out _ _ rfl (hS.call (hR.out 12 9 (by kernel_rfl) hi) hb ⟨fp,AZ.mono hI.size hm2,hn2⟩ rfl)
   simp only[Act.put];(iterate 2((apply AU.z rfl;intro V L w1 _ _ _ z hK;go_simp;exact hK (z.s.keep rfl rfl);intros;rfl)));refine AU.val undef (fun _=>rfl) (fun V L w1 K' Q' hS hi hR hd hK=>?_) ?_
   ·have ha:=hd.out 9 (by kernel_rfl);have hI:=hS.below hi;have m3:=AA hI e1;have z3:w1.frozen? ⟨F,q*2+1,none⟩=false:=(by rw[hI.frozen (p:=⟨F,q*2+1,none⟩) hF2];exact Zk);obtain⟨fp,QX,-⟩:=hS.val hi ha;obtain⟨p9,c9,hV⟩:=QX.sl;have hS2:=hS.store hi ha rfl;rw[hV]at hS2;simp only[hV];go_simp;refine hK.out _ _ (by simp only[hV];rfl) hS2
   simp only[Act.put];refine AU.nil fun V w5 hS=>?_;obtain⟨v0,hb0,⟨fp,QX,hn9⟩,rfl⟩:=hS.done rfl;obtain⟨p9,c9,hV⟩:=QX.sl;rw[hV]at QX⊢;have Y8:=(hP.nx hb0).far hwr (q*2+1) (.slice p9 (s.heap[q]).vs.length c9);have JE:=(hap.trans (Apart.of hb0 (by have:=hap.b.size;omega))).new hF1 (by omega) (q*2+1) (.slice p9 (s.heap[q]).vs.length c9);have hst:∀k,k<1->(v0.setCell ⟨F,q*2+1,none⟩ (.slice p9 (s.heap[q]).vs.length c9)).cell? ⟨F,q*2+k,none⟩=wr.cell? ⟨F,q*2+k,none⟩:=fun k hk=>by
    rw[World.cell?_setCell_other _ _ _ _ (Ik (by omega))];exact BM (hb0.block F hF2) _
   have hlies:Af (v0.setCell ⟨F,q*2+1,none⟩ (.slice p9 (s.heap[q]).vs.length c9)) wo.heap.size (Ld s.heap[q]) F (q*2) (fp++[]):=by
    refine Af.of (AP.cc ((hst 0 (by decide)).trans e0) rfl (AP.cr ?_ (AZ.mono hap.b.size (QX.same fun b hb=>Below.heap_setCell _ _ _ _ (by have:=(QX.fp b hb).1;show b≠F;omega))) AP.cn));exact World.cell?_setCell_same _ _ _ (AA hb0 e1)
   have wY:=hC.step hlt UF (by decide) hb0 hlies (fun b hb=>(QX.fp b (by simpa using hb)).1) (by simpa using hn9);go_wp2;go_roundw;exact⟨q+1,_,by omega,by go_num,Y8,wY,JE⟩;simp[intOf];omega
 ·have hlt:q<s.frames.length:=by omega
  have A8:(q:Int)<s.frames.length:=by omega
  obtain⟨G,f,hl,hcx⟩:=Ja hfr mh UG hlt;obtain⟨F,cF,iG,hF1,hF2,qB,J7⟩:=hC.slice hlt;obtain⟨rfl,rfl⟩:p1=some ⟨F,0,none⟩/\c1=cF:=by simpa using iG
  obtain⟨l0,l1,l2,b,l3,hmb⟩:=dY hl;have e0:=(J7 0 (by decide)).trans ((hcx 0 (by decide)).symm.trans l0);have e1:=(J7 1 (by decide)).trans ((hcx 1 (by decide)).symm.trans l1);have e2:=(J7 2 (by decide)).trans ((hcx 2 (by decide)).symm.trans l2);have e3:=(J7 3 (by decide)).trans ((hcx 3 (by decide)).symm.trans l3);have hmr:=hmb.other (hP.b.block b hmb.lt);have k4:=hP.p.c 4 _ rfl;have hwr:w.heap.size+1<F:=by omega
  have Zk:=qB (q*4+3);go_wp2;refine AV (S:=Le wr 9 12 (fun v u=>∃nb,v=.map (some nb)/\wr.heap.size<=nb/\CQ u nb (s.frames[q]).vars) ⟨F,q*4+3,none⟩) rfl (by kernel_rfl) (Le.start Ac) ?_;(apply AU.z rfl;intro V L w1 _ _ _ z hK;go_simp;exact hK (z.s.keep rfl rfl);intros;rfl);(apply AU.z rfl;intro V L w1 _ _ _ z hK;(have hI:=z.s.below (z.r 12 1 (by kernel_rfl) z.i);have m4:=AA hI k4);go_simp;exact hK (z.s.keep rfl rfl);intros;rfl);iterate 2((apply AU.z rfl;intro V L w1 _ _ _ z hK;go_simp;exact hK (z.s.keep rfl rfl);intros;rfl))
  (apply AU.z rfl;intro V L w1 _ _ _ z hK;(have hI:=z.s.below (z.r 12 4 (by kernel_rfl) z.i);have m4:=AA hI k4);go_simp;exact hK (z.s.keep rfl rfl);intros;rfl);iterate 3((apply AU.z rfl;intro V L w1 _ _ _ z hK;go_simp;exact hK (z.s.keep rfl rfl);intros;rfl))
  (apply AU.z rfl;intro V L w1 _ _ _ z hK;(have hI:=z.s.below (z.r 12 8 (by kernel_rfl) z.i);have m4:=AA hI e3);go_simp;exact hK (z.s.keep rfl rfl);intros;rfl);refine AU.free (fun _=>rfl) (fun V L w1 K' Q' hS hi hR hd hK=>?_) ?_
  ·have hI:=hS.below (hR.out 12 9 (by kernel_rfl) hi);go_simp;(go_wp2_with(refine(YB (hmr.other (hI.block b hmr.lt))).mono ?_;rintro e w2 ⟨nb,rfl,hnb,hm2,hb⟩));exact hK.out _ _ rfl (hS.call (hR.out 12 9 (by kernel_rfl) hi) hb ⟨nb,rfl,AX hI.size hnb,hm2⟩ rfl)
  simp only[Act.put];iterate 2((apply AU.z rfl;intro V L w1 _ _ _ z hK;go_simp;exact hK (z.s.keep rfl rfl);intros;rfl))
  refine AU.val undef (fun _=>rfl) (fun V L w1 K' Q' hS hi hR hd hK=>?_) ?_
  ·have ha:=hd.out 9 (by kernel_rfl);have hI:=hS.below hi;have m3:=AA hI e3;have z3:w1.frozen? ⟨F,q*4+3,none⟩=false:=(by rw[hI.frozen (p:=⟨F,q*4+3,none⟩) hF2];exact Zk);obtain⟨nb,hV,-⟩:=hS.val hi ha;have hS2:=hS.store hi ha rfl;rw[hV]at hS2;simp only[hV];go_simp;refine hK.out _ _ (by simp only[hV];rfl) hS2
  simp only[Act.put];refine AU.nil fun V w5 hS=>?_;obtain⟨v0,hb0,⟨nb,hV,hnb,hmn⟩,rfl⟩:=hS.done rfl;rw[hV];have Y8:=(hP.nx hb0).far hwr (q*4+3) (.map (some nb));have hne:F≠nb:=by omega
  have hst:∀k,k<3->(v0.setCell ⟨F,q*4+3,none⟩ (.map (some nb))).cell? ⟨F,q*4+k,none⟩=wr.cell? ⟨F,q*4+k,none⟩:=fun k hk=>by
   rw[World.cell?_setCell_other _ _ _ _ (Ik (by omega))];exact BM (hb0.block F hF2) _
  have hlies:Af (v0.setCell ⟨F,q*4+3,none⟩ (.map (some nb))) W.heap.size (Kw s.frames[q]) F (q*4) ([nb]++[]):=by
   refine Af.of (AP.cc ((hst 0 (by decide)).trans e0) rfl (AP.cc ((hst 1 (by decide)).trans e1) rfl (AP.cc ((hst 2 (by decide)).trans e2) rfl (AP.cm ?_ (by omega) (hmn.other (Below.heap_setCell _ _ _ _ (fun e=>hne e.symm))) AP.cn))));exact World.cell?_setCell_same _ _ _ (AA hb0 e3)
  have AEW:W.heap.size<=(v0.setCell ⟨F,q*4+3,none⟩ (.map (some nb))).heap.size:=by rw[G7];exact AX hWs hb0.size
  have wY:=hC.step hlt UG (by decide) hb0 hlies (by simpa using hnb) (by simp);go_wp2;go_roundw;exact⟨q+1,_,by omega,by go_num,Y8,wY,AEW⟩;simp[intOf];omega
end
section
open Num Dp
abbrev mC(k:Hd)(s:St)(fr hp gl tr mk:Value):List Value:=[k.u0,k.u1,k.u2,k.u3,k.u4,.int .i64 s.status,.string s.result.1,.int .i64 s.result.2,.int .i64 s.code,fr,hp,gl,tr,mk,.int .i64 s.allocs,.int .i64 s.steps,.int .i64 s.guards,.int .i64 s.asked,k.av,k.fv,.int .i64 0]
def Hd.one(k:Hd):Prop:=k.u0.oneCell'=true/\k.u1.oneCell'=true/\k.u2.oneCell'=true/\k.u3.oneCell'=true/\k.u4.oneCell'=true/\k.av.oneCell'=true/\k.fv.oneCell'=true
theorem Am.make{v0:World}{k:Hd}{s:St}(h1:k.one)(hO:Bt v0 B s fr hp gl tr mk)(hM:B<=v0.heap.size)(T:TypeId):Am (v0.alloc (.cells (mC k s fr hp gl tr mk).toArray T)) B (v0.heap.size+1) v0.heap.size k s 0:=by
 obtain⟨F1,F2,F3,F4,F5,l1,l2,l3,l4,l5,hnd⟩:=hO;have hB:=Ae.alloc v0 (mC k s fr hp gl tr mk) T;have hlt:∀b∈F1++(F2++(F3++(F4++F5))),b<v0.heap.size:=fun b hb=>by
  simp only[List.mem_append]at hb;rcases hb with hb|hb|hb|hb|hb
  ·exact(l1.fp b hb).2
  ·exact(l2.fp b hb).2
  ·exact(l3.fp b hb).2
  ·exact(l4.fp b hb).2
  ·exact(l5.fp b hb).2
 have al:∀{e:TypeId} {n:Nat} {l:List Dt} {v:Value} {F:List Nat},AZ v0 B e n l v F->AZ (v0.alloc (.cells (mC k s fr hp gl tr mk).toArray T)) B e n l v F:=fun h=>h.same fun b hb=>Below.heap_alloc _ _ _ (h.fp b hb).2;replace l1:=al l1;replace l2:=al l2;replace l3:=al l3;replace l4:=al l4;replace l5:=al l5;have hT:=(MapKept.heap_alloc v0 (.cells (mC k s fr hp gl tr mk).toArray T)).1;have hsz:(v0.alloc (.cells (mC k s fr hp gl tr mk).toArray T)).heap.size=v0.heap.size+1:=by simp
 generalize v0.alloc (.cells (mC k s fr hp gl tr mk).toArray T)=w at*;generalize v0.heap.size=M at*;refine⟨⟨hM,by omega,by omega,F1++(F2++(F3++(F4++F5))),?_,BN.2 ⟨fun h=>by have:=hlt M h;omega,hnd⟩,fun b hb=>by have:=hlt b hb;omega⟩,_,_,hT⟩;obtain⟨o0,o1,o2,o3,o4,o5,o6⟩:=h1;unfold dM Eh C9;refine Af.of (AP.cc (hB.c 0 _ rfl) o0 (AP.cc (hB.c 1 _ rfl) o1 (AP.cc (hB.c 2 _ rfl) o2 (AP.cc (hB.c 3 _ rfl) o3 (AP.cc (hB.c 4 _ rfl) o4 ?_)))));have key:AP w B [dN s.status,.agg [dS s.result.1,dN s.result.2],dN s.code,.row 84 4 (s.frames.map Kw),.row 119 2 (s.heap.map Ld),.row 34 2 (s.globals.map C9),.row 59 4 (s.trace.map Qc),.row 2 1 (s.marks.map dN),dN s.allocs,dN s.steps,dN s.guards,dN s.asked] M 5 (F1++(F2++(F3++(F4++(F5++[]))))):=by
  refine AP.cc (hB.c 5 _ rfl) rfl ?_;have hr:AP w B [dS s.result.1,dN s.result.2] M 6 []:=AP.cc (hB.c 6 _ rfl) rfl (AP.cc (hB.c 7 _ rfl) rfl AP.cn);refine AP.ca (f1:=[]) hr ?_;refine AP.cc (hB.c 8 _ rfl) rfl (AP.cr (hB.c 9 _ rfl) l1 (AP.cr (hB.c 10 _ rfl) l2 (AP.cr (hB.c 11 _ rfl) l3 (AP.cr (hB.c 12 _ rfl) l4 (AP.cr (hB.c 13 _ rfl) l5 (AP.cc (hB.c 14 _ rfl) rfl (AP.cc (hB.c 15 _ rfl) rfl (AP.cc (hB.c 16 _ rfl) rfl (AP.cc (hB.c 17 _ rfl) rfl AP.cn)))))))))
 have h2:=AP.ca (r:=[.cell k.av,.cell k.fv,dN 0]) key (f2:=[]) (AP.cc (hB.c 18 _ rfl) o5 (AP.cc (hB.c 19 _ rfl) o6 (AP.cc (hB.c 20 _ rfl) rfl AP.cn)));have e:F1++(F2++(F3++(F4++(F5++[]))))++[]=F1++(F2++(F3++(F4++F5))):=by simp
 rw[e]at h2;exact h2
theorem AP.c1(h:AP w B (.cell v::r) g o f):w.cell? ⟨g,o,none⟩=some v/\AP w B r g (o+1) f:=by
 unfold AP at h;obtain⟨f1,f2,rfl,h1,h2⟩:=h;unfold Af at h1;obtain⟨h1,rfl,-⟩:=h1;exact⟨h1,h2⟩
theorem AP.r1{s:Nat}{l:List Dt}(h:AP w B (.row e s l::r) g o f):∃v f1 f2,f=f1++f2/\w.cell? ⟨g,o,none⟩=some v/\AZ w B e s l v f1/\AP w B r g (o+1) f2:=by
 unfold AP at h;obtain⟨f1,f2,h0,h1,h2⟩:=h;obtain⟨v,h3,h4⟩:=h1.row;exact⟨v,f1,f2,h0,h3,h4,h2⟩
theorem AP.a1{l:List Dt}(h:AP w B (.agg l::r) g o f):∃f1 f2,f=f1++f2/\AP w B l g o f1/\AP w B r g (o+Dt.DF l) f2:=by
 unfold AP at h;obtain⟨f1,f2,h0,h1,h2⟩:=h;exact⟨f1,f2,h0,h1.l,h2⟩
theorem AP.n1(h:AP w B [] g o f):f=[]:=by grind [AP]
theorem Am.out{N M:Nat}{k:Hd}{s:St}{j:Int}(h:Am w B N M k s j):∃fr hp gl tr mk,Bt w B s fr hp gl tr mk/\(∀i v,(WG s fr hp gl tr mk)[i]? =some v->w.cell? ⟨M,5+i,none⟩=some v):=by
 obtain⟨_,_,_,fp,h1,h2,-⟩:=h.own;unfold dM Eh C9 at h1;obtain⟨f1,f2,e1,a1,a2⟩:=h1.l.c1.2.c1.2.c1.2.c1.2.c1.2.a1;have z:=a2.c1.2.c1.2.c1.2.n1;obtain⟨c0,b1⟩:=a1.c1;obtain⟨f3,f4,e2,b2,b3⟩:=b1.a1;obtain⟨c1,b4⟩:=b2.c1;obtain⟨c2,b5⟩:=b4.c1;have z2:=b5.n1;obtain⟨c3,b6⟩:=b3.c1;obtain⟨fr,F1,g1,x1,d1,q1,k1⟩:=b6.r1;obtain⟨hp,F2,g2,x2,d2,q2,k2⟩:=k1.r1;obtain⟨gl,F3,g3,x3,d3,q3,k3⟩:=k2.r1;obtain⟨tr,F4,g4,x4,d4,q4,k4⟩:=k3.r1;obtain⟨mk,F5,g5,x5,d5,q5,k5⟩:=k4.r1;obtain⟨c4,k6⟩:=k5.c1;obtain⟨c5,k7⟩:=k6.c1;obtain⟨c6,k8⟩:=k7.c1;obtain⟨c7,k9⟩:=k8.c1;have z3:=k9.n1;refine⟨fr,hp,gl,tr,mk,⟨F1,F2,F3,F4,F5,q1,q2,q3,q4,q5,?_⟩,fun i v hv=>?_⟩
 ·have:=(BN.1 h2).2;rw[e1,z,e2,z2,x1,x2,x3,x4,x5,z3]at this;simpa using this
 ·rcases i with _|_|_|_|_|_|_|_|_|_|_|_|_|i;all_goals first|(injection hv with hv;subst hv;first|exact c0|exact c1|exact c2|exact c3|exact d1|exact d2|exact d3|exact d4|exact d5|exact c4|exact c5|exact c6|exact c7)|(simp at hv)
end
section
open Num Dp
def G6(W:World)(s:St)(k:Hd)(T:TypeId)(V:Nat->Value)(L:Nat->Bool)(w:World):Prop:=
 (L 6=false->AA6 W w/\(L 2=true->∃fr hp gl tr mk,V 2=Ko s fr hp gl tr mk/\Bt w W.heap.size s fr hp gl tr mk)/\(L 5=true->∃fr hp gl tr mk,V 5=.agg (mC k s fr hp gl tr mk).toArray/\Bt w W.heap.size s fr hp gl tr mk))/\
 (L 6=true->∃v0 fr hp gl tr mk,AA6 W v0/\Bt v0 W.heap.size s fr hp gl tr mk/\w=v0.alloc (.cells (mC k s fr hp gl tr mk).toArray T)/\V 6=.pointer (some ⟨v0.heap.size,0,none⟩))
section
variable {W w w2 : World} {s : St} {k : Hd} {T : TypeId} {V : Nat -> Value} {L : Nat -> Bool}
theorem G6.start(h:AA6 W w):G6 W s k T V (fun _=>false) w:=by grind [G6]
theorem G6.keep(h:G6 W s k T V L w){i:Nat}(h1:((2:Nat)==i)=false)(h2:((5:Nat)==i)=false)(h3:((6:Nat)==i)=false):G6 W s k T V (upd L i) w:=by simp_all[G6,upd]
theorem G6.below(h:G6 W s k T V L w)(hs:L 6=false):AA6 W w:=(h.1 hs).1
theorem Bt.shape{s:St}(h:Bt w B s fr hp gl tr mk):∃p1 c1 p2 c2 p3 c3 p4 c4 p5 c5,fr=.slice p1 s.frames.length c1/\hp=.slice p2 s.heap.length c2/\gl=.slice p3 s.globals.length c3/\tr=.slice p4 s.trace.length c4/\mk=.slice p5 s.marks.length c5:=by
 obtain⟨F1,F2,F3,F4,F5,h1,h2,h3,h4,h5,hn⟩:=h;obtain⟨p1,c1,rfl⟩:=h1.sl;obtain⟨p2,c2,rfl⟩:=h2.sl;obtain⟨p3,c3,rfl⟩:=h3.sl;obtain⟨p4,c4,rfl⟩:=h4.sl;obtain⟨p5,c5,rfl⟩:=h5.sl;grind
theorem Bt.run{s:St}(h:Bt w B s fr hp gl tr mk){R:Nat}(hR:R<B)(cs:List Value):Bt (BZ w R 0 cs) B s fr hp gl tr mk:=by
 obtain⟨F1,F2,F3,F4,F5,h1,h2,h3,h4,h5,hn⟩:=h;have key:∀{e:TypeId} {n:Nat} {l:List Dt} {v:Value} {F:List Nat},AZ w B e n l v F->AZ (BZ w R 0 cs) B e n l v F:=fun h=>h.same fun b hb=>Bu (by have:=(h.fp b hb).1;omega) _ 0 _;grind [tr,Bt,BZ,AZ,Bu,cases St]
theorem Bt.mono{B':Nat}{s:St}(h:Bt w B' s fr hp gl tr mk)(hB:B<=B'):Bt w B s fr hp gl tr mk:=by
 obtain⟨F1,F2,F3,F4,F5,h1,h2,h3,h4,h5,hn⟩:=h;exact⟨F1,F2,F3,F4,F5,h1.mono hB,h2.mono hB,h3.mono hB,h4.mono hB,h5.mono hB,hn⟩
theorem G6.call(h:G6 W s k T V L w)(hs:L 6=false)(h5:L 5=false)(hb:AA6 w w2)(ho:Bt w2 W.heap.size s fr hp gl tr mk):G6 W s k T (EB V 2 (Ko s fr hp gl tr mk)) (upd L 2) w2:=by grind [G6,tr,Bt,EB,upd,AB,BL,upd_ne]
theorem G6.built(h:G6 W s k T V L w)(hs:L 6=false)(h2:L 2=true)(ho:Bt w W.heap.size s fr hp gl tr mk):G6 W s k T (EB V 5 (.agg (mC k s fr hp gl tr mk).toArray)) (upd L 5) w:=by grind [G6,tr,Bt,EB,upd,BL,Br,upd_ne]
theorem G6.boxed(h:G6 W s k T V L w)(hs:L 6=false)(ho:Bt w W.heap.size s fr hp gl tr mk):G6 W s k T (EB V 6 (.pointer (some ⟨w.heap.size,0,none⟩))) (upd L 6) (w.alloc (.cells (mC k s fr hp gl tr mk).toArray T)):=
 ⟨(fun e=>by rw[Cc]at e;cases e),fun _=>⟨w,fr,hp,gl,tr,mk,h.below hs,ho,rfl,BL _ _ _⟩⟩
end
theorem OQ{s:St}(h:s.status≠3):Jg s=s:=by unfold Jg;rw[if_neg h]
theorem Vi{k:Hd}{s:St}{p:Pg}{ans fails:List Int}(hE:Env w0 w.heap.size k p ans fails)(h0:AA6 w0 w)(h1:k.one)(hk0:k.u0=.bool p.ssa)(hS:Qx w s fr hp gl tr mk)(hz:jW s)(fuel:Int)(hy:Way p (Jg s) fuel):Calls prog 12 #[.agg #[k.u0,k.u1,k.u2,k.u3,k.u4],Ko s fr hp gl tr mk,.int .i64 fuel,k.av,k.fv] w fun e w'=>∃t fr' hp' TV TI mk',e=.returned (Ko t fr' hp' TV TI mk')/\Bt w' w.heap.size t fr' hp' TV TI mk'/\Runs p ans fails fuel (Jg s) 0 t/\Way p t fuel/\AA6 w w':=by
 obtain⟨pa,ca,hav,-⟩:=hE.an;obtain⟨pq,cq,J6,-⟩:=hE.fa;obtain⟨pc,cc,hu1⟩:=hE.vp.c.slice;obtain⟨pg,cg,hu2⟩:=hE.vp.g.slice;obtain⟨px,cx,hu3⟩:=hE.vp.xt.slice;obtain⟨pf,cf,hu4⟩:=hE.vp.f.slice;obtain⟨k0,k1,k2,k3,k4,k5,k6⟩:=k;dsimp only at hav J6 hu1 hu2 hu3 hu4 hk0⊢;subst hav J6 hu1 hu2 hu3 hu4 hk0;obtain⟨F0,hfr⟩:=hS.fr;obtain⟨q1,d1,rfl⟩:=hfr.sl;obtain⟨H0,nD⟩:=hS.hp;obtain⟨q2,d2,rfl⟩:=nD.sl;obtain⟨G0,hgl⟩:=hS.gl;obtain⟨q3,d3,rfl⟩:=hgl.sl;obtain⟨T0,htr⟩:=hS.tr;obtain⟨q4,d4,rfl⟩:=htr.sl;obtain⟨M0,hmk⟩:=hS.mk';obtain⟨q5,d5,rfl⟩:=hmk.sl;clear hfr nD hgl htr hmk;generalize hl1:p.cs.length=n1 at*;generalize hl2:p.gs.length=n2 at*;generalize hl3:p.xs.length=n3 at*;generalize hl4:p.fs.length=n4 at*;generalize hl5:ans.length=n5 at*;generalize hl6:fails.length=n6 at*;generalize hss:p.ssa=ssa at*;obtain⟨hP,hT,hZ,hb1⟩:=aY (w:=w) (c1:=[.bool ssa,.slice pc n1 cc,.slice pg n2 cg,.slice px n3 cx,.slice pf n4 cf]) (c2:=WG s (.slice q1 s.frames.length d1) (.slice q2 s.heap.length d2) (.slice q3 s.globals.length d3) (.slice q4 s.trace.length d4) (.slice q5 s.marks.length d5)) (c3:=gF) (t1:=27) (t2:=40) (t3:=40) (AL);go_enter func12,ntmps12;go_wp2_with fail;generalize hW:World.alloc _ _=W at*;have hWz:W.heap.size=w.heap.size+1+1+1:=by rw[<-hW];simp
 have hcp:=fun(v:World) (hv:AA6 W v)=>VE (hS.kp (AB hb1 hv)) hz;clear hW;refine AV (S:=G6 W s ⟨.bool ssa,.slice pc n1 cc,.slice pg n2 cg,.slice px n3 cx,.slice pf n4 cf,.slice pa n5 ca,.slice pq n6 cq⟩ 87) rfl (by kernel_rfl) (G6.start Ac) ?_;(apply AU.z rfl;intro V L w1 _ _ _ z hK;(have hI:=z.s.below (z.r 6 5 (by kernel_rfl) (z.r 5 0 (by kernel_rfl) z.i));have hPn:=hP.nx hI;obtain⟨a0,a1,a2,a3,a4⟩:=hPn.c5);go_simp;exact hK (z.s.keep rfl rfl rfl);intros;rfl);(apply AU.z rfl;intro V L w1 _ _ _ z hK;(have hI:=z.s.below (z.r 6 5 (by kernel_rfl) (z.r 5 2 (by kernel_rfl) (z.r 2 1 (by kernel_rfl) z.i)));have VL:=hT.nx hI;obtain⟨b0,b1,b2,b3,b4,b5,b6,b7,b8,b9,b10,b11,b12⟩:=VL.c13);go_simp;exact hK (z.s.keep rfl rfl rfl);intros;rfl);refine AU.free (fun _=>rfl) (fun V L w1 K' Q' hS hi hR hd hK=>?_) ?_
 ·have h5:=hR.out 5 2 (by kernel_rfl) hi;have h6:=hR.out 6 5 (by kernel_rfl) h5;have hI:=hS.below h6;go_simp;go_wp2_with(refine(hcp _ hI).mono ?_;rintro e w2 ⟨fr',hp',TV,TI,mk',rfl,ho,hb⟩)
  exact hK.out _ _ rfl (hS.call h6 h5 hb (ho.mono hI.size))
 simp only[Act.put];iterate 2((apply AU.z rfl;intro V L w1 _ _ _ z hK;go_simp;exact hK (z.s.keep rfl rfl rfl);intros;rfl))
 refine AU.free (fun _=>rfl) (fun V L w1 K' Q' hS hi hR hd hK=>?_) ?_
 ·have h6:=hR.out 6 5 (by kernel_rfl) hi;have h2:=hd.out 2 (by kernel_rfl);obtain⟨fr,hp,gl,tr,mk,hV,ho⟩:=(hS.1 h6).2.1 h2;obtain⟨e1,f1,e2,f2,e3,f3,e4,f4,e5,f5,rfl,rfl,rfl,rfl,rfl⟩:=ho.shape;have hS2:=hS.built h6 h2 ho;simp only[hV];go_simp;exact hK.out _ _ (by simp only[hV];rfl) hS2
 simp only[Act.put];refine AU.free (fun _=>rfl) (fun V L w1 K' Q' hS hi hR hd hK=>?_) ?_
 ·have h5:=hd.out 5 (by kernel_rfl);obtain⟨fr,hp,gl,tr,mk,hV,ho⟩:=(hS.1 hi).2.2 h5;have hS2:=hS.boxed hi ho;simp only[hV];go_simp;exact hK.out _ _ (by simp only[hV];rfl) hS2
 simp only[Act.put];(refine AU.step (a1:=?_) (fun _=>rfl) (fun V L w1 K' Q' hS hi hR hd hK=>?_) ?_ ?_ ?_;rotate_left)
 ·go_simp;(try simp only[pE]);exact hK.out _ (hS.keep rfl rfl rfl)
 ·intro V;rfl
 ·exact fun L V V' Kt hl hv=>hv 6 (by
   cases h:L 6 with
   |true=>rfl
   |false=>
    have:=Kt 7 6 (by kernel_rfl) h;rw[hl]at this
    cases this)
 refine AU.nil fun V w1 hS=>?_;obtain⟨v0,fr,hp,gl,tr,mk,hb0,ho,rfl,CX⟩:=hS.2 rfl;simp only[CX];obtain⟨e1,f1,e2,f2,e3,f3,e4,f4,e5,f5,rfl,rfl,rfl,rfl,rfl⟩:=ho.shape;have hM:=Am.make h1 ho hb0.size 87;have J8:=AJ v0 (.cells (mC ⟨.bool ssa,.slice pc n1 cc,.slice pg n2 cg,.slice px n3 cx,.slice pf n4 cf,.slice pa n5 ca,.slice pq n6 cq⟩ s (.slice e1 s.frames.length f1) (.slice e2 s.heap.length f2) (.slice e3 s.globals.length f3) (.slice e4 s.trace.length f4) (.slice e5 s.marks.length f5)).toArray 87);have hbW:=AB hb0 J8;have vM:=hT.nx hbW;have hZ2:=hZ.nx hbW;have hb2:=AB hb1 hbW;have hMW:W.heap.size<=v0.heap.size:=hb0.size;generalize hv0:v0.heap.size=M at*;generalize hw1:World.alloc _ _=w1 at*;have x0:=vM.c 0 _ rfl;go_upto_if 21 with fail;go_cut[21]from 22 to 25 (fun _ wx=>Am wx W.heap.size (M+1) M ⟨.bool ssa,.slice pc n1 cc,.slice pg n2 cg,.slice px n3 cx,.slice pf n4 cf,.slice pa n5 ca,.slice pq n6 cq⟩ (Jg s) 0/\Ae wx (w.heap.size+1+1) gF/\AA6 w wx)
 ·by_cases h3:s.status=3
  ·have hi3:(s.status==(3:Int))=true:=(by simp[h3]);have hw:Jg s={s with status:=0}:=(by unfold Jg;rw[if_pos h3]);have hM2:=hM.ER 0;rw[<-hw]at hM2;have hZ3:=hZ2.far (q:=⟨M,5,none⟩) (show M≠w.heap.size+1+1 by omega) (.int .i64 0);have hb3:=hb2.setCell (p:=⟨M,5,none⟩) (show w.heap.size<=M by omega) (.int .i64 0);obtain⟨n5',-⟩:=hM.ns;have fz:=hM.Bw 5;replace h3:=Wx h3;go_wp2;go_meet;exact⟨hM2,hZ3,hb3⟩
  ·have hi3:(s.status==(3:Int))=false:=(by simp[h3]);have hw:Jg s=s:=OQ h3;clear vM x0;replace hw:=Wx hw;go_wp2;go_meet;exact⟨by rw[hw.out];exact hM,hZ2,hb2⟩
 obtain⟨hM,hZ2,hb2⟩:=hcut;have hfu:fuel<=1048576:=by have:=hy.fu;omega
 go_wp2_with fail;have hE':Env w0 W.heap.size _ p ans fails:={hE with b0:=AX hE.b0 (by omega)};have hrun:=jq hE' (AB h0 hb2) hM (j:=0) (by decide) fuel hy;refine hrun.mono ?_;rintro e w5 ⟨rfl,t,j',N',Yw,CS,pR,hb5⟩;obtain⟨fr,hp,gl,tr,mk,ho,hcells⟩:=Yw.out;obtain⟨e1,f1,e2,f2,e3,f3,e4,f4,e5,f5,rfl,rfl,rfl,rfl,rfl⟩:=ho.shape;have Kr:=hZ2.below (by omega) hb5;have Zb:=hb2.trans (hb5.mono (by omega));have hof:=(ho.run (R:=w.heap.size+1+1) (by omega) (WG t (.slice e1 t.frames.length f1) (.slice e2 t.heap.length f2) (.slice e3 t.globals.length f3) (.slice e4 t.trace.length f4) (.slice e5 t.marks.length f5))).mono (show w.heap.size<=W.heap.size by omega);have hbf:=Zb.trans (Ay (B:=w.heap.size) (p:=w.heap.size+1+1) (by omega) (WG t (.slice e1 t.frames.length f1) (.slice e2 t.heap.length f2) (.slice e3 t.globals.length f3) (.slice e4 t.trace.length f4) (.slice e5 t.marks.length f5)) 0 w5);have y0:=hcells 0 _ rfl;have y1:=hcells 1 _ rfl;have y2:=hcells 2 _ rfl;have y3:=hcells 3 _ rfl;have y4:=hcells 4 _ rfl;have y5:=hcells 5 _ rfl;have y6:=hcells 6 _ rfl;have y7:=hcells 7 _ rfl;have y8:=hcells 8 _ rfl;have y9:=hcells 9 _ rfl;have y10:=hcells 10 _ rfl;have y11:=hcells 11 _ rfl;have y12:=hcells 12 _ rfl;obtain⟨r0,r1,r2,r3,r4,r5,r6,r7,r8,r9,r10,r11,r12⟩:=Kr.c13;obtain⟨g0,g1,g2,g3,g4,g5,g6,g7,g8,g9,g10,g11,g12⟩:=Kr.f13;go_wp2_with fail;(try simp only[Exit.inBlock,Exit.then]);refine bodyPost_ret_by (v:=Ko t (.slice e1 t.frames.length f1) (.slice e2 t.heap.length f2) (.slice e3 t.globals.length f3) (.slice e4 t.trace.length f4) (.slice e5 t.marks.length f5)) ((GQ rfl _ _ _).trans (by go_simp;try rfl)) rfl ?_;exact⟨t,_,_,_,_,_,rfl,hof,CS,pR,hbf⟩
end
section
open Num Dp
theorem jk{O:Nat}{s:St}{F1 F2 F3 F4 F5:List Nat}(hB:Ae w O (WG s fr hp gl tr mk))(l1:AZ w B 84 4 (s.frames.map Kw) fr F1)(l2:AZ w B 119 2 (s.heap.map Ld) hp F2)(l3:AZ w B 34 2 (s.globals.map C9) gl F3)(l4:AZ w B 59 4 (s.trace.map Qc) tr F4)(l5:AZ w B 2 1 (s.marks.map dN) mk F5):Af w B (Eh s) O 0 (F1++(F2++(F3++(F4++(F5++[]))))):=by
 unfold Eh C9;refine Af.of (AP.cc (hB.c 0 _ rfl) rfl ?_);have hr:AP w B [dS s.result.1,dN s.result.2] O 1 []:=AP.cc (hB.c 1 _ rfl) rfl (AP.cc (hB.c 2 _ rfl) rfl AP.cn);refine AP.ca (f1:=[]) hr ?_;exact AP.cc (hB.c 3 _ rfl) rfl (AP.cr (hB.c 4 _ rfl) l1 (AP.cr (hB.c 5 _ rfl) l2 (AP.cr (hB.c 6 _ rfl) l3 (AP.cr (hB.c 7 _ rfl) l4 (AP.cr (hB.c 8 _ rfl) l5 (AP.cc (hB.c 9 _ rfl) rfl (AP.cc (hB.c 10 _ rfl) rfl (AP.cc (hB.c 11 _ rfl) rfl (AP.cc (hB.c 12 _ rfl) rfl AP.cn)))))))))
theorem rZ{O:Nat}{s:St}(h1:Af w B (Eh s) O 0 fp)(h2:fp.Nodup):∃fr hp gl tr mk,Bt w B s fr hp gl tr mk/\(∀i v,(WG s fr hp gl tr mk)[i]? =some v->w.cell? ⟨O,0+i,none⟩=some v):=by
 unfold Eh C9 at h1;obtain⟨c0,b1⟩:=h1.l.c1;obtain⟨f3,f4,e2,b2,b3⟩:=b1.a1;obtain⟨c1,b4⟩:=b2.c1;obtain⟨c2,b5⟩:=b4.c1;have z2:=b5.n1;obtain⟨c3,b6⟩:=b3.c1;obtain⟨fr,F1,g1,x1,d1,q1,k1⟩:=b6.r1;obtain⟨hp,F2,g2,x2,d2,q2,k2⟩:=k1.r1;obtain⟨gl,F3,g3,x3,d3,q3,k3⟩:=k2.r1;obtain⟨tr,F4,g4,x4,d4,q4,k4⟩:=k3.r1;obtain⟨mk,F5,g5,x5,d5,q5,k5⟩:=k4.r1;obtain⟨c4,k6⟩:=k5.c1;obtain⟨c5,k7⟩:=k6.c1;obtain⟨c6,k8⟩:=k7.c1;obtain⟨c7,k9⟩:=k8.c1;have z3:=k9.n1;refine⟨fr,hp,gl,tr,mk,⟨F1,F2,F3,F4,F5,q1,q2,q3,q4,q5,?_⟩,fun i v hv=>?_⟩
 ·rw[e2,z2,x1,x2,x3,x4,x5,z3]at h2;simpa using h2
 ·rcases i with _|_|_|_|_|_|_|_|_|_|_|_|_|i;all_goals first|(injection hv with hv;subst hv;first|exact c0|exact c1|exact c2|exact c3|exact d1|exact d2|exact d3|exact d4|exact d5|exact c4|exact c5|exact c6|exact c7)|(simp at hv)
theorem sI{N:Nat}{d d':Dt}(h:Own w B N d g o)(e:d=d'):Own w B N d' g o:=e▸h
end
end Go.Proofs.YtlffomedflegdaaGreatDoor
