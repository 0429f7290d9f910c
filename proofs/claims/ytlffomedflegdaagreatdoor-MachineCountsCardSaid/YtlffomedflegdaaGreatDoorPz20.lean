/- Part 20 of 49 of the proof: Nj, Nk. -/
import Derived.Laws.Externs
import Derived.MapKept
import Derived.Shelf.SlMaps.Clone
import Derived.Test.YtlffomedflegdaaGreatDoorPz00
import Derived.Test.YtlffomedflegdaaGreatDoorPz19
set_option linter.all false
set_option maxHeartbeats 16000000
set_option maxRecDepth 100000
namespace Go.Proofs.YtlffomedflegdaaGreatDoor
open Go.Proofs.Tryz
open Go.RowKit
variable {B n:Nat}{v:Value}{w:World}{xs:List Value}
section
open Num Dp
structure ED{α:Type}(enc:α->Dt)(w:World)(B:Nat)(e:TypeId)(s:Nat)(l:List α)(xs:List Value)(v:Value)(q:Nat)(f1:List Nat):Prop where
 own:∃ys,w.ownsRow B e s v l.length ys/\∀j,q*s<=j->ys[j]? =xs[j]?
 done:∀F c,v=.slice (some ⟨F,0,none⟩) l.length c->AP w B ((l.take q).map enc) F 0 f1/\(F::f1).Nodup
 nil:v.ownBlock=none->f1=[]
section
variable {α : Type} {enc : α -> Dt} {w w2 : World} {B : Nat} {e : TypeId} {s : Nat} {l : List α} {xs : List Value} {v : Value} {q : Nat} {f1 f2 : List Nat}
theorem ED.start(h:w.ownsRow B e s v l.length xs):ED enc w B e s l xs v 0 []:=
 ⟨⟨xs,h,fun _ _=>rfl⟩,fun F c _=>⟨by simp;unfold AP;rfl,by simp⟩,fun _=>rfl⟩
theorem ED.slice(h:ED enc w B e s l xs v q f1)(hq:q<l.length):∃F c,v=.slice (some ⟨F,0,none⟩) l.length c/\B<=F/\F<w.heap.size/\(∀o,w.frozen? ⟨F,o,none⟩=false)/\∀k,k<s->w.cell? ⟨F,q*s+k,none⟩=xs[q*s+k]? :=by
 obtain⟨ys,ho,hy⟩:=h.own;rcases id ho.2 with⟨-,h0⟩|⟨g,cap,cur,rfl,hb,hg,hn,-⟩
 ·omega
 ·refine⟨g,cap,rfl,hb,(ho.lt g rfl).2,fun o=>ho.frozenAt o,fun k hk=>?_⟩;rw[ho.cellAt _ (OG hq hk)];exact hy _ (by omega)
theorem ED.step{F c k:Nat}(h:ED enc w B e s l xs (.slice (some ⟨F,0,none⟩) l.length c) q f1)(hq:q<l.length)(hs:∀x,(enc x).wd=s)(hk:k<s)(hb:AA6 w w2){u:Value}(hl:Af (w2.setCell ⟨F,q*s+k,none⟩ u) B (enc l[q]) F (q*s) f2) (hf2:∀b∈f2,w.heap.size<=b) (hn2:f2.Nodup):ED enc (w2.setCell ⟨F,q*s+k,none⟩ u) B e s l xs (.slice (some ⟨F,0,none⟩) l.length c) (q+1) (f1++f2):=by
 obtain⟨ys,ho,hy⟩:=h.own;obtain⟨hd,hnd⟩:=h.done F c rfl;have hF:=(ho.lt F rfl).2;have ho2:=(World.ownsRow.stored (Dh ho hb (AQ)) (q*s+k) u).1;rw[BN]at hnd;have hlt:∀b∈f1,b<w.heap.size:=fun b hb'=>(hd.fp b hb').2;have hwd:Dt.DF ((l.take q).map enc)=q*s:=by
  rw[HZ (s:=s) (fun d hd=>by obtain⟨x,-,rfl⟩:=List.mem_map.1 hd;exact hs x)];rw[List.length_map,List.length_take,Nat.min_eq_left (by omega)]
 refine⟨⟨_,ho2,fun j hj=>?_⟩,fun F' c' e'=>?_,fun e'=>by simp[Value.ownBlock]at e'⟩
 ·rw[List.getElem?_set_ne (by rw[Nat.add_mul]at hj;omega)];exact hy j (by rw[Nat.add_mul]at hj;omega)
 ·obtain⟨rfl,-⟩:F'=F/\True:=by simpa using(show F=F'/\_ by simpa using e').1.symm
  refine⟨?_,BN.2 ⟨?_,GL.2 ⟨hnd.2,hn2,fun b h1 h2=>?_⟩⟩⟩
  ·rw[List.take_succ_eq_append_getElem hq,List.map_append,List.map_singleton];refine AP.app.2 ⟨f1,f2,rfl,hd.move (fun j hj=>?_) (fun b hb'=>?_),?_⟩
   ·rw[hwd]at hj;rw[World.cell?_setCell_other _ _ _ _ (Ik (by omega))];exact BM (hb.block _ hF) _
   ·exact(Below.heap_setCell _ _ _ _ (fun e=>hnd.1 (by rw[show F'=b from e.symm];exact hb'))).trans (hb.block b (hlt b hb'))
   ·rw[hwd,Nat.zero_add];unfold AP;exact⟨f2,[],by simp,hl,by unfold AP;rfl⟩
  ·rw[List.mem_append,not_or];exact⟨hnd.1,fun h3=>by have:=hf2 _ h3;omega⟩
  ·have:=hf2 b h2;have:=hlt b h1;omega
theorem ED.fin(h:ED enc w B e s l xs v l.length f1)(hs:∀x,(enc x).wd=s):∃fp,AZ w B e s (l.map enc) v fp/\fp.Nodup:=by
 obtain⟨ys,ho,-⟩:=h.own;rcases ho.2 with⟨rfl,h0⟩|⟨g,cap,cur,rfl,hb,hg,hn,hc,hz,-⟩
 ·have:l=[]:=List.eq_nil_of_length_eq_zero h0;subst this;exact⟨[],.nil,by simp⟩
 ·obtain⟨hd,hnd⟩:=h.done g cap rfl;rw[List.take_length]at hd;exact⟨g::f1,.inr ⟨g,cap,cur,f1,by simp,hb,hg,by simpa using hn,hc,hz,rfl,fun d hd=>by obtain⟨x,-,rfl⟩:=List.mem_map.1 hd;exact hs x,hd⟩,hnd⟩
theorem ED.nx(h:ED enc w B e s l xs v q f1)(hk:∀b,b<w.heap.size->B<=b->w2.heap[b]? =w.heap[b]?)(hz:w.heap.size<=w2.heap.size):ED enc w2 B e s l xs v q f1:=by
 obtain⟨⟨ys,ho,hy⟩,hd,hn⟩:=h;refine⟨⟨ys,?_,hy⟩,fun F c e=>?_,hn⟩
 ·rcases id ho with⟨h1,h2⟩;refine⟨h1,?_⟩;rcases h2 with h2|⟨g,cap,cur,e,hb,hg,h3⟩
  ·exact .inl h2
  ·exact .inr ⟨g,cap,cur,e,hb,(hk g (Array.getElem?_eq_some_iff.1 hg).1 hb).trans hg,h3⟩
 ·obtain⟨h1,h2⟩:=hd F c e;have hF:=ho.lt F (by rw[e];rfl);exact⟨h1.move (fun j _=>BM (hk F hF.2 hF.1) _) (fun b hb=>hk b (h1.fp b hb).2 (h1.fp b hb).1),h2⟩
end
theorem AZ.RB{s:Nat}{e:TypeId}{l:List Dt}{fp:List Nat}(h:AZ w B e s l v fp):∃xs,w.ownsRow B e s v l.length xs/\(∀u∈xs,u.oneCell'=true)/\∀F c,v=.slice (some ⟨F,0,none⟩) l.length c->∃f1,AP w B l F 0 f1:=by
 obtain⟨xs,hx⟩:=h.owns;refine⟨xs,hx,fun u hu=>?_,fun F c e=>?_⟩
 ·obtain⟨j,hj⟩:=List.mem_iff_getElem?.1 hu;have hjl:=(List.getElem?_eq_some_iff.1 hj).1;rcases h with⟨rfl,rfl,-⟩|⟨g',cap,cur,f',rfl,h2,h3,h4,h5,h6,h7,h8,h9⟩
  ·have:=hx.1;simp at this;subst this;simp at hu
  ·rw[hx.1]at hjl;obtain⟨v,hc,h1⟩:=h9.cells j (by rw[HZ h8];exact hjl);rw[Nat.zero_add,Ep hx hjl,hj]at hc;obtain rfl:u=v:=(by simpa using hc);exact h1
 ·rcases h with⟨rfl,rfl,-⟩|⟨g',cap,cur,f',rfl,h2,h3,h4,h5,h6,h7,h8,h9⟩
  ·simp at e
  ·obtain⟨rfl,-⟩:g'=F/\True:=(by simpa using(show g'=F/\_ by simpa using e).1);exact⟨f',h9⟩
theorem AZ.flat{α:Type}{enc:α->Dt}{w2:World}{B2 s:Nat}{e:TypeId}{l:List α}{v2:Value}{fp:List Nat}(h:AZ w B e s (l.map enc) v fp)(hx:w.ownsRow B e s v l.length xs)(ho:w2.ownsRow B2 e s v2 l.length xs)(hs:∀x,(enc x).wd=s)(hf:∀x g o f g2 o2,Af w B (enc x) g o f->(∀j,j<s->w2.cell? ⟨g2,o2+j,none⟩=w.cell? ⟨g,o+j,none⟩)->Af w2 B2 (enc x) g2 o2 []):∃fp,AZ w2 B2 e s (l.map enc) v2 fp/\fp.Nodup:=by
 rcases id ho.2 with⟨rfl,h0⟩|⟨g,cap,cur,rfl,hb,hg,hn,hc,hz,-⟩
 ·have:l=[]:=List.eq_nil_of_length_eq_zero h0;subst this;exact⟨[],.nil,by simp⟩
 ·have key:AP w2 B2 (l.map enc) g 0 []:=by
   rcases h with⟨-,h0,-⟩|⟨g',cap',cur',f',rfl,h2,h3,h4,h5,h6,h7,h8,h9⟩
   ·have:l=[]:=(by simpa using h0);subst this;unfold AP;rfl
   ·have each:∀(m:Nat),m<=l.length->AP w2 B2 ((l.take m).map enc) g 0 []:=by
     intro m
     induction m with
     |zero=>intro _;unfold AP;rfl
     |succ m ih=>
      intro hm;have hm':m<l.length:=(by omega);rw[List.take_succ_eq_append_getElem hm',List.map_append,List.map_singleton];refine AP.app.2 ⟨[],[],rfl,ih (by omega),?_⟩;unfold AP;refine⟨[],[],rfl,?_,by unfold AP;rfl⟩;have hwd:Dt.DF ((l.take m).map enc)=m*s:=by
       rw[HZ (s:=s) (fun d hd=>by obtain⟨x,-,rfl⟩:=List.mem_map.1 hd;exact hs x)];rw[List.length_map,List.length_take,Nat.min_eq_left (by omega)]
      rw[hwd,Nat.zero_add];obtain⟨f,hf1⟩:=h9.nth hs m l[m] (by simp[hm']);refine hf _ _ _ _ _ _ hf1 fun j hj=>?_;rw[Nat.zero_add,ho.cellAt _ (OG hm' hj),<-Ep (by simpa using hx) (OG hm' hj)]
    have:=each l.length (AQ);rwa[List.take_length]at this
  exact⟨[g],.inr ⟨g,cap,cur,[],by simp,hb,hg,by simpa using hn,hc,hz,rfl,fun d hd=>by obtain⟨x,-,rfl⟩:=List.mem_map.1 hd;exact hs x,key⟩,by simp⟩
theorem AAp(h:w.ownsRow B 84 4 v n xs)(h1:∀u∈xs,u.oneCell'=true)(hn:n<=1000000):Calls prog 44 #[v] w fun e w'=>∃v',e=.returned v'/\w'.ownsRow w.heap.size 84 4 v' n xs/\AA6 w w':=by
 obtain⟨i0,hi,hz0,hz1,hz2⟩:=Cq aL;have hlen:=h.1;rcases h.2 with⟨rfl,rfl⟩|⟨g,cap,cur,rfl,-⟩
 ·have hnil:=fun(w:World) (l c:Nat)=>Lib.run_eql_slice_nil (P:=prog) w 35 84 none l c 0 0 underlying35;have hx:xs=[]:=List.eq_nil_of_length_eq_zero (by simpa using hlen);subst hx;clear h;go_enter func44,ntmps44;go_wp2;go_ret;exact⟨_,rfl,World.ownsRow_nil _ _ _ _,AL⟩
 ·have hnews':∀j u,xs[j]? =some u->(w.alloc (Obj.cells #[] 84)).cell? ((⟨g,0,none⟩:Addr).add j)=some u:=fun j u hu=>by
   have hc:=h.cells rfl j u hu;rw[World.cell?_alloc_lt _ _ _ (World.block_lt_of_cell? w _ hc)];exact hc
  have hnil:=fun(w:World) (l c:Nat)=>Lib.run_eql_slice_nil (P:=prog) w 35 84 (some ⟨g,0,none⟩) l c 0 0 underlying35;go_enter func44,ntmps44;go_wp2_with(at_builtin;refine wpList_append_own _ rfl _ _ 35 rfl w.heap.size 84 i0 _ 4 48 underlying35 hi hz0 hz1 hz2 rfl (by decide) _ _ _ rfl (World.ownsRow_made w #[] 0 (AQ) (by decide) rfl) ⟨g,0,none⟩ n cap xs rfl ?c1 hnews' ?c3 ?c4 ?c5 ?c6 ?_)
  case c1=>exact hlen
  case c3=>exact h1
  case c4=>unfold maxLen;omega
  case c5=>omega
  case c6=>simp
  intro v' w2 hown hg _;have hB:AA6 w w2:=(AJ w _).grown hg (by simp) (fun k e=>Nat.le_of_eq (by simpa[Value.ownBlock]using e));obtain⟨pu,cu,rfl⟩:=Bf hown;replace hown:w2.ownsRow w.heap.size 84 4 (.slice pu n cu) n xs:=by simpa using hown
  go_wp2;go_ret;exact⟨_,rfl,hown,hB⟩
theorem AAo(h:w.ownsRow B 119 2 v n xs)(h1:∀u∈xs,u.oneCell'=true)(hn:n<=1000000):Calls prog 46 #[v] w fun e w'=>∃v',e=.returned v'/\w'.ownsRow w.heap.size 119 2 v' n xs/\AA6 w w':=by
 obtain⟨i0,hi,hz0,hz1,hz2⟩:=Cq aK;have hlen:=h.1;rcases h.2 with⟨rfl,rfl⟩|⟨g,cap,cur,rfl,-⟩
 ·have hnil:=fun(w:World) (l c:Nat)=>Lib.run_eql_slice_nil (P:=prog) w 36 119 none l c 0 0 underlying36;have hx:xs=[]:=List.eq_nil_of_length_eq_zero (by simpa using hlen);subst hx;clear h;go_enter func46,ntmps46;go_wp2;go_ret;exact⟨_,rfl,World.ownsRow_nil _ _ _ _,AL⟩
 ·have hnews':∀j u,xs[j]? =some u->(w.alloc (Obj.cells #[] 119)).cell? ((⟨g,0,none⟩:Addr).add j)=some u:=fun j u hu=>by
   have hc:=h.cells rfl j u hu;rw[World.cell?_alloc_lt _ _ _ (World.block_lt_of_cell? w _ hc)];exact hc
  have hnil:=fun(w:World) (l c:Nat)=>Lib.run_eql_slice_nil (P:=prog) w 36 119 (some ⟨g,0,none⟩) l c 0 0 underlying36;go_enter func46,ntmps46;go_wp2_with(at_builtin;refine wpList_append_own _ rfl _ _ 36 rfl w.heap.size 119 i0 _ 2 40 underlying36 hi hz0 hz1 hz2 rfl (by decide) _ _ _ rfl (World.ownsRow_made w #[] 0 (AQ) (by decide) rfl) ⟨g,0,none⟩ n cap xs rfl ?c1 hnews' ?c3 ?c4 ?c5 ?c6 ?_)
  case c1=>exact hlen
  case c3=>exact h1
  case c4=>unfold maxLen;omega
  case c5=>omega
  case c6=>simp
  intro v' w2 hown hg _;have hB:AA6 w w2:=(AJ w _).grown hg (by simp) (fun k e=>Nat.le_of_eq (by simpa[Value.ownBlock]using e));obtain⟨pu,cu,rfl⟩:=Bf hown;replace hown:w2.ownsRow w.heap.size 119 2 (.slice pu n cu) n xs:=by simpa using hown
  go_wp2;go_ret;exact⟨_,rfl,hown,hB⟩
theorem copyV(h:w.ownsRow B 34 2 v n xs)(h1:∀u∈xs,u.oneCell'=true)(hn:n<=1000000):Calls prog 47 #[v] w fun e w'=>∃v',e=.returned v'/\w'.ownsRow w.heap.size 34 2 v' n xs/\AA6 w w':=by
 obtain⟨i0,hi,hz0,hz1,hz2⟩:=Cq VW;have hlen:=h.1;rcases h.2 with⟨rfl,rfl⟩|⟨g,cap,cur,rfl,-⟩
 ·have hnil:=fun(w:World) (l c:Nat)=>Lib.run_eql_slice_nil (P:=prog) w 37 34 none l c 0 0 underlying37;have hx:xs=[]:=List.eq_nil_of_length_eq_zero (by simpa using hlen);subst hx;clear h;go_enter func47,ntmps47;go_wp2;go_ret;exact⟨_,rfl,World.ownsRow_nil _ _ _ _,AL⟩
 ·have hnews':∀j u,xs[j]? =some u->(w.alloc (Obj.cells #[] 34)).cell? ((⟨g,0,none⟩:Addr).add j)=some u:=fun j u hu=>by
   have hc:=h.cells rfl j u hu;rw[World.cell?_alloc_lt _ _ _ (World.block_lt_of_cell? w _ hc)];exact hc
  have hnil:=fun(w:World) (l c:Nat)=>Lib.run_eql_slice_nil (P:=prog) w 37 34 (some ⟨g,0,none⟩) l c 0 0 underlying37;go_enter func47,ntmps47;go_wp2_with(at_builtin;refine wpList_append_own _ rfl _ _ 37 rfl w.heap.size 34 i0 _ 2 24 underlying37 hi hz0 hz1 hz2 rfl (by decide) _ _ _ rfl (World.ownsRow_made w #[] 0 (AQ) (by decide) rfl) ⟨g,0,none⟩ n cap xs rfl ?c1 hnews' ?c3 ?c4 ?c5 ?c6 ?_)
  case c1=>exact hlen
  case c3=>exact h1
  case c4=>unfold maxLen;omega
  case c5=>omega
  case c6=>simp
  intro v' w2 hown hg _;have hB:AA6 w w2:=(AJ w _).grown hg (by simp) (fun k e=>Nat.le_of_eq (by simpa[Value.ownBlock]using e));obtain⟨pu,cu,rfl⟩:=Bf hown;replace hown:w2.ownsRow w.heap.size 34 2 (.slice pu n cu) n xs:=by simpa using hown
  go_wp2;go_ret;exact⟨_,rfl,hown,hB⟩
theorem AAq(h:w.ownsRow B 59 4 v n xs)(h1:∀u∈xs,u.oneCell'=true)(hn:n<=1000000):Calls prog 48 #[v] w fun e w'=>∃v',e=.returned v'/\w'.ownsRow w.heap.size 59 4 v' n xs/\AA6 w w':=by
 obtain⟨i0,hi,hz0,hz1,hz2⟩:=Cq aM;have hlen:=h.1;rcases h.2 with⟨rfl,rfl⟩|⟨g,cap,cur,rfl,-⟩
 ·have hnil:=fun(w:World) (l c:Nat)=>Lib.run_eql_slice_nil (P:=prog) w 38 59 none l c 0 0 underlying38;have hx:xs=[]:=List.eq_nil_of_length_eq_zero (by simpa using hlen);subst hx;clear h;go_enter func48,ntmps48;go_wp2;go_ret;exact⟨_,rfl,World.ownsRow_nil _ _ _ _,AL⟩
 ·have hnews':∀j u,xs[j]? =some u->(w.alloc (Obj.cells #[] 59)).cell? ((⟨g,0,none⟩:Addr).add j)=some u:=fun j u hu=>by
   have hc:=h.cells rfl j u hu;rw[World.cell?_alloc_lt _ _ _ (World.block_lt_of_cell? w _ hc)];exact hc
  have hnil:=fun(w:World) (l c:Nat)=>Lib.run_eql_slice_nil (P:=prog) w 38 59 (some ⟨g,0,none⟩) l c 0 0 underlying38;go_enter func48,ntmps48;go_wp2_with(at_builtin;refine wpList_append_own _ rfl _ _ 38 rfl w.heap.size 59 i0 _ 4 56 underlying38 hi hz0 hz1 hz2 rfl (by decide) _ _ _ rfl (World.ownsRow_made w #[] 0 (AQ) (by decide) rfl) ⟨g,0,none⟩ n cap xs rfl ?c1 hnews' ?c3 ?c4 ?c5 ?c6 ?_)
  case c1=>exact hlen
  case c3=>exact h1
  case c4=>unfold maxLen;omega
  case c5=>omega
  case c6=>simp
  intro v' w2 hown hg _;have hB:AA6 w w2:=(AJ w _).grown hg (by simp) (fun k e=>Nat.le_of_eq (by simpa[Value.ownBlock]using e));obtain⟨pu,cu,rfl⟩:=Bf hown;replace hown:w2.ownsRow w.heap.size 59 4 (.slice pu n cu) n xs:=by simpa using hown
  go_wp2;go_ret;exact⟨_,rfl,hown,hB⟩
theorem AAn(h:w.ownsRow B 2 1 v n xs)(h1:∀u∈xs,u.oneCell'=true)(hn:n<=1000000):Calls prog 49 #[v] w fun e w'=>∃v',e=.returned v'/\w'.ownsRow w.heap.size 2 1 v' n xs/\AA6 w w':=by
 obtain⟨i0,hi,hz0,hz1,hz2⟩:=Cq Zx;have hlen:=h.1;rcases h.2 with⟨rfl,rfl⟩|⟨g,cap,cur,rfl,-⟩
 ·have hnil:=fun(w:World) (l c:Nat)=>Lib.run_eql_slice_nil (P:=prog) w 28 2 none l c 0 0 underlying28;have hx:xs=[]:=List.eq_nil_of_length_eq_zero (by simpa using hlen);subst hx;clear h;go_enter func49,ntmps49;go_wp2;go_ret;exact⟨_,rfl,World.ownsRow_nil _ _ _ _,AL⟩
 ·have hnews':∀j u,xs[j]? =some u->(w.alloc (Obj.cells #[] 2)).cell? ((⟨g,0,none⟩:Addr).add j)=some u:=fun j u hu=>by
   have hc:=h.cells rfl j u hu;rw[World.cell?_alloc_lt _ _ _ (World.block_lt_of_cell? w _ hc)];exact hc
  have hnil:=fun(w:World) (l c:Nat)=>Lib.run_eql_slice_nil (P:=prog) w 28 2 (some ⟨g,0,none⟩) l c 0 0 underlying28;go_enter func49,ntmps49;go_wp2_with(at_builtin;refine wpList_append_own _ rfl _ _ 28 rfl w.heap.size 2 i0 _ 1 8 underlying28 hi hz0 hz1 hz2 rfl (by decide) _ _ _ rfl (World.ownsRow_made w #[] 0 (AQ) (by decide) rfl) ⟨g,0,none⟩ n cap xs rfl ?c1 hnews' ?c3 ?c4 ?c5 ?c6 ?_)
  case c1=>exact hlen
  case c3=>exact h1
  case c4=>unfold maxLen;omega
  case c5=>omega
  case c6=>simp
  intro v' w2 hown hg _;have hB:AA6 w w2:=(AJ w _).grown hg (by simp) (fun k e=>Nat.le_of_eq (by simpa[Value.ownBlock]using e));obtain⟨pu,cu,rfl⟩:=Bf hown;replace hown:w2.ownsRow w.heap.size 2 1 (.slice pu n cu) n xs:=by simpa using hown
  go_wp2;go_ret;exact⟨_,rfl,hown,hB⟩
end
section
open Num Dp
theorem YB{b:Nat}{m:Vm}(hm:CQ w b m):Calls prog 45 #[.map (some b)] w fun e w'=>∃nb,e=.returned (.map (some nb))/\w.heap.size<=nb/\CQ w' nb m/\AA6 w w':=by
 obtain⟨es,clock,hb,hrest⟩:=id hm;have t1:=underlying69;have hq:=fun w=>run_eql_map_nil_sl (P:=prog) w 69 _ _ (some b) t1;go_enter func45,ntmps45;go_wp2
 trace_state
 rw[run_callFunc_extern func72 (by kernel_rfl) (by kernel_rfl) (by kernel_rfl) (e:=Extern.MapsClone.clone) (by kernel_rfl),run_maps_clone_sl w 69 hb];simp only[Result.andThen];rw[Oper.upon_value];go_wp2;rw[run_typeAssert_map_sl _ 69 _ _ _ _ t1];simp only[Result.andThen];rw[Oper.upon_value];go_wp2;go_ret;exact⟨_,rfl,AQ,CQ.copy hb hm,AJ _ _⟩
end
end Go.Proofs.YtlffomedflegdaaGreatDoor
