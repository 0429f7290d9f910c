/- Copies of heaps: slices.Clone, copied. -/
import Derived.Test.YtndakhnplnamdaaHeapA
import Derived.Test.YtndakhnplnamdaaRowC
namespace Go.Proofs.Ytndakhnplnamdaa
open Go.RowKit

theorem infoV : (Try.prog.info? 25).map (fun i => (i.zero, i.size, i.bytes)) = some (some (.agg #[.string .empty, .int .i64 0]), 2, 24) := by kernel_rfl
theorem infoO : (Try.prog.info? 41).map (fun i => (i.zero, i.size, i.bytes)) = some (some (.agg #[.string .empty, .slice none 0 0]), 2, 40) := by kernel_rfl

def valC (vs : Nat → Vl) (i k : Nat) : Value := if k = 0 then .string (vs i).1 else .int .i64 (vs i).2
def objC (ob : Nat → ObjD) (i k : Nat) : Value := if k = 0 then .string (ob i).c else .slice (ob i).p (ob i).l (ob i).k
theorem valC_one (vs : Nat → Vl) (i k : Nat) : (valC vs i k).oneCell' = true := by unfold valC; split <;> rfl
theorem objC_one (ob : Nat → ObjD) (i k : Nat) : (objC ob i k).oneCell' = true := by unfold objC; split <;> rfl

theorem Vals.news {w : World} {a : Addr} {l : Nat} {vs : Nat → Vl} (h : Vals w (some a) l vs) : ∀ j u, (rowC 2 l (valC vs))[j]? = some u → w.cell? (a.add j) = some u := by
  intro j u hu
  obtain ⟨i, k, hi, hk, rfl, rfl⟩ := rowC_mem hu
  obtain ⟨B, o, e, hB, hc⟩ := h.at' (by omega)
  obtain rfl : a = ⟨B, o, none⟩ := by simpa using e
  rw [add_at, ← Nat.add_assoc]
  obtain ⟨c0, c1⟩ := hc i hi
  rcases (by omega : k = 0 ∨ k = 1) with rfl | rfl
  · exact c0
  · exact c1
theorem Objs.news {w : World} {a : Addr} {l : Nat} {ob : Nat → ObjD} (h : Objs w (some a) l ob) : ∀ j u, (rowC 2 l (objC ob))[j]? = some u → w.cell? (a.add j) = some u := by
  intro j u hu
  obtain ⟨i, k, hi, hk, rfl, rfl⟩ := rowC_mem hu
  obtain ⟨B, o, e, hB, hc⟩ := h.at' (by omega)
  obtain rfl : a = ⟨B, o, none⟩ := by simpa using e
  rw [add_at, ← Nat.add_assoc]
  obtain ⟨c0, c1⟩ := hc i hi
  rcases (by omega : k = 0 ∨ k = 1) with rfl | rfl
  · exact c0
  · exact c1
theorem Owns.vals {w : World} {B : Nat} {pa : Option Addr} {l ca : Nat} {vs : Nat → Vl} (h : Owns w B 25 2 (.slice pa l ca) l (valC vs)) (hl : l ≤ 9223372036854775807) (hr : ∀ i, i < l → -9223372036854775808 ≤ (vs i).2 ∧ (vs i).2 ≤ 9223372036854775807) : Vals w pa l vs :=
  { at' := fun h0 => by
      obtain ⟨g, cu, e, _, hlt, _, hc, _⟩ := h.at h0
      simp only [Value.slice.injEq] at e
      obtain ⟨rfl, -⟩ := e
      exact ⟨g, 0, rfl, hlt, fun i hi => ⟨by rw [Nat.zero_add]; exact hc i 0 hi (by decide), by rw [Nat.zero_add]; exact hc i 1 hi (by decide)⟩⟩
    r := hr
    m := hl }

set_option maxHeartbeats 1000000 in
theorem cloneV (pa : Option Addr) (l cap : Nat) (vs) (hl : l ≤ 1000) (w : World) (h : Vals w pa l vs) :
    Calls Try.prog 26 #[.slice pa l cap] w fun e w' => ∃ v, e = .returned v ∧ Owns w' w.heap.size 25 2 v l (valC vs) ∧ Below w.heap.size w w' := by
  obtain ⟨i0, hi, hz0, hz1, hz2⟩ := info_parts infoV
  cases pa with
  | none =>
    obtain rfl : l = 0 := by
      by_cases h0 : 0 < l
      · obtain ⟨B, o, e, _⟩ := h.at' h0; cases e
      · omega
    have hnil := fun (w : World) (l c : Nat) => Lib.run_eql_slice_nil (P := Try.prog) w 23 25 none l c 0 0 Try.underlying23
    clear h
    go_enter Try.func26, Try.ntmps26
    go_wp2
    go_ret
    exact ⟨_, rfl, Owns.nil, Below.refl _ _⟩
  | some a =>
    have hnews := h.news
    have hnews' : ∀ j u, (rowC 2 l (valC vs))[j]? = some u → (w.alloc (Obj.cells #[] 25)).cell? (a.add j) = some u := fun j u hu => by
      have hc := hnews j u hu
      rw [World.cell?_alloc_lt _ _ _ (World.block_lt_of_cell? w _ hc)]
      exact hc
    clear hnews
    have hnil := fun (w : World) (l c : Nat) => Lib.run_eql_slice_nil (P := Try.prog) w 23 25 (some a) l c 0 0 Try.underlying23
    go_enter Try.func26, Try.ntmps26
    go_wp2_with (at_builtin; refine wpList_append_own _ rfl _ _ 23 rfl w.heap.size 25 i0 _ 2 24 Try.underlying23 hi hz0 hz1 hz2 rfl (by decide) _ _ _ rfl (World.ownsRow_made w #[] 0 (Nat.le_refl _) (by decide) rfl) a l cap (rowC 2 l (valC vs)) rfl ?c1 hnews' ?c3 ?c4 ?c5 ?c6 ?_)
    case c1 => exact rowC_len _ _ _
    case c3 => exact rowC_one fun i k _ _ => valC_one vs i k
    case c4 => unfold maxLen; omega
    case c5 => omega
    case c6 => simp
    intro v' w2 hown hg _
    have hB : Below w.heap.size w w2 := ((Below.refl w.heap.size w).alloc (Nat.le_refl _) _).grown hg (by simp) (fun k e => Nat.le_of_eq (by simpa [Value.ownBlock] using e))
    obtain ⟨pu, cu, rfl⟩ := Owns.slice hown
    go_wp2
    go_ret
    exact ⟨_, rfl, hown, hB⟩
set_option maxHeartbeats 1000000 in
theorem cloneO (pa : Option Addr) (l cap : Nat) (vs) (hl : l ≤ 1000) (w : World) (h : Objs w pa l vs) :
    Calls Try.prog 29 #[.slice pa l cap] w fun e w' => ∃ v, e = .returned v ∧ Owns w' w.heap.size 41 2 v l (objC vs) ∧ Below w.heap.size w w' := by
  obtain ⟨i0, hi, hz0, hz1, hz2⟩ := info_parts infoO
  cases pa with
  | none =>
    obtain rfl : l = 0 := by
      by_cases h0 : 0 < l
      · obtain ⟨B, o, e, _⟩ := h.at' h0; cases e
      · omega
    have hnil := fun (w : World) (l c : Nat) => Lib.run_eql_slice_nil (P := Try.prog) w 22 41 none l c 0 0 Try.underlying22
    clear h
    go_enter Try.func29, Try.ntmps29
    go_wp2
    go_ret
    exact ⟨_, rfl, Owns.nil, Below.refl _ _⟩
  | some a =>
    have hnews := h.news
    have hnews' : ∀ j u, (rowC 2 l (objC vs))[j]? = some u → (w.alloc (Obj.cells #[] 41)).cell? (a.add j) = some u := fun j u hu => by
      have hc := hnews j u hu
      rw [World.cell?_alloc_lt _ _ _ (World.block_lt_of_cell? w _ hc)]
      exact hc
    clear hnews
    have hnil := fun (w : World) (l c : Nat) => Lib.run_eql_slice_nil (P := Try.prog) w 22 41 (some a) l c 0 0 Try.underlying22
    go_enter Try.func29, Try.ntmps29
    go_wp2_with (at_builtin; refine wpList_append_own _ rfl _ _ 22 rfl w.heap.size 41 i0 _ 2 40 Try.underlying22 hi hz0 hz1 hz2 rfl (by decide) _ _ _ rfl (World.ownsRow_made w #[] 0 (Nat.le_refl _) (by decide) rfl) a l cap (rowC 2 l (objC vs)) rfl ?c1 hnews' ?c3 ?c4 ?c5 ?c6 ?_)
    case c1 => exact rowC_len _ _ _
    case c3 => exact rowC_one fun i k _ _ => objC_one vs i k
    case c4 => unfold maxLen; omega
    case c5 => omega
    case c6 => simp
    intro v' w2 hown hg _
    have hB : Below w.heap.size w w2 := ((Below.refl w.heap.size w).alloc (Nat.le_refl _) _).grown hg (by simp) (fun k e => Nat.le_of_eq (by simpa [Value.ownBlock] using e))
    obtain ⟨pu, cu, rfl⟩ := Owns.slice hown
    go_wp2
    go_ret
    exact ⟨_, rfl, hown, hB⟩

/-- the same objects, as far as i of them go: classes, values -/
def SameOb (n : Nat) (ob oq : Nat → ObjD) : Prop := ∀ i, i < n → (ob i).c = (oq i).c ∧ (ob i).l = (oq i).l ∧ ∀ j, j < (ob i).l → (ob i).vs j = (oq i).vs j
def slV (o : ObjD) : Value := .slice o.p o.l o.k
/-- a heap of the call's own, whose first m objects' values are its own as well -/
structure HeapOwn (w : World) (B : Nat) (v : Value) (n m : Nat) (ob : Nat → ObjD) : Prop where
  row : Owns w B 41 2 v n (objC ob)
  vals : ∀ i, i < m → Owns w B 25 2 (slV (ob i)) (ob i).l (valC (ob i).vs)
  apart : ∀ i j g, i < m → j < m → i ≠ j → (slV (ob i)).ownBlock = some g → (slV (ob j)).ownBlock ≠ some g
theorem HeapOwn.next {w w' : World} {B C n m : Nat} {v : Value} {ob : Nat → ObjD} (h : HeapOwn w B v n m ob) (hb : Below C w w') (hC : w.heap.size ≤ C) : HeapOwn w' B v n m ob :=
  ⟨h.row.next hb hC, fun i hi => (h.vals i hi).next hb hC, h.apart⟩

/-- an object's values laid anew -/
def reob (ob : Nat → ObjD) (i : Nat) (p : Option Addr) (k : Nat) : Nat → ObjD := fun j => if j = i then { ob i with p := p, k := k } else ob j
theorem reob_at (ob : Nat → ObjD) (i : Nat) (p : Option Addr) (k : Nat) : reob ob i p k i = { ob i with p := p, k := k } := if_pos rfl
theorem reob_ne {ob : Nat → ObjD} {i j : Nat} (h : j ≠ i) (p : Option Addr) (k : Nat) : reob ob i p k j = ob j := if_neg h
theorem HeapOwn.step {w w1 : World} {B n i : Nat} {g cu : Nat} {ob : Nat → ObjD} (h : HeapOwn w B (.slice (some ⟨g, 0, none⟩) n cu) n i ob) (hb : Below w.heap.size w w1) {p : Option Addr} {k : Nat}
    (hv : Owns w1 w.heap.size 25 2 (.slice p (ob i).l k) (ob i).l (valC (ob i).vs)) (hB : B ≤ w.heap.size) (hg : g < w.heap.size) :
    HeapOwn (w1.setCell ⟨g, i * 2 + 1, none⟩ (.slice p (ob i).l k)) B (.slice (some ⟨g, 0, none⟩) n cu) n (i + 1) (reob ob i p k) := by
  have h1 := h.next hb (Nat.le_refl _)
  have gs : w1.grownBy (w1.setCell ⟨g, i * 2 + 1, none⟩ (.slice p (ob i).l k)) (some g) := (World.ownsRow.stored h1.row (i * 2 + 1) _).2
  have hn : ∀ j, j < i → (slV (ob j)).ownBlock ≠ some g := fun j hj e => (h1.vals j hj).unlike h1.row (by decide) e rfl
  have hn' : (Value.slice p (ob i).l k).ownBlock ≠ some g := fun e => by
    have := (Owns.lt hv g e).1
    omega
  refine ⟨(h1.row.set (by decide : 1 < 2) _).congr fun a b _ hb => ?_, fun j hj => ?_, fun a b q ha hb hab e1 e2 => ?_⟩
  · rcases (by omega : b = 0 ∨ b = 1) with rfl | rfl
    · simp only [objC, reob]
      by_cases e : a = i <;> simp [e]
    · simp only [objC, reob]
      by_cases e : a = i <;> simp [e]
  · by_cases e : j = i
    · subst e
      rw [reob_at]
      have := hv.kept gs (.inr hn')
      obtain ⟨x1, x2⟩ := this
      refine ⟨x1, ?_⟩
      rcases x2 with x2 | ⟨g', cap, cur, y1, y2, y3⟩
      · exact .inl x2
      · exact .inr ⟨g', cap, cur, y1, by omega, y3⟩
    · rw [reob_ne e]
      exact (h1.vals j (by omega)).kept gs (.inr (hn j (by omega)))
  · have key : ∀ j, j < i → ∀ q, (slV (ob j)).ownBlock = some q → q < w.heap.size := fun j hj q e => ((h.vals j hj).lt q e).2
    by_cases ea : a = i
    · subst ea
      have eb : b ≠ a := fun e => hab e.symm
      rw [reob_at] at e1
      rw [reob_ne eb] at e2
      have := key b (by omega) q e2
      have := (Owns.lt hv q e1).1
      omega
    · rw [reob_ne ea] at e1
      by_cases eb : b = i
      · subst eb
        rw [reob_at] at e2
        have := key a (by omega) q e1
        have := (Owns.lt hv q e2).1
        omega
      · rw [reob_ne eb] at e2
        exact h.apart a b q (by omega) (by omega) hab e1 e2

/-- the state of 'copied' at round i -/
def CopSt (w wr : World) (n i : Nat) (ob : Nat → ObjD) (v : Value) : Prop :=
  ∃ oq, HeapOwn wr w.heap.size v n i oq ∧ (∀ j, j < n → (oq j).c = (ob j).c ∧ (oq j).l = (ob j).l ∧ (oq j).vs = (ob j).vs) ∧ (∀ j, i ≤ j → oq j = ob j) ∧ Below w.heap.size w wr

set_option maxHeartbeats 2000000 in
theorem copied_val (ph : Option Addr) (n ch : Nat) (ob : Nat → ObjD) (hn : n ≤ 1000) (hl : ∀ i, i < n → (ob i).l ≤ 1000) (w : World) (hO : Objs w ph n ob) :
    Calls Try.prog 25 #[.slice ph n ch] w fun e w' => ∃ v oq, e = .returned v ∧ HeapOwn w' w.heap.size v n n oq ∧ (∀ j, j < n → (oq j).c = (ob j).c ∧ (oq j).l = (ob j).l ∧ (oq j).vs = (ob j).vs) ∧ Below w.heap.size w w' := by
  have HC := cloneO ph n ch ob hn w hO
  go_enter Try.func25, Try.ntmps25
  go_wp2_with (go_at_call 29; refine HC.mono ?_; rintro e w1 ⟨v, rfl, hv, hb⟩; obtain ⟨pu, cu, rfl⟩ := hv.slice)
  clear HC
  go_loopw [9] (fun i wr => ∃ q : Nat, q ≤ n ∧ i = .int .i64 (q : Int) ∧ CopSt w wr n q ob (.slice pu n cu)) (fun i _ => n - (intOf i).toNat)
  case atStart => exact ⟨0, Nat.zero_le _, rfl, ob, ⟨hv, fun i hi => absurd hi (Nat.not_lt_zero i), fun i _ _ hi => absurd hi (Nat.not_lt_zero i)⟩, fun _ _ => ⟨rfl, rfl, rfl⟩, fun _ _ => rfl, hb⟩
  case round =>
    obtain ⟨q, hq, rfl, oq, hH, hS, hsame, hB⟩ := hrel
    clear hv hb
    by_cases hlt : q < n
    · obtain ⟨g, cu', e, hg1, hg2, hgn, hc, hf⟩ := hH.row.at (by omega)
      simp only [Value.slice.injEq, true_and] at e
      obtain ⟨rfl, rfl⟩ := e
      have c1 := hc q 1 hlt (by decide)
      have f1 := hf (q * 2 + 1)
      have eq0 := hsame q (Nat.le_refl _)
      have hV := ((hO.below hB).v q hlt)
      rw [← eq0] at hV
      have HV := cloneV (oq q).p (oq q).l (oq q).k (oq q).vs (by rw [eq0]; exact hl q hlt) wr hV
      have c1' : wr.cell? ⟨g, q * 2 + 1, none⟩ = some (.slice (oq q).p (oq q).l (oq q).k) := c1
      clear hc hf c1 hO hl eq0 hV
      have HS := fun w1 p k (hb : Below wr.heap.size wr w1) hv => hH.step (i := q) (w1 := w1) (p := p) (k := k) hb hv hB.size hg2
      have HN : ∀ p k w2, HeapOwn w2 w.heap.size (.slice (some ⟨g, 0, none⟩) n cu) n (q + 1) (reob oq q p k) → Below w.heap.size w w2 → CopSt w w2 n (q + 1) ob (.slice (some ⟨g, 0, none⟩) n cu) := fun p k w2 h1 h2 =>
        ⟨_, h1, fun j hj => by
          by_cases e : j = q
          · subst e
            rw [reob_at]
            exact hS j hj
          · rw [reob_ne e]
            exact hS j hj, fun j hj => by rw [reob_ne (by omega)]; exact hsame j (by omega), h2⟩
      clear hS hsame hH
      go_wp2_with (go_at_call 26; refine HV.mono ?_; rintro e w1 ⟨v, rfl, hv, hb⟩; obtain ⟨pv, kv, rfl⟩ := hv.slice; have c2 : w1.cell? ⟨g, q * 2 + 1, none⟩ = some (.slice (oq q).p (oq q).l (oq q).k) := (by rw [hb.cell hg2]; exact c1'); have f2 : w1.frozen? ⟨g, q * 2 + 1, none⟩ = false := (by rw [hb.frozen hg2]; exact f1))
      have hM := HN _ _ _ (HS _ _ _ hb hv) ((hB.trans (hb.mono hB.size)).setCell (p := ⟨g, q * 2 + 1, none⟩) hg1 _)
      clear HN HS hv hb c2 f2 HV
      go_roundw
      case rel => exact ⟨q + 1, by omega, by go_num, hM⟩
      case measure => simp [intOf]; omega
    · obtain rfl : q = n := by omega
      go_wp2
      go_ret
      exact ⟨_, oq, rfl, hH, hS, hB⟩
end Go.Proofs.Ytndakhnplnamdaa
