/- LinesKeeps. -/
import Derived.Test.YtejfienogljboaaDoorLinR
namespace Go.Proofs.YtejfienogljboaaDoor
open Go.RowKit

theorem cell_block {w w' : World} {a : Addr} (h : w'.heap[a.block]? = w.heap[a.block]?) : w'.cell? a = w.cell? a := by simp [World.cell?, h]
/-- rows of the call's own, where all blocks from B on stay -/
theorem iv_keep {w w' : World} {B : Nat} {T : TypeId} {v : Value} {l : List LnI} {ns : Nat → Int} {us : Nat → Value} (h : Owns w B T 2 v l.length (ivC ns us)) (hk : ∀ k, B ≤ k → w'.heap[k]? = w.heap[k]?) (hr : ∀ (i : Nat) x, l[i]? = some x → ns i = x.1 ∧ StrAt w' (us i) x.2) : LinesAt w' v l := by
  obtain ⟨pu, cu, rfl⟩ := h.slice
  refine ⟨pu, cu, rfl, fun i x hx => ?_⟩
  have hi : i < l.length := by
    rcases Nat.lt_or_ge i l.length with h1 | h1
    · exact h1
    · rw [List.getElem?_eq_none h1] at hx; cases hx
  obtain ⟨g, cu', e, hB, _, _, hc, _⟩ := h.at (by omega)
  injection e with e1 e2 e3
  subst e1
  refine ⟨_, us i, rfl, ?_, ?_, (hr i x hx).2⟩
  · have := hc i 0 hi (by omega)
    rw [Nat.add_zero] at this
    rw [add_at, Nat.zero_add, cell_block (hk g hB), this]
    simp [ivC, (hr i x hx).1]
  · have := hc i 1 hi (by omega)
    rw [add_at, Nat.zero_add]
    dsimp only
    rw [cell_block (hk g hB), this]
    simp [ivC]
theorem word_keep {w w' : World} {B : Nat} {v : Value} {ws : List By} (h : WordRow w B v ws) (hk : ∀ k, B ≤ k → w'.heap[k]? = w.heap[k]?) : StrAt w' v ws := by
  obtain ⟨ss, h, hr⟩ := h
  obtain ⟨pu, cu, rfl⟩ := h.slice
  refine ⟨pu, cu, rfl, fun j x hx => ?_⟩
  have hj : j < ws.length := by
    rcases Nat.lt_or_ge j ws.length with h1 | h1
    · exact h1
    · rw [List.getElem?_eq_none h1] at hx; cases hx
  obtain ⟨g, cu', e, hB, _, _, hc, _⟩ := h.at (by omega)
  injection e with e1 e2 e3
  subst e1
  refine ⟨_, ss j, rfl, ?_, hr j x hx⟩
  have := hc j 0 hj (by omega)
  rw [add_at, Nat.zero_add, cell_block (hk g hB)]
  simpa [strC] using this
theorem line_keep {T : TypeId} {w w' : World} {B : Nat} {v : Value} {l : List Ln} (h : LineRow T w B v l) (hk : ∀ k, B ≤ k → w'.heap[k]? = w.heap[k]?) : LinesAt w' v (ints l) := by
  obtain ⟨ns, vs, h, hr⟩ := h
  have e : (ints l).length = l.length := by simp [ints]
  refine iv_keep (ns := fun i => (ns i : Int)) (us := vs) (by rw [e]; exact h) hk fun i y hy => ?_
  obtain ⟨x, hx, rfl⟩ : ∃ x, l[i]? = some x ∧ ((x.1 : Int), x.2) = y := by
    unfold ints at hy
    rw [List.getElem?_map] at hy
    exact Option.map_eq_some_iff.1 hy
  exact ⟨by rw [(hr i x hx).1], word_keep (hr i x hx).2 hk⟩

/-- words that are written over -/
structure Spoil (w : World) (a : Option Addr) (n : Nat) (pw : Nat → Option Addr) (ln cw : Nat → Nat) (B C : Nat) : Prop where
  c : ∀ q, q < n → ∃ d, a = some d ∧ w.cell? ⟨(d.add (q * 2)).block, (d.add (q * 2)).off + 1, none⟩ = some (.slice (pw q) (ln q) (cw q))
  s : ∀ q j, q < n → j < ln q → ∃ b s, pw q = some b ∧ w.cell? (b.add j) = some (.string s) ∧ w.frozen? (b.add j) = false ∧ B ≤ b.block ∧ b.block < C
theorem Spoil.next {w w' : World} {a : Option Addr} {n : Nat} {pw : Nat → Option Addr} {ln cw : Nat → Nat} {B C D : Nat} (h : Spoil w a n pw ln cw B C) (hb : Below D w w') (hD : w.heap.size ≤ D) : Spoil w' a n pw ln cw B C := by
  refine ⟨fun q hq => ?_, fun q j hq hj => ?_⟩
  · obtain ⟨d, h1, h2⟩ := h.c q hq
    exact ⟨d, h1, by rw [hb.cell (Nat.lt_of_lt_of_le (cells_lt h2) hD)]; exact h2⟩
  · obtain ⟨b, s, h1, h2, h3, h4, h5⟩ := h.s q j hq hj
    have := Nat.lt_of_lt_of_le (cells_lt h2) hD
    exact ⟨b, s, h1, by rw [hb.cell this]; exact h2, by rw [hb.frozen this]; exact h3, h4, h5⟩
theorem Spoil.put {w : World} {a : Option Addr} {n : Nat} {pw : Nat → Option Addr} {ln cw : Nat → Nat} {B C : Nat} (h : Spoil w a n pw ln cw B C) {x : Addr} {s : ByteArray} (hx : w.cell? x = some (.string s)) (t : ByteArray) : Spoil (w.setCell x (.string t)) a n pw ln cw B C := by
  refine ⟨fun q hq => ?_, fun q j hq hj => ?_⟩
  · obtain ⟨d, h1, h2⟩ := h.c q hq
    have hne : x ≠ ⟨(d.add (q * 2)).block, (d.add (q * 2)).off + 1, none⟩ := fun e => by rw [← e, hx] at h2; cases h2
    exact ⟨d, h1, by rw [World.cell?_setCell_other _ _ _ _ hne]; exact h2⟩
  · obtain ⟨b, s', h1, h2, h3, h4, h5⟩ := h.s q j hq hj
    by_cases e : x = b.add j
    · subst e
      exact ⟨b, t, h1, World.cell?_setCell_same _ _ _ h2, by rw [World.frozen?_setCell]; exact h3, h4, h5⟩
    · exact ⟨b, s', h1, by rw [World.cell?_setCell_other _ _ _ _ e]; exact h2, by rw [World.frozen?_setCell]; exact h3, h4, h5⟩
theorem spoil {T : TypeId} {w : World} {B : Nat} {v : Value} {l : List Ln} (h : LineRow T w B v l) (hw : ∀ x ∈ l, x.2.length ≤ 4194304) : ∃ a cu pw ln cw, v = .slice a l.length cu ∧ Spoil w a l.length pw ln cw B w.heap.size ∧ ∀ q, ln q ≤ 4194304 := by
  obtain ⟨ns, vs, h, hr⟩ := h
  obtain ⟨a, cu, rfl⟩ := h.slice
  have H : ∀ q, ∃ x : Option Addr × Nat × Nat, (∀ y, l[q]? = some y → vs q = .slice x.1 x.2.1 x.2.2 ∧ x.2.1 = y.2.length) ∧ x.2.1 ≤ 4194304 := fun q => by
    cases hq : l[q]? with
    | none => exact ⟨(none, 0, 0), (fun y e => by cases e), Nat.zero_le _⟩
    | some y =>
      obtain ⟨p, c, e⟩ := (hr q y hq).2.slice
      exact ⟨(p, y.2.length, c), fun y' e' => by cases e'; exact ⟨e, rfl⟩, hw y (List.mem_of_getElem? hq)⟩
  obtain ⟨f, hf⟩ := Classical.axiomOfChoice H
  refine ⟨a, cu, fun q => (f q).1, fun q => (f q).2.1, fun q => (f q).2.2, rfl, ⟨fun q hq => ?_, fun q j hq hj => ?_⟩, fun q => (hf q).2⟩
  · obtain ⟨g, cu', e, hB, _, _, hc, _⟩ := h.at (by omega)
    injection e with e1 e2 e3
    subst e1
    refine ⟨_, rfl, ?_⟩
    have := hc q 1 hq (by omega)
    rw [add_at, Nat.zero_add]
    dsimp only
    rw [this]
    simp only [lineC, if_neg (by omega : (1 : Nat) ≠ 0)]
    rw [((hf q).1 l[q] (by simp [hq])).1]
  · obtain ⟨e1, e2⟩ := (hf q).1 l[q] (by simp [hq])
    obtain ⟨ss, hW, -⟩ := (hr q l[q] (by simp [hq])).2
    rw [e1] at hW
    obtain ⟨g, cu', e, hB, hlt, _, hc, hfz⟩ := hW.at (by omega)
    injection e with e3 e4 e5
    refine ⟨⟨g, 0, none⟩, ss j, e3, ?_, by rw [add_at]; exact hfz _, hB, hlt⟩
    have := hc j 0 (by omega) (by omega)
    rw [add_at, Nat.zero_add]
    simpa [strC] using this
end Go.Proofs.YtejfienogljboaaDoor
