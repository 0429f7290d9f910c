/- The drawn region of awake. -/
import Derived.Test.YtjohjpjpfglkkaaDoorAwa
namespace Go.Proofs.YtjohjpjpfglkkaaDoor
open Go.RowKit

structure AwS (W : World) (arr zi : List Value) (V : Nat → Value) (L : Nat → Bool) (w : World) : Prop where
  b : Below W.heap.size W w
  c2 : L 2 = true → MadeS w W.heap.size (V 2) 2 arr
  c4 : L 4 = true → ∃ p, V 4 = .pointer (some ⟨p, 0, none⟩) ∧ W.heap.size ≤ p ∧ p < w.heap.size ∧ Box w p (if L 5 then [.int .i64 1, .string ⟨#[120]⟩, .string ⟨#[]⟩, V 2, .slice none 0 0, .slice none 0 0] else zi)
  n : L 2 = true → L 4 = true → ∀ p q, V 2 = .slice (some ⟨p, 0, none⟩) 2 2 → V 4 = .pointer (some ⟨q, 0, none⟩) → p ≠ q
section
variable {W w : World} {arr zi : List Value} {V : Nat → Value} {L : Nat → Bool}
theorem AwS.pass (h : AwS W arr zi V L w) {i : Nat} (h2 : (2 == i) = false) (h4 : (4 == i) = false) (h5 : (5 == i) = false) : AwS W arr zi V (upd L i) w := by
  obtain ⟨a1, a2, a3, a4⟩ := h
  refine ⟨a1, ?_, ?_, ?_⟩
  · rwa [upd_ne h2]
  · rwa [upd_ne h4, upd_ne h5]
  · rwa [upd_ne h2, upd_ne h4]
theorem AwS.next (h : AwS W arr zi V L w) {w1 : World} (hb : Below w.heap.size w w1) : AwS W arr zi V L w1 := by
  obtain ⟨a1, a2, a3, a4⟩ := h
  refine ⟨bthen' a1 hb, fun h => (a2 h).nx hb, fun h => ?_, a4⟩
  obtain ⟨p, e, h1, h2, h3⟩ := a3 h
  exact ⟨p, e, h1, Nat.lt_of_lt_of_le h2 hb.size, h3.below h2 hb⟩
theorem AwS.m2 (h : AwS W arr zi V L w) (t : TypeId) (e5 : L 5 = false) : AwS W arr zi (setV V 2 (.slice (some ⟨w.heap.size, 0, none⟩) 2 2)) (upd L 2) (w.alloc (Obj.cells arr.toArray t)) := by
  have hb := (Below.refl w.heap.size w).alloc (Nat.le_refl _) (Obj.cells arr.toArray t)
  obtain ⟨a1, a2, a3, a4⟩ := h
  refine ⟨bthen' a1 hb, fun _ => ?_, fun h => ?_, fun _ h p q e1 e2 => ?_⟩
  · rw [setV_self]; exact MadeS.new a1.size _ _ _
  · rw [upd_ne rfl] at h
    obtain ⟨p, e, h1, h2, h3⟩ := a3 h
    rw [e5] at h3
    refine ⟨p, by rw [setV_ne V _ (by decide)]; exact e, h1, Nat.lt_of_lt_of_le h2 hb.size, ?_⟩
    rw [upd_ne rfl, e5]
    exact h3.below h2 hb
  · rw [upd_ne rfl] at h
    obtain ⟨p', e, h1, h2, h3⟩ := a3 h
    rw [setV_self] at e1
    rw [setV_ne V _ (by decide), e] at e2
    injection e1 with e1
    injection e1 with e1
    injection e1 with e1
    injection e2 with e2
    injection e2 with e2
    injection e2 with e2
    omega
theorem AwS.m4 (h : AwS W arr zi V L w) (t : TypeId) (e5 : L 5 = false) : AwS W arr zi (setV V 4 (.pointer (some ⟨w.heap.size, 0, none⟩))) (upd L 4) (w.alloc (Obj.cells zi.toArray t)) := by
  have hb := (Below.refl w.heap.size w).alloc (Nat.le_refl _) (Obj.cells zi.toArray t)
  obtain ⟨a1, a2, a3, a4⟩ := h
  refine ⟨bthen' a1 hb, fun h => ?_, fun _ => ?_, fun h _ p q e1 e2 => ?_⟩
  · rw [upd_ne rfl] at h; rw [setV_ne V _ (by decide)]; exact (a2 h).nx hb
  · refine ⟨w.heap.size, setV_self _ _ _, a1.size, by simp, ?_⟩
    rw [upd_ne rfl, e5]
    exact Box.alloc w zi t
  · rw [upd_ne rfl] at h
    obtain ⟨p', e, h1, h2, h3⟩ := a2 h
    rw [setV_self] at e2
    rw [setV_ne V _ (by decide), e] at e1
    injection e1 with e1
    injection e1 with e1
    injection e1 with e1
    injection e2 with e2
    injection e2 with e2
    injection e2 with e2
    omega
theorem AwS.d5 (h : AwS W arr zi V L w) (h2 : L 2 = true) (h4 : L 4 = true) (h5 : L 5 = false) {p : Nat} (hp : V 4 = .pointer (some ⟨p, 0, none⟩)) (hz : zi.length = 6) :
    AwS W arr zi V (upd L 5) ((((((w.setCell ⟨p, 0, none⟩ (.int .i64 1)).setCell ⟨p, 1, none⟩ (.string ⟨#[120]⟩)).setCell ⟨p, 2, none⟩ (.string ⟨#[]⟩)).setCell ⟨p, 3, none⟩ (V 2)).setCell ⟨p, 4, none⟩ (.slice none 0 0)).setCell ⟨p, 5, none⟩ (.slice none 0 0)) := by
  obtain ⟨a1, a2, a3, a4⟩ := h
  obtain ⟨p', e, h1, hl, h3⟩ := a3 h4
  obtain rfl : p = p' := by
    rw [hp] at e
    injection e with e
    injection e with e
    injection e with e
  rw [h5] at h3
  replace h3 : Box w p zi := h3
  have hne : V 2 ≠ .slice (some ⟨p, 0, none⟩) 2 2 := fun e2 => a4 h2 h4 p p e2 hp rfl
  have hM := (((((((a2 h2).far hne 0 (.int .i64 1)).far hne 1 (.string ⟨#[120]⟩)).far hne 2 (.string ⟨#[]⟩)).far hne 3 (V 2)).far hne 4 (.slice none 0 0)).far hne 5 (.slice none 0 0))
  have hB := (((((h3.set (i := 0) (by omega) (.int .i64 1)).set (i := 1) (by simp; omega) (.string ⟨#[120]⟩)).set (i := 2) (by simp; omega) (.string ⟨#[]⟩)).set (i := 3) (by simp; omega) (V 2)).set (i := 4) (by simp; omega) (.slice none 0 0)).set (i := 5) (by simp; omega) (.slice none 0 0)
  refine ⟨((((((a1.setCell (p := ⟨p, 0, none⟩) h1 _).setCell (p := ⟨p, 1, none⟩) h1 _).setCell (p := ⟨p, 2, none⟩) h1 _).setCell (p := ⟨p, 3, none⟩) h1 _).setCell (p := ⟨p, 4, none⟩) h1 _).setCell (p := ⟨p, 5, none⟩) h1 _), fun _ => hM, fun _ => ⟨p, hp, h1, by simpa using hl, ?_⟩, ?_⟩
  · rw [upd_self]
    match zi, hz, hB with
    | [_, _, _, _, _, _], _, hB => exact hB
  · rw [upd_ne rfl, upd_ne rfl]; exact a4
end
end Go.Proofs.YtjohjpjpfglkkaaDoor
