/- What the laws' awake holds, on the way to it. -/
import Derived.Test.YtjohjpjpfglkkaaDoorExb
import Derived.Test.YtjohjpjpfglkkaaDoorHds
import Derived.Test.YtjohjpjpfglkkaaDoorEnd
namespace Go.Proofs.YtjohjpjpfglkkaaDoor
open Go.RowKit

set_option maxHeartbeats 2000000 in
theorem arg_val (s : ByteArray) (w : World) : Calls Tryd.prog 9 #[.string s] w fun e w' => e = .returned (.agg #[.int .i64 1, .string s, .int .i64 0]) ∧ Below w.heap.size w w' := by
  go_enter Tryd.func9, Tryd.ntmps9
  go_wp2
  ((try simp only [Exit.inBlock, Exit.then]); refine bodyPost_ret_by (v := (.agg #[.int .i64 1, .string s, .int .i64 0])) ((results_cell1 rfl _ _ _).trans (by go_simp; try rfl)) rfl ⟨rfl, ?_⟩)
  (repeat (first | with_reducible assumption | exact (Below.refl _ _).alloc (Nat.le_refl _) _ | exact Below.refl _ _ | (refine Below.drew ?_) | (refine Below.setCell ?_ ?_ _; rotate_left; first | exact Nat.le_refl _ | (dsimp only; omega)) | (refine Below.alloc ?_ ?_ _; rotate_left; first | exact Nat.le_refl _ | (simp; omega) | simp)))

/-- a slice of n elements in a block of its own -/
def MadeS (w : World) (b : Nat) (v : Value) (n : Nat) (cs : List Value) : Prop := ∃ p, v = .slice (some ⟨p, 0, none⟩) n n ∧ b ≤ p ∧ p < w.heap.size ∧ Box w p cs
theorem MadeS.sl {w : World} {b n : Nat} {v : Value} {cs : List Value} (h : MadeS w b v n cs) : v = .slice (some ⟨Classical.choose h, 0, none⟩) n n := (Classical.choose_spec h).1
theorem MadeS.nx {w w1 : World} {b n : Nat} {v : Value} {cs : List Value} (h : MadeS w b v n cs) (hb : Below w.heap.size w w1) : MadeS w1 b v n cs := by
  obtain ⟨p, e, h1, h2, h3⟩ := h
  exact ⟨p, e, h1, Nat.lt_of_lt_of_le h2 hb.size, h3.below h2 hb⟩
theorem MadeS.far {w : World} {b n : Nat} {v : Value} {cs : List Value} (h : MadeS w b v n cs) {q : Nat} (hne : v ≠ .slice (some ⟨q, 0, none⟩) n n) (i : Nat) (u : Value) : MadeS (w.setCell ⟨q, i, none⟩ u) b v n cs := by
  obtain ⟨p, e, h1, h2, h3⟩ := h
  refine ⟨p, e, h1, by simpa using h2, h3.far (fun e2 => hne ?_) u⟩
  rw [e]
  dsimp only at e2
  rw [e2]
theorem MadeS.new {w : World} {b : Nat} (hb : b ≤ w.heap.size) (n : Nat) (cs : List Value) (t : TypeId) : MadeS (w.alloc (Obj.cells cs.toArray t)) b (.slice (some ⟨w.heap.size, 0, none⟩) n n) n cs := ⟨_, rfl, hb, by simp, Box.alloc w cs t⟩

/-! the example's instructions -/
def exOne : Ag := ⟨2, ⟨#[]⟩, 1⟩
def exVar (s : ByteArray) : Ag := ⟨1, s, 0⟩
def exSum : Is := ⟨1, ⟨#[120]⟩, ⟨#[]⟩, [exOne, exVar ⟨#[121]⟩], [], []⟩
def exLoad : Is := ⟨26, ⟨#[120]⟩, ⟨#[97]⟩, [exVar ⟨#[111]⟩], [], []⟩
def exBad : Is := ⟨26, ⟨#[111]⟩, ⟨#[97]⟩, [exVar ⟨#[111]⟩], [], []⟩
theorem ex_heads : headsB exP = true := by decide
theorem ex_sum : instrB exP exF exSum = true := by decide
theorem ex_load : instrB exP exF exLoad = true := by decide
theorem ex_bad : instrB exP exF exBad = false := by decide
theorem ex_ret : endB exF 3 ⟨4, ⟨#[]⟩, 0⟩ 0 = true := by decide
theorem ex_no : endB exF 3 exOne 0 = false := by decide
theorem ex_few : Vfew exP := by decide
end Go.Proofs.YtjohjpjpfglkkaaDoor
