/- The walks of package fold: the small functions. -/
import Derived.Test.YtiheecgabfcigaaArg
import Derived.Test.YtiheecgabfcigaaNumW
import Derived.Test.YtiheecgabfcigaaFloIW
namespace Go.Proofs.Ytiheecgabfcigaa
open Go.RowKit Num Flo

theorem point_val (n : Int) (w : World) : Calls Try.prog 31 #[.int .i64 n] w fun e w' => e = .returned (.agg #[.int .i64 3, .string .empty, .int .i64 n]) ∧ Below w.heap.size w w' := by
  go_enter Try.func31, Try.ntmps31
  go_wp2
  ((try simp only [Exit.inBlock, Exit.then]); refine bodyPost_ret_by (v := (.agg #[.int .i64 3, .string .empty, .int .i64 n])) ((results_cell1 rfl _ _ _).trans (by go_simp; try rfl)) rfl ⟨rfl, ?_⟩)
  (repeat (first | with_reducible assumption | exact (Below.refl _ _).alloc (Nat.le_refl _) _ | exact Below.refl _ _ | (refine Below.drew ?_) | (refine Below.setCell ?_ ?_ _; rotate_left; first | exact Nat.le_refl _ | (dsimp only; omega)) | (refine Below.alloc ?_ ?_ _; rotate_left; first | exact Nat.le_refl _ | (simp; omega) | simp)))
theorem whole_val (n : Int) (w : World) : Calls Try.prog 33 #[.int .i64 n] w fun e w' => e = .returned (.agg #[.int .i64 2, .string .empty, .int .i64 n]) ∧ Below w.heap.size w w' := by
  go_enter Try.func33, Try.ntmps33
  go_wp2
  ((try simp only [Exit.inBlock, Exit.then]); refine bodyPost_ret_by (v := (.agg #[.int .i64 2, .string .empty, .int .i64 n])) ((results_cell1 rfl _ _ _).trans (by go_simp; try rfl)) rfl ⟨rfl, ?_⟩)
  (repeat (first | with_reducible assumption | exact (Below.refl _ _).alloc (Nat.le_refl _) _ | exact Below.refl _ _ | (refine Below.drew ?_) | (refine Below.setCell ?_ ?_ _; rotate_left; first | exact Nat.le_refl _ | (dsimp only; omega)) | (refine Below.alloc ?_ ?_ _; rotate_left; first | exact Nat.le_refl _ | (simp; omega) | simp)))
theorem is_val (K : Int) (s : ByteArray) (n m : Int) (b : Bool) (h : (K == 2 && n == m) = b) (w : World) : Calls Try.prog 39 #[.agg #[.int .i64 K, .string s, .int .i64 n], .int .i64 m] w fun e w' => e = .returned (.bool b) ∧ Below w.heap.size w w' := by
  have H := Lib.hid h
  clear h
  rcases h1 : (K == 2) with _ | _
  all_goals
    go_enter Try.func39, Try.ntmps39
    go_wp2
    go_ret
    refine ⟨ret_bool ?_, (Below.refl _ _).alloc (Nat.le_refl _) _⟩
    rw [← H.out, h1]
    try rfl
theorem isFloat_val (K : Int) (s : ByteArray) (n m : Int) (b : Bool) (h : (K == 3 && n == m) = b) (w : World) : Calls Try.prog 40 #[.agg #[.int .i64 K, .string s, .int .i64 n], .int .i64 m] w fun e w' => e = .returned (.bool b) ∧ Below w.heap.size w w' := by
  have H := Lib.hid h
  clear h
  rcases h1 : (K == 3) with _ | _
  all_goals
    go_enter Try.func40, Try.ntmps40
    go_wp2
    go_ret
    refine ⟨ret_bool ?_, (Below.refl _ _).alloc (Nat.le_refl _) _⟩
    rw [← H.out, h1]
    try rfl
end Go.Proofs.Ytiheecgabfcigaa
