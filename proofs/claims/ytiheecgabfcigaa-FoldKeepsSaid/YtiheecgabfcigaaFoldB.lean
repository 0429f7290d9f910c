/- The walks of package fold: nought, one, nulls. -/
import Derived.Test.YtiheecgabfcigaaFoldA
namespace Go.Proofs.Ytiheecgabfcigaa
open Go.RowKit Num Flo

/-- rule 2: whether it applies -/
def noughtV (op K n K2 n2 : Int) : Bool :=
  if op = 3 ∨ op = 6 then (K == 2 && n == 0) || (K2 == 2 && n2 == 0)
  else if op = 5 then (K2 == 2 && n2 == 1) || (K2 == 2 && n2 == -1)
  else if op = 9 ∨ op = 10 then (K == 2 && n == 0)
  else false

set_option maxHeartbeats 1000000 in
theorem nought_val (op K : Int) (s : ByteArray) (n K2 : Int) (s2 : ByteArray) (n2 : Int) (b : Bool) (h : noughtV op K n K2 n2 = b) (w : World) :
    Calls Try.prog 18 #[.int .i64 op, .agg #[.int .i64 K, .string s, .int .i64 n], .agg #[.int .i64 K2, .string s2, .int .i64 n2]] w fun e w' => e = .returned (.tuple #[.agg #[.int .i64 2, .string .empty, .int .i64 0], .bool b]) ∧ Below w.heap.size w w' := by
  have i0 : In3 w _ K s n K2 s2 n2 := In3.refl
  have hB := In3.below i0
  have hop : op = 3 ∨ op = 6 ∨ op = 5 ∨ op = 9 ∨ op = 10 ∨ (op ≠ 3 ∧ op ≠ 6 ∧ op ≠ 5 ∧ op ≠ 9 ∧ op ≠ 10) := by omega
  have H := Lib.hid h
  clear h
  rcases hop with rfl | rfl | rfl | rfl | rfl | ⟨n3, n6, n5, n9, n10⟩
  · rcases hp1 : (K == 2 && n == 0) with _ | _
    all_goals rcases hp2 : (K2 == 2 && n2 == 0) with _ | _
    all_goals
      have hb' : _ = b := H.out
      rw [show noughtV 3 K n K2 n2 = ((K == 2 && n == 0) || (K2 == 2 && n2 == 0)) from rfl, hp1, hp2] at hb'
      subst hb'
      clear H
      have P1 := Lib.hid hp1
      have P2 := Lib.hid hp2
      clear hp1 hp2
      go_enter Try.func18, Try.ntmps18
      go_wp2_with (first | ((with_reducible refine (is_val K s n 0 _ P1.out _).mono ?_); rintro e w1 ⟨rfl, h⟩; (replace i0 := In3.next i0 h; clear h; have hB := In3.below i0; obtain ⟨a0, a1, a2, b0, b1, b2, c0, c1, c2, f0, f1, f2⟩ := In3.all i0)) | ((with_reducible refine (is_val K2 s2 n2 0 _ P2.out _).mono ?_); rintro e w1 ⟨rfl, h⟩; (replace i0 := In3.next i0 h; clear h; have hB := In3.below i0; obtain ⟨a0, a1, a2, b0, b1, b2, c0, c1, c2, f0, f1, f2⟩ := In3.all i0)) | ((with_reducible refine (whole_val _ _).mono ?_); rintro e w1 ⟨rfl, h⟩; (replace i0 := In3.next i0 h; clear h; have hB := In3.below i0; obtain ⟨a0, a1, a2, b0, b1, b2, c0, c1, c2, f0, f1, f2⟩ := In3.all i0)))
      ((try simp only [Exit.inBlock, Exit.then]); refine bodyPost_ret_by (v := (.tuple #[.agg #[.int .i64 2, .string .empty, .int .i64 0], .bool _])) ((results_cell_tmp rfl _ _ _).trans (by go_simp; try rfl)) rfl ⟨rfl, ?_⟩)
      (repeat (first | with_reducible assumption | exact (Below.refl _ _).alloc (Nat.le_refl _) _ | exact Below.refl _ _ | (refine Below.drew ?_) | (refine Below.setCell ?_ ?_ _; rotate_left; first | exact Nat.le_refl _ | (dsimp only; omega)) | (refine Below.alloc ?_ ?_ _; rotate_left; first | exact Nat.le_refl _ | (simp; omega) | simp)))
  · rcases hp1 : (K == 2 && n == 0) with _ | _
    all_goals rcases hp2 : (K2 == 2 && n2 == 0) with _ | _
    all_goals
      have hb' : _ = b := H.out
      rw [show noughtV 6 K n K2 n2 = ((K == 2 && n == 0) || (K2 == 2 && n2 == 0)) from rfl, hp1, hp2] at hb'
      subst hb'
      clear H
      have P1 := Lib.hid hp1
      have P2 := Lib.hid hp2
      clear hp1 hp2
      go_enter Try.func18, Try.ntmps18
      go_wp2_with (first | ((with_reducible refine (is_val K s n 0 _ P1.out _).mono ?_); rintro e w1 ⟨rfl, h⟩; (replace i0 := In3.next i0 h; clear h; have hB := In3.below i0; obtain ⟨a0, a1, a2, b0, b1, b2, c0, c1, c2, f0, f1, f2⟩ := In3.all i0)) | ((with_reducible refine (is_val K2 s2 n2 0 _ P2.out _).mono ?_); rintro e w1 ⟨rfl, h⟩; (replace i0 := In3.next i0 h; clear h; have hB := In3.below i0; obtain ⟨a0, a1, a2, b0, b1, b2, c0, c1, c2, f0, f1, f2⟩ := In3.all i0)) | ((with_reducible refine (whole_val _ _).mono ?_); rintro e w1 ⟨rfl, h⟩; (replace i0 := In3.next i0 h; clear h; have hB := In3.below i0; obtain ⟨a0, a1, a2, b0, b1, b2, c0, c1, c2, f0, f1, f2⟩ := In3.all i0)))
      ((try simp only [Exit.inBlock, Exit.then]); refine bodyPost_ret_by (v := (.tuple #[.agg #[.int .i64 2, .string .empty, .int .i64 0], .bool _])) ((results_cell_tmp rfl _ _ _).trans (by go_simp; try rfl)) rfl ⟨rfl, ?_⟩)
      (repeat (first | with_reducible assumption | exact (Below.refl _ _).alloc (Nat.le_refl _) _ | exact Below.refl _ _ | (refine Below.drew ?_) | (refine Below.setCell ?_ ?_ _; rotate_left; first | exact Nat.le_refl _ | (dsimp only; omega)) | (refine Below.alloc ?_ ?_ _; rotate_left; first | exact Nat.le_refl _ | (simp; omega) | simp)))
  · rcases hp1 : (K2 == 2 && n2 == 1) with _ | _
    all_goals rcases hp2 : (K2 == 2 && n2 == (-1)) with _ | _
    all_goals
      have hb' : _ = b := H.out
      rw [show noughtV 5 K n K2 n2 = ((K2 == 2 && n2 == 1) || (K2 == 2 && n2 == (-1))) from rfl, hp1, hp2] at hb'
      subst hb'
      clear H
      have P1 := Lib.hid hp1
      have P2 := Lib.hid hp2
      clear hp1 hp2
      go_enter Try.func18, Try.ntmps18
      go_wp2_with (first | ((with_reducible refine (is_val K2 s2 n2 1 _ P1.out _).mono ?_); rintro e w1 ⟨rfl, h⟩; (replace i0 := In3.next i0 h; clear h; have hB := In3.below i0; obtain ⟨a0, a1, a2, b0, b1, b2, c0, c1, c2, f0, f1, f2⟩ := In3.all i0)) | ((with_reducible refine (is_val K2 s2 n2 (-1) _ P2.out _).mono ?_); rintro e w1 ⟨rfl, h⟩; (replace i0 := In3.next i0 h; clear h; have hB := In3.below i0; obtain ⟨a0, a1, a2, b0, b1, b2, c0, c1, c2, f0, f1, f2⟩ := In3.all i0)) | ((with_reducible refine (whole_val _ _).mono ?_); rintro e w1 ⟨rfl, h⟩; (replace i0 := In3.next i0 h; clear h; have hB := In3.below i0; obtain ⟨a0, a1, a2, b0, b1, b2, c0, c1, c2, f0, f1, f2⟩ := In3.all i0)))
      ((try simp only [Exit.inBlock, Exit.then]); refine bodyPost_ret_by (v := (.tuple #[.agg #[.int .i64 2, .string .empty, .int .i64 0], .bool _])) ((results_cell_tmp rfl _ _ _).trans (by go_simp; try rfl)) rfl ⟨rfl, ?_⟩)
      (repeat (first | with_reducible assumption | exact (Below.refl _ _).alloc (Nat.le_refl _) _ | exact Below.refl _ _ | (refine Below.drew ?_) | (refine Below.setCell ?_ ?_ _; rotate_left; first | exact Nat.le_refl _ | (dsimp only; omega)) | (refine Below.alloc ?_ ?_ _; rotate_left; first | exact Nat.le_refl _ | (simp; omega) | simp)))
  · have P1 : Hid ((K == 2 && n == 0) = b) := H
    go_enter Try.func18, Try.ntmps18
    go_wp2_with (first | ((with_reducible refine (is_val K s n 0 _ P1.out _).mono ?_); rintro e w1 ⟨rfl, h⟩; (replace i0 := In3.next i0 h; clear h; have hB := In3.below i0; obtain ⟨a0, a1, a2, b0, b1, b2, c0, c1, c2, f0, f1, f2⟩ := In3.all i0)) | ((with_reducible refine (whole_val _ _).mono ?_); rintro e w1 ⟨rfl, h⟩; (replace i0 := In3.next i0 h; clear h; have hB := In3.below i0; obtain ⟨a0, a1, a2, b0, b1, b2, c0, c1, c2, f0, f1, f2⟩ := In3.all i0)))
    ((try simp only [Exit.inBlock, Exit.then]); refine bodyPost_ret_by (v := (.tuple #[.agg #[.int .i64 2, .string .empty, .int .i64 0], .bool _])) ((results_cell_tmp rfl _ _ _).trans (by go_simp; try rfl)) rfl ⟨rfl, ?_⟩)
    (repeat (first | with_reducible assumption | exact (Below.refl _ _).alloc (Nat.le_refl _) _ | exact Below.refl _ _ | (refine Below.drew ?_) | (refine Below.setCell ?_ ?_ _; rotate_left; first | exact Nat.le_refl _ | (dsimp only; omega)) | (refine Below.alloc ?_ ?_ _; rotate_left; first | exact Nat.le_refl _ | (simp; omega) | simp)))
  · have P1 : Hid ((K == 2 && n == 0) = b) := H
    go_enter Try.func18, Try.ntmps18
    go_wp2_with (first | ((with_reducible refine (is_val K s n 0 _ P1.out _).mono ?_); rintro e w1 ⟨rfl, h⟩; (replace i0 := In3.next i0 h; clear h; have hB := In3.below i0; obtain ⟨a0, a1, a2, b0, b1, b2, c0, c1, c2, f0, f1, f2⟩ := In3.all i0)) | ((with_reducible refine (whole_val _ _).mono ?_); rintro e w1 ⟨rfl, h⟩; (replace i0 := In3.next i0 h; clear h; have hB := In3.below i0; obtain ⟨a0, a1, a2, b0, b1, b2, c0, c1, c2, f0, f1, f2⟩ := In3.all i0)))
    ((try simp only [Exit.inBlock, Exit.then]); refine bodyPost_ret_by (v := (.tuple #[.agg #[.int .i64 2, .string .empty, .int .i64 0], .bool _])) ((results_cell_tmp rfl _ _ _).trans (by go_simp; try rfl)) rfl ⟨rfl, ?_⟩)
    (repeat (first | with_reducible assumption | exact (Below.refl _ _).alloc (Nat.le_refl _) _ | exact Below.refl _ _ | (refine Below.drew ?_) | (refine Below.setCell ?_ ?_ _; rotate_left; first | exact Nat.le_refl _ | (dsimp only; omega)) | (refine Below.alloc ?_ ?_ _; rotate_left; first | exact Nat.le_refl _ | (simp; omega) | simp)))
  · have hb' : _ = b := H.out
    rw [show noughtV op K n K2 n2 = false from by unfold noughtV; rw [if_neg (by omega), if_neg (by omega), if_neg (by omega)]] at hb'
    subst hb'
    clear H
    have e3 : (op == 3) = false := by rw [beq_eq_false_iff_ne]; exact n3
    have e6 : (op == 6) = false := by rw [beq_eq_false_iff_ne]; exact n6
    have e5 : (op == 5) = false := by rw [beq_eq_false_iff_ne]; exact n5
    have e9 : (op == 9) = false := by rw [beq_eq_false_iff_ne]; exact n9
    have e10 : (op == 10) = false := by rw [beq_eq_false_iff_ne]; exact n10
    clear n3 n6 n5 n9 n10
    go_enter Try.func18, Try.ntmps18
    go_wp2_with ((with_reducible refine (whole_val _ _).mono ?_); rintro e w1 ⟨rfl, h⟩; (replace i0 := In3.next i0 h; clear h; have hB := In3.below i0; obtain ⟨a0, a1, a2, b0, b1, b2, c0, c1, c2, f0, f1, f2⟩ := In3.all i0))
    ((try simp only [Exit.inBlock, Exit.then]); refine bodyPost_ret_by (v := (.tuple #[.agg #[.int .i64 2, .string .empty, .int .i64 0], .bool _])) ((results_cell_tmp rfl _ _ _).trans (by go_simp; try rfl)) rfl ⟨rfl, ?_⟩)
    (repeat (first | with_reducible assumption | exact (Below.refl _ _).alloc (Nat.le_refl _) _ | exact Below.refl _ _ | (refine Below.drew ?_) | (refine Below.setCell ?_ ?_ _; rotate_left; first | exact Nat.le_refl _ | (dsimp only; omega)) | (refine Below.alloc ?_ ?_ _; rotate_left; first | exact Nat.le_refl _ | (simp; omega) | simp)))

end Go.Proofs.Ytiheecgabfcigaa
