/- The walks of package fold: one, nulls. -/
import Derived.Test.YtiheecgabfcigaaFoldB
namespace Go.Proofs.Ytiheecgabfcigaa
open Go.RowKit Num Flo

def sameV (K : Int) (s : ByteArray) (n K2 : Int) (s2 : ByteArray) (n2 : Int) : Bool := K == K2 && s.toList == s2.toList && n == n2
/-- rule 4 -/
def oneV (op K : Int) (s : ByteArray) (n K2 : Int) (s2 : ByteArray) (n2 : Int) : Int × ByteArray × Int × Bool :=
  if (K == 1 && sameV K s n K2 s2 n2) = true then
    if op = 2 ∨ op = 8 ∨ op = 12 ∨ op = 13 ∨ op = 20 then (2, .empty, 0, true)
    else if op = 6 ∨ op = 7 then (K, s, n, true)
    else if op = 11 ∨ op = 14 ∨ op = 28 then (2, .empty, 1, true)
    else (0, .empty, 0, false)
  else (0, .empty, 0, false)

set_option maxHeartbeats 1000000 in
theorem one_val (op K : Int) (s : ByteArray) (n K2 : Int) (s2 : ByteArray) (n2 : Int) (k m : Int) (t : ByteArray) (b : Bool) (h : oneV op K s n K2 s2 n2 = (k, t, m, b)) (w : World) :
    Calls Try.prog 20 #[.int .i64 op, .agg #[.int .i64 K, .string s, .int .i64 n], .agg #[.int .i64 K2, .string s2, .int .i64 n2]] w fun e w' => e = .returned (.tuple #[.agg #[.int .i64 k, .string t, .int .i64 m], .bool b]) ∧ Below w.heap.size w w' := by
  have i0 : In3 w _ K s n K2 s2 n2 := In3.refl
  have hB := In3.below i0
  unfold oneV at h
  have hE : ∀ w, (Op.equalIn 10000 30 (.agg #[.int .i64 K, .string s, .int .i64 n]) (.agg #[.int .i64 K2, .string s2, .int .i64 n2])).run Try.prog w = .ok (sameV K s n K2 s2 n2) w := fun w => eqArg ..
  generalize sameV K s n K2 s2 n2 = v at h hE
  by_cases hK : K = 1
  · have e1 : (K != 1) = false := by rw [bne_eq_false_iff_eq]; exact hK
    rw [show (K == 1) = true from by rw [beq_iff_eq]; exact hK] at h
    clear hK
    cases v
    · rw [if_neg (by decide)] at h
      simp only [Prod.mk.injEq] at h
      obtain ⟨rfl, rfl, rfl, rfl⟩ := h
      go_enter Try.func20, Try.ntmps20
      go_wp2
      ((try simp only [Exit.inBlock, Exit.then]); refine bodyPost_ret_by (v := (.tuple #[.agg #[.int .i64 0, .string .empty, .int .i64 0], .bool false])) ((results_cell_tmp rfl _ _ _).trans (by go_simp; try rfl)) rfl ⟨rfl, ?_⟩)
      (repeat (first | with_reducible assumption | exact (Below.refl _ _).alloc (Nat.le_refl _) _ | exact Below.refl _ _ | (refine Below.drew ?_) | (refine Below.setCell ?_ ?_ _; rotate_left; first | exact Nat.le_refl _ | (dsimp only; omega)) | (refine Below.alloc ?_ ?_ _; rotate_left; first | exact Nat.le_refl _ | (simp; omega) | simp)))
    · rw [if_pos (by decide)] at h
      have hop : op = 2 ∨ op = 8 ∨ op = 12 ∨ op = 13 ∨ op = 20 ∨ op = 6 ∨ op = 7 ∨ op = 11 ∨ op = 14 ∨ op = 28 ∨ (op ≠ 2 ∧ op ≠ 8 ∧ op ≠ 12 ∧ op ≠ 13 ∧ op ≠ 20 ∧ op ≠ 6 ∧ op ≠ 7 ∧ op ≠ 11 ∧ op ≠ 14 ∧ op ≠ 28) := by omega
      rcases hop with rfl | rfl | rfl | rfl | rfl | rfl | rfl | rfl | rfl | rfl | ⟨n2', n8, n12, n13, n20, n6, n7, n11, n14, n28⟩
      · have hh : ((2 : Int), ByteArray.empty, (0 : Int), true) = (k, t, m, b) := h
        simp only [Prod.mk.injEq] at hh
        obtain ⟨rfl, rfl, rfl, rfl⟩ := hh
        clear h
        go_enter Try.func20, Try.ntmps20
        go_wp2_with ((with_reducible refine (whole_val _ _).mono ?_); rintro e w1 ⟨rfl, h⟩; (replace i0 := In3.next i0 h; clear h; have hB := In3.below i0; obtain ⟨a0, a1, a2, b0, b1, b2, c0, c1, c2, f0, f1, f2⟩ := In3.all i0))
        ((try simp only [Exit.inBlock, Exit.then]); refine bodyPost_ret_by (v := (.tuple #[.agg #[.int .i64 2, .string .empty, .int .i64 0], .bool true])) ((results_cell_tmp rfl _ _ _).trans (by go_simp; try rfl)) rfl ⟨rfl, ?_⟩)
        (repeat (first | with_reducible assumption | exact (Below.refl _ _).alloc (Nat.le_refl _) _ | exact Below.refl _ _ | (refine Below.drew ?_) | (refine Below.setCell ?_ ?_ _; rotate_left; first | exact Nat.le_refl _ | (dsimp only; omega)) | (refine Below.alloc ?_ ?_ _; rotate_left; first | exact Nat.le_refl _ | (simp; omega) | simp)))
      · have hh : ((2 : Int), ByteArray.empty, (0 : Int), true) = (k, t, m, b) := h
        simp only [Prod.mk.injEq] at hh
        obtain ⟨rfl, rfl, rfl, rfl⟩ := hh
        clear h
        go_enter Try.func20, Try.ntmps20
        go_wp2_with ((with_reducible refine (whole_val _ _).mono ?_); rintro e w1 ⟨rfl, h⟩; (replace i0 := In3.next i0 h; clear h; have hB := In3.below i0; obtain ⟨a0, a1, a2, b0, b1, b2, c0, c1, c2, f0, f1, f2⟩ := In3.all i0))
        ((try simp only [Exit.inBlock, Exit.then]); refine bodyPost_ret_by (v := (.tuple #[.agg #[.int .i64 2, .string .empty, .int .i64 0], .bool true])) ((results_cell_tmp rfl _ _ _).trans (by go_simp; try rfl)) rfl ⟨rfl, ?_⟩)
        (repeat (first | with_reducible assumption | exact (Below.refl _ _).alloc (Nat.le_refl _) _ | exact Below.refl _ _ | (refine Below.drew ?_) | (refine Below.setCell ?_ ?_ _; rotate_left; first | exact Nat.le_refl _ | (dsimp only; omega)) | (refine Below.alloc ?_ ?_ _; rotate_left; first | exact Nat.le_refl _ | (simp; omega) | simp)))
      · have hh : ((2 : Int), ByteArray.empty, (0 : Int), true) = (k, t, m, b) := h
        simp only [Prod.mk.injEq] at hh
        obtain ⟨rfl, rfl, rfl, rfl⟩ := hh
        clear h
        go_enter Try.func20, Try.ntmps20
        go_wp2_with ((with_reducible refine (whole_val _ _).mono ?_); rintro e w1 ⟨rfl, h⟩; (replace i0 := In3.next i0 h; clear h; have hB := In3.below i0; obtain ⟨a0, a1, a2, b0, b1, b2, c0, c1, c2, f0, f1, f2⟩ := In3.all i0))
        ((try simp only [Exit.inBlock, Exit.then]); refine bodyPost_ret_by (v := (.tuple #[.agg #[.int .i64 2, .string .empty, .int .i64 0], .bool true])) ((results_cell_tmp rfl _ _ _).trans (by go_simp; try rfl)) rfl ⟨rfl, ?_⟩)
        (repeat (first | with_reducible assumption | exact (Below.refl _ _).alloc (Nat.le_refl _) _ | exact Below.refl _ _ | (refine Below.drew ?_) | (refine Below.setCell ?_ ?_ _; rotate_left; first | exact Nat.le_refl _ | (dsimp only; omega)) | (refine Below.alloc ?_ ?_ _; rotate_left; first | exact Nat.le_refl _ | (simp; omega) | simp)))
      · have hh : ((2 : Int), ByteArray.empty, (0 : Int), true) = (k, t, m, b) := h
        simp only [Prod.mk.injEq] at hh
        obtain ⟨rfl, rfl, rfl, rfl⟩ := hh
        clear h
        go_enter Try.func20, Try.ntmps20
        go_wp2_with ((with_reducible refine (whole_val _ _).mono ?_); rintro e w1 ⟨rfl, h⟩; (replace i0 := In3.next i0 h; clear h; have hB := In3.below i0; obtain ⟨a0, a1, a2, b0, b1, b2, c0, c1, c2, f0, f1, f2⟩ := In3.all i0))
        ((try simp only [Exit.inBlock, Exit.then]); refine bodyPost_ret_by (v := (.tuple #[.agg #[.int .i64 2, .string .empty, .int .i64 0], .bool true])) ((results_cell_tmp rfl _ _ _).trans (by go_simp; try rfl)) rfl ⟨rfl, ?_⟩)
        (repeat (first | with_reducible assumption | exact (Below.refl _ _).alloc (Nat.le_refl _) _ | exact Below.refl _ _ | (refine Below.drew ?_) | (refine Below.setCell ?_ ?_ _; rotate_left; first | exact Nat.le_refl _ | (dsimp only; omega)) | (refine Below.alloc ?_ ?_ _; rotate_left; first | exact Nat.le_refl _ | (simp; omega) | simp)))
      · have hh : ((2 : Int), ByteArray.empty, (0 : Int), true) = (k, t, m, b) := h
        simp only [Prod.mk.injEq] at hh
        obtain ⟨rfl, rfl, rfl, rfl⟩ := hh
        clear h
        go_enter Try.func20, Try.ntmps20
        go_wp2_with ((with_reducible refine (whole_val _ _).mono ?_); rintro e w1 ⟨rfl, h⟩; (replace i0 := In3.next i0 h; clear h; have hB := In3.below i0; obtain ⟨a0, a1, a2, b0, b1, b2, c0, c1, c2, f0, f1, f2⟩ := In3.all i0))
        ((try simp only [Exit.inBlock, Exit.then]); refine bodyPost_ret_by (v := (.tuple #[.agg #[.int .i64 2, .string .empty, .int .i64 0], .bool true])) ((results_cell_tmp rfl _ _ _).trans (by go_simp; try rfl)) rfl ⟨rfl, ?_⟩)
        (repeat (first | with_reducible assumption | exact (Below.refl _ _).alloc (Nat.le_refl _) _ | exact Below.refl _ _ | (refine Below.drew ?_) | (refine Below.setCell ?_ ?_ _; rotate_left; first | exact Nat.le_refl _ | (dsimp only; omega)) | (refine Below.alloc ?_ ?_ _; rotate_left; first | exact Nat.le_refl _ | (simp; omega) | simp)))
      · have hh : (K, s, n, true) = (k, t, m, b) := h
        simp only [Prod.mk.injEq] at hh
        obtain ⟨rfl, rfl, rfl, rfl⟩ := hh
        clear h
        go_enter Try.func20, Try.ntmps20
        go_wp2
        ((try simp only [Exit.inBlock, Exit.then]); refine bodyPost_ret_by (v := (.tuple #[.agg #[.int .i64 K, .string s, .int .i64 n], .bool true])) ((results_cell_tmp rfl _ _ _).trans (by go_simp; try rfl)) rfl ⟨rfl, ?_⟩)
        exact (((Below.refl w.heap.size w).alloc (Nat.le_refl _) _).alloc (Below.size ((Below.refl w.heap.size w).alloc (Nat.le_refl _) _)) _).alloc (Below.size (((Below.refl w.heap.size w).alloc (Nat.le_refl _) _).alloc (Below.size ((Below.refl w.heap.size w).alloc (Nat.le_refl _) _)) _)) _
      · have hh : (K, s, n, true) = (k, t, m, b) := h
        simp only [Prod.mk.injEq] at hh
        obtain ⟨rfl, rfl, rfl, rfl⟩ := hh
        clear h
        go_enter Try.func20, Try.ntmps20
        go_wp2
        ((try simp only [Exit.inBlock, Exit.then]); refine bodyPost_ret_by (v := (.tuple #[.agg #[.int .i64 K, .string s, .int .i64 n], .bool true])) ((results_cell_tmp rfl _ _ _).trans (by go_simp; try rfl)) rfl ⟨rfl, ?_⟩)
        exact (((Below.refl w.heap.size w).alloc (Nat.le_refl _) _).alloc (Below.size ((Below.refl w.heap.size w).alloc (Nat.le_refl _) _)) _).alloc (Below.size (((Below.refl w.heap.size w).alloc (Nat.le_refl _) _).alloc (Below.size ((Below.refl w.heap.size w).alloc (Nat.le_refl _) _)) _)) _
      · have hh : ((2 : Int), ByteArray.empty, (1 : Int), true) = (k, t, m, b) := h
        simp only [Prod.mk.injEq] at hh
        obtain ⟨rfl, rfl, rfl, rfl⟩ := hh
        clear h
        go_enter Try.func20, Try.ntmps20
        go_wp2_with ((with_reducible refine (whole_val _ _).mono ?_); rintro e w1 ⟨rfl, h⟩; (replace i0 := In3.next i0 h; clear h; have hB := In3.below i0; obtain ⟨a0, a1, a2, b0, b1, b2, c0, c1, c2, f0, f1, f2⟩ := In3.all i0))
        ((try simp only [Exit.inBlock, Exit.then]); refine bodyPost_ret_by (v := (.tuple #[.agg #[.int .i64 2, .string .empty, .int .i64 1], .bool true])) ((results_cell_tmp rfl _ _ _).trans (by go_simp; try rfl)) rfl ⟨rfl, ?_⟩)
        (repeat (first | with_reducible assumption | exact (Below.refl _ _).alloc (Nat.le_refl _) _ | exact Below.refl _ _ | (refine Below.drew ?_) | (refine Below.setCell ?_ ?_ _; rotate_left; first | exact Nat.le_refl _ | (dsimp only; omega)) | (refine Below.alloc ?_ ?_ _; rotate_left; first | exact Nat.le_refl _ | (simp; omega) | simp)))
      · have hh : ((2 : Int), ByteArray.empty, (1 : Int), true) = (k, t, m, b) := h
        simp only [Prod.mk.injEq] at hh
        obtain ⟨rfl, rfl, rfl, rfl⟩ := hh
        clear h
        go_enter Try.func20, Try.ntmps20
        go_wp2_with ((with_reducible refine (whole_val _ _).mono ?_); rintro e w1 ⟨rfl, h⟩; (replace i0 := In3.next i0 h; clear h; have hB := In3.below i0; obtain ⟨a0, a1, a2, b0, b1, b2, c0, c1, c2, f0, f1, f2⟩ := In3.all i0))
        ((try simp only [Exit.inBlock, Exit.then]); refine bodyPost_ret_by (v := (.tuple #[.agg #[.int .i64 2, .string .empty, .int .i64 1], .bool true])) ((results_cell_tmp rfl _ _ _).trans (by go_simp; try rfl)) rfl ⟨rfl, ?_⟩)
        (repeat (first | with_reducible assumption | exact (Below.refl _ _).alloc (Nat.le_refl _) _ | exact Below.refl _ _ | (refine Below.drew ?_) | (refine Below.setCell ?_ ?_ _; rotate_left; first | exact Nat.le_refl _ | (dsimp only; omega)) | (refine Below.alloc ?_ ?_ _; rotate_left; first | exact Nat.le_refl _ | (simp; omega) | simp)))
      · have hh : ((2 : Int), ByteArray.empty, (1 : Int), true) = (k, t, m, b) := h
        simp only [Prod.mk.injEq] at hh
        obtain ⟨rfl, rfl, rfl, rfl⟩ := hh
        clear h
        go_enter Try.func20, Try.ntmps20
        go_wp2_with ((with_reducible refine (whole_val _ _).mono ?_); rintro e w1 ⟨rfl, h⟩; (replace i0 := In3.next i0 h; clear h; have hB := In3.below i0; obtain ⟨a0, a1, a2, b0, b1, b2, c0, c1, c2, f0, f1, f2⟩ := In3.all i0))
        ((try simp only [Exit.inBlock, Exit.then]); refine bodyPost_ret_by (v := (.tuple #[.agg #[.int .i64 2, .string .empty, .int .i64 1], .bool true])) ((results_cell_tmp rfl _ _ _).trans (by go_simp; try rfl)) rfl ⟨rfl, ?_⟩)
        (repeat (first | with_reducible assumption | exact (Below.refl _ _).alloc (Nat.le_refl _) _ | exact Below.refl _ _ | (refine Below.drew ?_) | (refine Below.setCell ?_ ?_ _; rotate_left; first | exact Nat.le_refl _ | (dsimp only; omega)) | (refine Below.alloc ?_ ?_ _; rotate_left; first | exact Nat.le_refl _ | (simp; omega) | simp)))
      · rw [if_neg (by omega), if_neg (by omega), if_neg (by omega)] at h
        simp only [Prod.mk.injEq] at h
        obtain ⟨rfl, rfl, rfl, rfl⟩ := h
        have q2 : (op == 2) = false := by rw [beq_eq_false_iff_ne]; exact n2'
        have q8 : (op == 8) = false := by rw [beq_eq_false_iff_ne]; exact n8
        have q12 : (op == 12) = false := by rw [beq_eq_false_iff_ne]; exact n12
        have q13 : (op == 13) = false := by rw [beq_eq_false_iff_ne]; exact n13
        have q20 : (op == 20) = false := by rw [beq_eq_false_iff_ne]; exact n20
        have q6 : (op == 6) = false := by rw [beq_eq_false_iff_ne]; exact n6
        have q7 : (op == 7) = false := by rw [beq_eq_false_iff_ne]; exact n7
        have q11 : (op == 11) = false := by rw [beq_eq_false_iff_ne]; exact n11
        have q14 : (op == 14) = false := by rw [beq_eq_false_iff_ne]; exact n14
        have q28 : (op == 28) = false := by rw [beq_eq_false_iff_ne]; exact n28
        clear n2' n8 n12 n13 n20 n6 n7 n11 n14 n28
        go_enter Try.func20, Try.ntmps20
        go_wp2
        ((try simp only [Exit.inBlock, Exit.then]); refine bodyPost_ret_by (v := (.tuple #[.agg #[.int .i64 0, .string .empty, .int .i64 0], .bool false])) ((results_cell_tmp rfl _ _ _).trans (by go_simp; try rfl)) rfl ⟨rfl, ?_⟩)
        (repeat (first | with_reducible assumption | exact (Below.refl _ _).alloc (Nat.le_refl _) _ | exact Below.refl _ _ | (refine Below.drew ?_) | (refine Below.setCell ?_ ?_ _; rotate_left; first | exact Nat.le_refl _ | (dsimp only; omega)) | (refine Below.alloc ?_ ?_ _; rotate_left; first | exact Nat.le_refl _ | (simp; omega) | simp)))
  · have e1 : (K != 1) = true := by rw [bne_iff_ne]; exact hK
    rw [if_neg (by simp [hK])] at h
    simp only [Prod.mk.injEq] at h
    obtain ⟨rfl, rfl, rfl, rfl⟩ := h
    clear hK
    go_enter Try.func20, Try.ntmps20
    go_wp2
    ((try simp only [Exit.inBlock, Exit.then]); refine bodyPost_ret_by (v := (.tuple #[.agg #[.int .i64 0, .string .empty, .int .i64 0], .bool false])) ((results_cell_tmp rfl _ _ _).trans (by go_simp; try rfl)) rfl ⟨rfl, ?_⟩)
    (repeat (first | with_reducible assumption | exact (Below.refl _ _).alloc (Nat.le_refl _) _ | exact Below.refl _ _ | (refine Below.drew ?_) | (refine Below.setCell ?_ ?_ _; rotate_left; first | exact Nat.le_refl _ | (dsimp only; omega)) | (refine Below.alloc ?_ ?_ _; rotate_left; first | exact Nat.le_refl _ | (simp; omega) | simp)))

end Go.Proofs.Ytiheecgabfcigaa
