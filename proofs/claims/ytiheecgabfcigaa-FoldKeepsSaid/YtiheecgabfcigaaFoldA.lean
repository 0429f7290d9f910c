/- The walks of package fold: the rules. -/
import Derived.Test.YtiheecgabfcigaaFold
namespace Go.Proofs.Ytiheecgabfcigaa
open Go.RowKit Num Flo

def isN (K n m : Int) : Bool := K == 2 && n == m
def isF (K n m : Int) : Bool := K == 3 && n == m
/-- rule 1: an argument's kind, its number, and whether it applies -/
def reckonedV (op K n K2 n2 : Int) : Int × Int × Bool :=
  if (decide (1 ≤ op) && decide (op ≤ 14) && K == 2 && K2 == 2) = true then (2, (doN op n n2).1, (doN op n n2).2)
  else if (decide (15 ≤ op) && decide (op ≤ 21) && K == 3 && K2 == 3) = true then (if op ≤ 18 then 3 else 2, (doV op n n2).1, true)
  else (0, 0, false)

theorem fnis_any (op : Int) (b : Bool) (h : (decide (1 ≤ op) && decide (op ≤ 14)) = b) (w : World) :
    Calls Try.prog 35 #[.int .i64 op] w fun e w' => e = .returned (.bool b) ∧ w = w' := by
  have H := Lib.hid h
  clear h
  by_cases h1 : 1 ≤ op
  all_goals
    go_enter Try.func35, Try.ntmps35
    go_wp2
    go_ret
    refine ⟨ret_bool ?_, rfl⟩
    rw [← H.out]
    simp
    try omega
theorem fdo_val (op a b n : Int) (ok : Bool) (h : doV op a b = (n, ok)) (w : World) :
    Calls Try.prog 38 #[.int .i64 op, .int .i64 a, .int .i64 b] w fun e w' => e = .returned (.tuple #[.int .i64 n, .bool ok]) ∧ Below w.heap.size w w' := by
  have := do_any op a b w
  rw [h] at this
  exact this
theorem fnum_val (op a b n : Int) (ok : Bool) (h : doN op a b = (n, ok)) (w : World) :
    Calls Try.prog 36 #[.int .i64 op, .int .i64 a, .int .i64 b] w fun e w' => e = .returned (.tuple #[.int .i64 n, .bool ok]) ∧ w = w' := by
  have := ndo_any op a b w
  rw [h] at this
  exact this

theorem fis_any (op : Int) (b : Bool) (h : (decide (15 ≤ op) && decide (op ≤ 21)) = b) (w : World) :
    Calls Try.prog 37 #[.int .i64 op] w fun e w' => e = .returned (.bool b) ∧ w = w' := by
  have := is_any op w
  rw [h] at this
  exact this

set_option maxHeartbeats 1000000 in
theorem reckoned_none (op K : Int) (s : ByteArray) (n K2 : Int) (s2 : ByteArray) (n2 : Int) (g1 g2 k1 k2 k3 k4 : Bool) (G1 : Hid ((decide (1 ≤ op) && decide (op ≤ 14)) = g1)) (G2 : Hid ((decide (15 ≤ op) && decide (op ≤ 21)) = g2)) (e1 : (K == 2) = k1) (e2 : (K2 == 2) = k2) (e3 : (K == 3) = k3) (e4 : (K2 == 3) = k4) (h1 : (g1 && k1 && k2) = false) (h2 : (g2 && k3 && k4) = false) (w : World) :
    Calls Try.prog 17 #[.int .i64 op, .agg #[.int .i64 K, .string s, .int .i64 n], .agg #[.int .i64 K2, .string s2, .int .i64 n2]] w fun e w' => e = .returned (.tuple #[.agg #[.int .i64 0, .string .empty, .int .i64 0], .bool false]) ∧ Below w.heap.size w w' := by
  have i0 : In3 w _ K s n K2 s2 n2 := In3.refl
  have hB := In3.below i0
  have Hn : Hid (doN op n n2 = ((doN op n n2).1, (doN op n n2).2)) := rfl
  have Hv : Hid (doV op n n2 = ((doV op n n2).1, (doV op n n2).2)) := rfl
  cases g1 <;> cases k1 <;> cases k2 <;> first | (exact absurd h1 (by decide)) | skip
  all_goals cases g2 <;> cases k3 <;> cases k4 <;> first | (exact absurd h2 (by decide)) | skip
  all_goals clear h1 h2
  all_goals
    go_enter Try.func17, Try.ntmps17
    go_wp2_with (first | ((with_reducible refine (fnis_any _ _ G1.out _).mono ?_); rintro e w' ⟨rfl, rfl⟩) | ((with_reducible refine (fis_any _ _ G2.out _).mono ?_); rintro e w' ⟨rfl, rfl⟩) | ((with_reducible refine (fnum_val _ _ _ _ _ Hn.out _).mono ?_); rintro e w' ⟨rfl, rfl⟩) | ((with_reducible refine (fdo_val _ _ _ _ _ Hv.out _).mono ?_); rintro e w1 ⟨rfl, h⟩; (replace i0 := In3.next i0 h; clear h; have hB := In3.below i0; obtain ⟨a0, a1, a2, b0, b1, b2, c0, c1, c2, f0, f1, f2⟩ := In3.all i0)) | ((with_reducible refine (point_val _ _).mono ?_); rintro e w1 ⟨rfl, h⟩; (replace i0 := In3.next i0 h; clear h; have hB := In3.below i0; obtain ⟨a0, a1, a2, b0, b1, b2, c0, c1, c2, f0, f1, f2⟩ := In3.all i0)) | ((with_reducible refine (whole_val _ _).mono ?_); rintro e w1 ⟨rfl, h⟩; (replace i0 := In3.next i0 h; clear h; have hB := In3.below i0; obtain ⟨a0, a1, a2, b0, b1, b2, c0, c1, c2, f0, f1, f2⟩ := In3.all i0)))
    ((try simp only [Exit.inBlock, Exit.then]); refine bodyPost_ret_by (v := (.tuple #[.agg #[.int .i64 0, .string .empty, .int .i64 0], .bool false])) ((results_cell_tmp rfl _ _ _).trans (by go_simp; try rfl)) rfl ⟨rfl, ?_⟩)
    (repeat (first | with_reducible assumption | exact (Below.refl _ _).alloc (Nat.le_refl _) _ | exact Below.refl _ _ | (refine Below.drew ?_) | (refine Below.setCell ?_ ?_ _; rotate_left; first | exact Nat.le_refl _ | (dsimp only; omega)) | (refine Below.alloc ?_ ?_ _; rotate_left; first | exact Nat.le_refl _ | (simp; omega) | simp)))

set_option maxHeartbeats 1000000 in
theorem reckoned_num (op K : Int) (s : ByteArray) (n K2 : Int) (s2 : ByteArray) (n2 : Int) (v1 : Int) (o1 : Bool) (G1 : Hid ((decide (1 ≤ op) && decide (op ≤ 14)) = true)) (e1 : (K == 2) = true) (e2 : (K2 == 2) = true) (Hn : Hid (doN op n n2 = (v1, o1))) (w : World) :
    Calls Try.prog 17 #[.int .i64 op, .agg #[.int .i64 K, .string s, .int .i64 n], .agg #[.int .i64 K2, .string s2, .int .i64 n2]] w fun e w' => e = .returned (.tuple #[.agg #[.int .i64 2, .string .empty, .int .i64 v1], .bool o1]) ∧ Below w.heap.size w w' := by
  have i0 : In3 w _ K s n K2 s2 n2 := In3.refl
  have hB := In3.below i0
  have G2 : Hid (True = True) := rfl
  have Hv : Hid (doV op n n2 = ((doV op n n2).1, (doV op n n2).2)) := rfl
  go_enter Try.func17, Try.ntmps17
  go_wp2_with (first | ((with_reducible refine (fnis_any _ _ G1.out _).mono ?_); rintro e w' ⟨rfl, rfl⟩) | ((with_reducible refine (fis_any _ _ G2.out _).mono ?_); rintro e w' ⟨rfl, rfl⟩) | ((with_reducible refine (fnum_val _ _ _ _ _ Hn.out _).mono ?_); rintro e w' ⟨rfl, rfl⟩) | ((with_reducible refine (fdo_val _ _ _ _ _ Hv.out _).mono ?_); rintro e w1 ⟨rfl, h⟩; (replace i0 := In3.next i0 h; clear h; have hB := In3.below i0; obtain ⟨a0, a1, a2, b0, b1, b2, c0, c1, c2, f0, f1, f2⟩ := In3.all i0)) | ((with_reducible refine (point_val _ _).mono ?_); rintro e w1 ⟨rfl, h⟩; (replace i0 := In3.next i0 h; clear h; have hB := In3.below i0; obtain ⟨a0, a1, a2, b0, b1, b2, c0, c1, c2, f0, f1, f2⟩ := In3.all i0)) | ((with_reducible refine (whole_val _ _).mono ?_); rintro e w1 ⟨rfl, h⟩; (replace i0 := In3.next i0 h; clear h; have hB := In3.below i0; obtain ⟨a0, a1, a2, b0, b1, b2, c0, c1, c2, f0, f1, f2⟩ := In3.all i0)))
  ((try simp only [Exit.inBlock, Exit.then]); refine bodyPost_ret_by (v := (.tuple #[.agg #[.int .i64 2, .string .empty, .int .i64 v1], .bool o1])) ((results_cell_tmp rfl _ _ _).trans (by go_simp; try rfl)) rfl ⟨rfl, ?_⟩)
  (repeat (first | with_reducible assumption | exact (Below.refl _ _).alloc (Nat.le_refl _) _ | exact Below.refl _ _ | (refine Below.drew ?_) | (refine Below.setCell ?_ ?_ _; rotate_left; first | exact Nat.le_refl _ | (dsimp only; omega)) | (refine Below.alloc ?_ ?_ _; rotate_left; first | exact Nat.le_refl _ | (simp; omega) | simp)))

set_option maxHeartbeats 1000000 in
theorem reckoned_flo_lo (op K : Int) (s : ByteArray) (n K2 : Int) (s2 : ByteArray) (n2 : Int) (v1 : Int) (o1 : Bool) (G1 : Hid ((decide (1 ≤ op) && decide (op ≤ 14)) = false)) (G2 : Hid ((decide (15 ≤ op) && decide (op ≤ 21)) = true)) (_ : (K == 2) = false) (e3 : (K == 3) = true) (e4 : (K2 == 3) = true) (Hv : Hid (doV op n n2 = (v1, o1))) (h18 : op ≤ 18) (w : World) :
    Calls Try.prog 17 #[.int .i64 op, .agg #[.int .i64 K, .string s, .int .i64 n], .agg #[.int .i64 K2, .string s2, .int .i64 n2]] w fun e w' => e = .returned (.tuple #[.agg #[.int .i64 3, .string .empty, .int .i64 v1], .bool true]) ∧ Below w.heap.size w w' := by
  have i0 : In3 w _ K s n K2 s2 n2 := In3.refl
  have hB := In3.below i0
  have Hn : Hid (doN op n n2 = ((doN op n n2).1, (doN op n n2).2)) := rfl
  go_enter Try.func17, Try.ntmps17
  go_wp2_with (first | ((with_reducible refine (fnis_any _ _ G1.out _).mono ?_); rintro e w' ⟨rfl, rfl⟩) | ((with_reducible refine (fis_any _ _ G2.out _).mono ?_); rintro e w' ⟨rfl, rfl⟩) | ((with_reducible refine (fnum_val _ _ _ _ _ Hn.out _).mono ?_); rintro e w' ⟨rfl, rfl⟩) | ((with_reducible refine (fdo_val _ _ _ _ _ Hv.out _).mono ?_); rintro e w1 ⟨rfl, h⟩; (replace i0 := In3.next i0 h; clear h; have hB := In3.below i0; obtain ⟨a0, a1, a2, b0, b1, b2, c0, c1, c2, f0, f1, f2⟩ := In3.all i0)) | ((with_reducible refine (point_val _ _).mono ?_); rintro e w1 ⟨rfl, h⟩; (replace i0 := In3.next i0 h; clear h; have hB := In3.below i0; obtain ⟨a0, a1, a2, b0, b1, b2, c0, c1, c2, f0, f1, f2⟩ := In3.all i0)) | ((with_reducible refine (whole_val _ _).mono ?_); rintro e w1 ⟨rfl, h⟩; (replace i0 := In3.next i0 h; clear h; have hB := In3.below i0; obtain ⟨a0, a1, a2, b0, b1, b2, c0, c1, c2, f0, f1, f2⟩ := In3.all i0)))
  ((try simp only [Exit.inBlock, Exit.then]); refine bodyPost_ret_by (v := (.tuple #[.agg #[.int .i64 3, .string .empty, .int .i64 v1], .bool true])) ((results_cell_tmp rfl _ _ _).trans (by go_simp; try rfl)) rfl ⟨rfl, ?_⟩)
  (repeat (first | with_reducible assumption | exact (Below.refl _ _).alloc (Nat.le_refl _) _ | exact Below.refl _ _ | (refine Below.drew ?_) | (refine Below.setCell ?_ ?_ _; rotate_left; first | exact Nat.le_refl _ | (dsimp only; omega)) | (refine Below.alloc ?_ ?_ _; rotate_left; first | exact Nat.le_refl _ | (simp; omega) | simp)))

set_option maxHeartbeats 1000000 in
theorem reckoned_flo_hi (op K : Int) (s : ByteArray) (n K2 : Int) (s2 : ByteArray) (n2 : Int) (v1 : Int) (o1 : Bool) (G1 : Hid ((decide (1 ≤ op) && decide (op ≤ 14)) = false)) (G2 : Hid ((decide (15 ≤ op) && decide (op ≤ 21)) = true)) (_ : (K == 2) = false) (e3 : (K == 3) = true) (e4 : (K2 == 3) = true) (Hv : Hid (doV op n n2 = (v1, o1))) (h18 : 18 < op) (w : World) :
    Calls Try.prog 17 #[.int .i64 op, .agg #[.int .i64 K, .string s, .int .i64 n], .agg #[.int .i64 K2, .string s2, .int .i64 n2]] w fun e w' => e = .returned (.tuple #[.agg #[.int .i64 2, .string .empty, .int .i64 v1], .bool true]) ∧ Below w.heap.size w w' := by
  have i0 : In3 w _ K s n K2 s2 n2 := In3.refl
  have hB := In3.below i0
  have Hn : Hid (doN op n n2 = ((doN op n n2).1, (doN op n n2).2)) := rfl
  go_enter Try.func17, Try.ntmps17
  go_wp2_with (first | ((with_reducible refine (fnis_any _ _ G1.out _).mono ?_); rintro e w' ⟨rfl, rfl⟩) | ((with_reducible refine (fis_any _ _ G2.out _).mono ?_); rintro e w' ⟨rfl, rfl⟩) | ((with_reducible refine (fnum_val _ _ _ _ _ Hn.out _).mono ?_); rintro e w' ⟨rfl, rfl⟩) | ((with_reducible refine (fdo_val _ _ _ _ _ Hv.out _).mono ?_); rintro e w1 ⟨rfl, h⟩; (replace i0 := In3.next i0 h; clear h; have hB := In3.below i0; obtain ⟨a0, a1, a2, b0, b1, b2, c0, c1, c2, f0, f1, f2⟩ := In3.all i0)) | ((with_reducible refine (point_val _ _).mono ?_); rintro e w1 ⟨rfl, h⟩; (replace i0 := In3.next i0 h; clear h; have hB := In3.below i0; obtain ⟨a0, a1, a2, b0, b1, b2, c0, c1, c2, f0, f1, f2⟩ := In3.all i0)) | ((with_reducible refine (whole_val _ _).mono ?_); rintro e w1 ⟨rfl, h⟩; (replace i0 := In3.next i0 h; clear h; have hB := In3.below i0; obtain ⟨a0, a1, a2, b0, b1, b2, c0, c1, c2, f0, f1, f2⟩ := In3.all i0)))
  ((try simp only [Exit.inBlock, Exit.then]); refine bodyPost_ret_by (v := (.tuple #[.agg #[.int .i64 2, .string .empty, .int .i64 v1], .bool true])) ((results_cell_tmp rfl _ _ _).trans (by go_simp; try rfl)) rfl ⟨rfl, ?_⟩)
  (repeat (first | with_reducible assumption | exact (Below.refl _ _).alloc (Nat.le_refl _) _ | exact Below.refl _ _ | (refine Below.drew ?_) | (refine Below.setCell ?_ ?_ _; rotate_left; first | exact Nat.le_refl _ | (dsimp only; omega)) | (refine Below.alloc ?_ ?_ _; rotate_left; first | exact Nat.le_refl _ | (simp; omega) | simp)))

theorem reckoned_val (op K : Int) (s : ByteArray) (n K2 : Int) (s2 : ByteArray) (n2 : Int) (k m : Int) (b : Bool) (h : reckonedV op K n K2 n2 = (k, m, b)) (w : World) :
    Calls Try.prog 17 #[.int .i64 op, .agg #[.int .i64 K, .string s, .int .i64 n], .agg #[.int .i64 K2, .string s2, .int .i64 n2]] w fun e w' => e = .returned (.tuple #[.agg #[.int .i64 k, .string .empty, .int .i64 m], .bool b]) ∧ Below w.heap.size w w' := by
  unfold reckonedV at h
  by_cases h1 : (decide (1 ≤ op) && decide (op ≤ 14) && K == 2 && K2 == 2) = true
  · rw [if_pos h1] at h
    simp only [Prod.mk.injEq] at h
    obtain ⟨rfl, rfl, rfl⟩ := h
    simp only [Bool.and_eq_true] at h1
    exact reckoned_num op K s n K2 s2 n2 _ _ (by show _ = _; rw [Bool.and_eq_true]; exact h1.1.1) h1.1.2 h1.2 (by show _ = _; rfl) w
  · rw [if_neg h1] at h
    by_cases h2 : (decide (15 ≤ op) && decide (op ≤ 21) && K == 3 && K2 == 3) = true
    · rw [if_pos h2] at h
      simp only [Prod.mk.injEq] at h
      simp only [Bool.and_eq_true] at h2
      have hg1 : Hid ((decide (1 ≤ op) && decide (op ≤ 14)) = false) := by
        have h15 := of_decide_eq_true h2.1.1.1
        show _ = _
        rw [Bool.and_eq_false_iff]
        exact .inr (decide_eq_false (by omega))
      have hg2 : Hid ((decide (15 ≤ op) && decide (op ≤ 21)) = true) := by show _ = _; rw [Bool.and_eq_true]; exact h2.1.1
      have hK2 : (K == 2) = false := by
        have := eq_of_beq h2.1.2
        subst this
        rfl
      by_cases h18 : op ≤ 18
      · rw [if_pos h18] at h
        obtain ⟨rfl, rfl, rfl⟩ := h
        exact reckoned_flo_lo op K s n K2 s2 n2 _ (doV op n n2).2 hg1 hg2 hK2 h2.1.2 h2.2 (by show _ = _; rfl) h18 w
      · rw [if_neg h18] at h
        obtain ⟨rfl, rfl, rfl⟩ := h
        exact reckoned_flo_hi op K s n K2 s2 n2 _ (doV op n n2).2 hg1 hg2 hK2 h2.1.2 h2.2 (by show _ = _; rfl) (by omega) w
    · rw [if_neg h2] at h
      simp only [Prod.mk.injEq] at h
      obtain ⟨rfl, rfl, rfl⟩ := h
      exact reckoned_none op K s n K2 s2 n2 _ _ _ _ _ _ (by show _ = _; rfl) (by show _ = _; rfl) rfl rfl rfl rfl (by simpa using h1) (by simpa using h2) w

end Go.Proofs.Ytiheecgabfcigaa
