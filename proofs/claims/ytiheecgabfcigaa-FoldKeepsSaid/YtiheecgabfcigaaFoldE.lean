/- The walks of package fold: neutral. -/
import Derived.Test.YtiheecgabfcigaaFoldD
namespace Go.Proofs.Ytiheecgabfcigaa
open Go.RowKit Num Flo

/-- what is folded where one of two arguments changes nothing -/
def pickV (K : Int) (s : ByteArray) (n K2 : Int) (s2 : ByteArray) (n2 : Int) (r l : Bool) : Int × ByteArray × Int × Bool :=
  if r then (K, s, n, true) else if l then (K2, s2, n2, true) else (0, .empty, 0, false)

set_option maxHeartbeats 1000000 in
theorem neutral_two (op m K : Int) (s : ByteArray) (n K2 : Int) (s2 : ByteArray) (n2 : Int) (r l : Bool) (hr : (K2 == 2 && n2 == m) = r) (hl : (K == 2 && n == m) = l)
    (hop : (op = 1 ∧ m = 0) ∨ (op = 7 ∧ m = 0) ∨ (op = 8 ∧ m = 0) ∨ (op = 3 ∧ m = 1) ∨ (op = 6 ∧ m = -1)) (k j : Int) (t : ByteArray) (b : Bool) (h : pickV K s n K2 s2 n2 r l = (k, t, j, b)) (w : World) :
    Calls Try.prog 19 #[.int .i64 op, .agg #[.int .i64 K, .string s, .int .i64 n], .agg #[.int .i64 K2, .string s2, .int .i64 n2]] w fun e w' => e = .returned (.tuple #[.agg #[.int .i64 k, .string t, .int .i64 j], .bool b]) ∧ Below w.heap.size w w' := by
  have i0 : In3 w _ K s n K2 s2 n2 := In3.refl
  have hB := In3.below i0
  have Hr := Lib.hid hr
  have Hl := Lib.hid hl
  clear hr hl
  unfold pickV at h
  rcases hop with ⟨rfl, rfl⟩ | ⟨rfl, rfl⟩ | ⟨rfl, rfl⟩ | ⟨rfl, rfl⟩ | ⟨rfl, rfl⟩ <;> cases r <;> cases l <;> simp only [Bool.false_eq_true, if_true, if_false, Prod.mk.injEq] at h <;> obtain ⟨rfl, rfl, rfl, rfl⟩ := h
  all_goals
    go_enter Try.func19, Try.ntmps19
    go_wp2
    replace i0 := In3.drew i0
    refine wp_region_ser (S := fun _ w1 => In3 w w1 K s n K2 s2 n2) rfl (by kernel_rfl) i0 ?_
    clear i0 hB
    ((refine Ser.step (a1 := ?_) rfl (fun L w1 K' Q' hS hi hR hd hK => ?_) ?_ ?_; rotate_left); (· ((obtain ⟨_, _, _, b0, b1, b2, _⟩ := In3.all hS); go_simp; (try simp only [Act.put, List.setIfInBounds_toArray, List.set_cons_zero, List.set_cons_succ]); exact hK.out _ (hS))); (· rfl))
    ((refine Ser.step (a1 := ?_) rfl (fun L w1 K' Q' hS hi hR hd hK => ?_) ?_ ?_; rotate_left); (· (go_simp; go_wp2_with ((go_at_call 39; refine (is_val K2 s2 n2 _ _ Hr.out _).mono ?_; rintro e w2 ⟨rfl, hb⟩)); (try simp only [Act.put, List.setIfInBounds_toArray, List.set_cons_zero, List.set_cons_succ]); exact hK.out _ (In3.next hS hb))); (· rfl))
    ((refine Ser.step (a1 := ?_) rfl (fun L w1 K' Q' hS hi hR hd hK => ?_) ?_ ?_; rotate_left); (· ((obtain ⟨a0, a1, a2, _⟩ := In3.all hS); go_simp; (try simp only [Act.put, List.setIfInBounds_toArray, List.set_cons_zero, List.set_cons_succ]); exact hK.out _ (hS))); (· rfl))
    ((refine Ser.step (a1 := ?_) rfl (fun L w1 K' Q' hS hi hR hd hK => ?_) ?_ ?_; rotate_left); (· (go_simp; go_wp2_with ((go_at_call 39; refine (is_val K s n _ _ Hl.out _).mono ?_; rintro e w2 ⟨rfl, hb⟩)); (try simp only [Act.put, List.setIfInBounds_toArray, List.set_cons_zero, List.set_cons_succ]); exact hK.out _ (In3.next hS hb))); (· rfl))
    ((refine Ser.step (a1 := ?_) rfl (fun L w1 K' Q' hS hi hR hd hK => ?_) ?_ ?_; rotate_left); (· ((skip); go_simp; (try simp only [Act.put, List.setIfInBounds_toArray, List.set_cons_zero, List.set_cons_succ]); exact hK.out _ (hS))); (· rfl))
    ((refine Ser.step (a1 := ?_) rfl (fun L w1 K' Q' hS hi hR hd hK => ?_) ?_ ?_; rotate_left); (· ((skip); go_simp; (try simp only [Act.put, List.setIfInBounds_toArray, List.set_cons_zero, List.set_cons_succ]); exact hK.out _ (hS))); (· rfl))
    refine Ser.nil fun w1 i0 => ?_
    have hB := In3.below i0
    obtain ⟨a0, a1, a2, b0, b1, b2, c0, c1, c2, f0, f1, f2⟩ := In3.all i0
    go_wp2
    ((try simp only [Exit.inBlock, Exit.then]); refine bodyPost_ret_by (v := (.tuple #[.agg #[.int .i64 _, .string _, .int .i64 _], .bool _])) ((results_cell_tmp rfl _ _ _).trans (by go_simp; try rfl)) rfl ⟨rfl, ?_⟩)
    (repeat (first | with_reducible assumption | exact (Below.refl _ _).alloc (Nat.le_refl _) _ | exact Below.refl _ _ | (refine Below.drew ?_) | (refine Below.setCell ?_ ?_ _; rotate_left; first | exact Nat.le_refl _ | (dsimp only; omega)) | (refine Below.alloc ?_ ?_ _; rotate_left; first | exact Nat.le_refl _ | (simp; omega) | simp)))

set_option maxHeartbeats 1000000 in
theorem neutral_flo (op m K : Int) (s : ByteArray) (n K2 : Int) (s2 : ByteArray) (n2 : Int) (r l : Bool) (hr : (K2 == 3 && n2 == m) = r) (hl : (K == 3 && n == m) = l)
    (hop : (op = 15 ∧ m = -9223372036854775808) ∨ (op = 17 ∧ m = 4607182418800017408)) (k j : Int) (t : ByteArray) (b : Bool) (h : pickV K s n K2 s2 n2 r l = (k, t, j, b)) (w : World) :
    Calls Try.prog 19 #[.int .i64 op, .agg #[.int .i64 K, .string s, .int .i64 n], .agg #[.int .i64 K2, .string s2, .int .i64 n2]] w fun e w' => e = .returned (.tuple #[.agg #[.int .i64 k, .string t, .int .i64 j], .bool b]) ∧ Below w.heap.size w w' := by
  have i0 : In3 w _ K s n K2 s2 n2 := In3.refl
  have hB := In3.below i0
  have Hr := Lib.hid hr
  have Hl := Lib.hid hl
  clear hr hl
  unfold pickV at h
  rcases hop with ⟨rfl, rfl⟩ | ⟨rfl, rfl⟩ <;> cases r <;> cases l <;> simp only [Bool.false_eq_true, if_true, if_false, Prod.mk.injEq] at h <;> obtain ⟨rfl, rfl, rfl, rfl⟩ := h
  all_goals
    go_enter Try.func19, Try.ntmps19
    go_wp2
    replace i0 := In3.drew i0
    refine wp_region_ser (S := fun _ w1 => In3 w w1 K s n K2 s2 n2) rfl (by kernel_rfl) i0 ?_
    clear i0 hB
    ((refine Ser.step (a1 := ?_) rfl (fun L w1 K' Q' hS hi hR hd hK => ?_) ?_ ?_; rotate_left); (· ((obtain ⟨_, _, _, b0, b1, b2, _⟩ := In3.all hS); go_simp; (try simp only [Act.put, List.setIfInBounds_toArray, List.set_cons_zero, List.set_cons_succ]); exact hK.out _ (hS))); (· rfl))
    ((refine Ser.step (a1 := ?_) rfl (fun L w1 K' Q' hS hi hR hd hK => ?_) ?_ ?_; rotate_left); (· (go_simp; go_wp2_with ((go_at_call 40; refine (isFloat_val K2 s2 n2 _ _ Hr.out _).mono ?_; rintro e w2 ⟨rfl, hb⟩)); (try simp only [Act.put, List.setIfInBounds_toArray, List.set_cons_zero, List.set_cons_succ]); exact hK.out _ (In3.next hS hb))); (· rfl))
    ((refine Ser.step (a1 := ?_) rfl (fun L w1 K' Q' hS hi hR hd hK => ?_) ?_ ?_; rotate_left); (· ((obtain ⟨a0, a1, a2, _⟩ := In3.all hS); go_simp; (try simp only [Act.put, List.setIfInBounds_toArray, List.set_cons_zero, List.set_cons_succ]); exact hK.out _ (hS))); (· rfl))
    ((refine Ser.step (a1 := ?_) rfl (fun L w1 K' Q' hS hi hR hd hK => ?_) ?_ ?_; rotate_left); (· (go_simp; go_wp2_with ((go_at_call 40; refine (isFloat_val K s n _ _ Hl.out _).mono ?_; rintro e w2 ⟨rfl, hb⟩)); (try simp only [Act.put, List.setIfInBounds_toArray, List.set_cons_zero, List.set_cons_succ]); exact hK.out _ (In3.next hS hb))); (· rfl))
    ((refine Ser.step (a1 := ?_) rfl (fun L w1 K' Q' hS hi hR hd hK => ?_) ?_ ?_; rotate_left); (· ((skip); go_simp; (try simp only [Act.put, List.setIfInBounds_toArray, List.set_cons_zero, List.set_cons_succ]); exact hK.out _ (hS))); (· rfl))
    ((refine Ser.step (a1 := ?_) rfl (fun L w1 K' Q' hS hi hR hd hK => ?_) ?_ ?_; rotate_left); (· ((skip); go_simp; (try simp only [Act.put, List.setIfInBounds_toArray, List.set_cons_zero, List.set_cons_succ]); exact hK.out _ (hS))); (· rfl))
    refine Ser.nil fun w1 i0 => ?_
    have hB := In3.below i0
    obtain ⟨a0, a1, a2, b0, b1, b2, c0, c1, c2, f0, f1, f2⟩ := In3.all i0
    go_wp2
    ((try simp only [Exit.inBlock, Exit.then]); refine bodyPost_ret_by (v := (.tuple #[.agg #[.int .i64 _, .string _, .int .i64 _], .bool _])) ((results_cell_tmp rfl _ _ _).trans (by go_simp; try rfl)) rfl ⟨rfl, ?_⟩)
    (repeat (first | with_reducible assumption | exact (Below.refl _ _).alloc (Nat.le_refl _) _ | exact Below.refl _ _ | (refine Below.drew ?_) | (refine Below.setCell ?_ ?_ _; rotate_left; first | exact Nat.le_refl _ | (dsimp only; omega)) | (refine Below.alloc ?_ ?_ _; rotate_left; first | exact Nat.le_refl _ | (simp; omega) | simp)))

set_option maxHeartbeats 1000000 in
theorem neutral_one (op m K : Int) (s : ByteArray) (n K2 : Int) (s2 : ByteArray) (n2 : Int) (r : Bool) (hr : (K2 == 2 && n2 == m) = r)
    (hop : (op = 2 ∧ m = 0) ∨ (op = 4 ∧ m = 1)) (k j : Int) (t : ByteArray) (b : Bool) (h : pickV K s n K2 s2 n2 r false = (k, t, j, b)) (w : World) :
    Calls Try.prog 19 #[.int .i64 op, .agg #[.int .i64 K, .string s, .int .i64 n], .agg #[.int .i64 K2, .string s2, .int .i64 n2]] w fun e w' => e = .returned (.tuple #[.agg #[.int .i64 k, .string t, .int .i64 j], .bool b]) ∧ Below w.heap.size w w' := by
  have i0 : In3 w _ K s n K2 s2 n2 := In3.refl
  have hB := In3.below i0
  have Hr := Lib.hid hr
  clear hr
  unfold pickV at h
  rcases hop with ⟨rfl, rfl⟩ | ⟨rfl, rfl⟩ <;> cases r <;> simp only [Bool.false_eq_true, if_true, if_false, Prod.mk.injEq] at h <;> obtain ⟨rfl, rfl, rfl, rfl⟩ := h
  all_goals
    go_enter Try.func19, Try.ntmps19
    go_wp2_with ((with_reducible refine (is_val K2 s2 n2 _ _ Hr.out _).mono ?_); rintro e w1 ⟨rfl, h⟩; (replace i0 := In3.next i0 h; clear h; have hB := In3.below i0; obtain ⟨a0, a1, a2, b0, b1, b2, c0, c1, c2, f0, f1, f2⟩ := In3.all i0))
    ((try simp only [Exit.inBlock, Exit.then]); refine bodyPost_ret_by (v := (.tuple #[.agg #[.int .i64 _, .string _, .int .i64 _], .bool _])) ((results_cell_tmp rfl _ _ _).trans (by go_simp; try rfl)) rfl ⟨rfl, ?_⟩)
    (repeat (first | with_reducible assumption | exact (Below.refl _ _).alloc (Nat.le_refl _) _ | exact Below.refl _ _ | (refine Below.drew ?_) | (refine Below.setCell ?_ ?_ _; rotate_left; first | exact Nat.le_refl _ | (dsimp only; omega)) | (refine Below.alloc ?_ ?_ _; rotate_left; first | exact Nat.le_refl _ | (simp; omega) | simp)))

set_option maxHeartbeats 1000000 in
theorem neutral_flo1 (op m K : Int) (s : ByteArray) (n K2 : Int) (s2 : ByteArray) (n2 : Int) (r : Bool) (hr : (K2 == 3 && n2 == m) = r)
    (hop : (op = 16 ∧ m = 0) ∨ (op = 18 ∧ m = 4607182418800017408)) (k j : Int) (t : ByteArray) (b : Bool) (h : pickV K s n K2 s2 n2 r false = (k, t, j, b)) (w : World) :
    Calls Try.prog 19 #[.int .i64 op, .agg #[.int .i64 K, .string s, .int .i64 n], .agg #[.int .i64 K2, .string s2, .int .i64 n2]] w fun e w' => e = .returned (.tuple #[.agg #[.int .i64 k, .string t, .int .i64 j], .bool b]) ∧ Below w.heap.size w w' := by
  have i0 : In3 w _ K s n K2 s2 n2 := In3.refl
  have hB := In3.below i0
  have Hr := Lib.hid hr
  clear hr
  unfold pickV at h
  rcases hop with ⟨rfl, rfl⟩ | ⟨rfl, rfl⟩ <;> cases r <;> simp only [Bool.false_eq_true, if_true, if_false, Prod.mk.injEq] at h <;> obtain ⟨rfl, rfl, rfl, rfl⟩ := h
  all_goals
    go_enter Try.func19, Try.ntmps19
    go_wp2_with ((with_reducible refine (isFloat_val K2 s2 n2 _ _ Hr.out _).mono ?_); rintro e w1 ⟨rfl, h⟩; (replace i0 := In3.next i0 h; clear h; have hB := In3.below i0; obtain ⟨a0, a1, a2, b0, b1, b2, c0, c1, c2, f0, f1, f2⟩ := In3.all i0))
    ((try simp only [Exit.inBlock, Exit.then]); refine bodyPost_ret_by (v := (.tuple #[.agg #[.int .i64 _, .string _, .int .i64 _], .bool _])) ((results_cell_tmp rfl _ _ _).trans (by go_simp; try rfl)) rfl ⟨rfl, ?_⟩)
    (repeat (first | with_reducible assumption | exact (Below.refl _ _).alloc (Nat.le_refl _) _ | exact Below.refl _ _ | (refine Below.drew ?_) | (refine Below.setCell ?_ ?_ _; rotate_left; first | exact Nat.le_refl _ | (dsimp only; omega)) | (refine Below.alloc ?_ ?_ _; rotate_left; first | exact Nat.le_refl _ | (simp; omega) | simp)))

set_option maxHeartbeats 1000000 in
theorem neutral_shift (op K : Int) (s : ByteArray) (n K2 : Int) (s2 : ByteArray) (n2 : Int) (r2 r3 : Bool) (h2 : (K2 == 2) = r2) (h3 : (bits .and .i64 n2 63 == 0) = r3)
    (hop : op = 9 ∨ op = 10) (k j : Int) (t : ByteArray) (b : Bool) (h : pickV K s n K2 s2 n2 (r2 && r3) false = (k, t, j, b)) (w : World) :
    Calls Try.prog 19 #[.int .i64 op, .agg #[.int .i64 K, .string s, .int .i64 n], .agg #[.int .i64 K2, .string s2, .int .i64 n2]] w fun e w' => e = .returned (.tuple #[.agg #[.int .i64 k, .string t, .int .i64 j], .bool b]) ∧ Below w.heap.size w w' := by
  have i0 : In3 w _ K s n K2 s2 n2 := In3.refl
  have hB := In3.below i0
  unfold pickV at h
  rcases hop with rfl | rfl <;> cases r2 <;> cases r3 <;> simp only [Bool.false_and, Bool.true_and, Bool.false_eq_true, if_true, if_false, Prod.mk.injEq] at h <;> obtain ⟨rfl, rfl, rfl, rfl⟩ := h
  all_goals
    go_enter Try.func19, Try.ntmps19
    go_wp2
    ((try simp only [Exit.inBlock, Exit.then]); refine bodyPost_ret_by (v := (.tuple #[.agg #[.int .i64 _, .string _, .int .i64 _], .bool _])) ((results_cell_tmp rfl _ _ _).trans (by go_simp; try rfl)) rfl ⟨rfl, ?_⟩)
    (repeat (first | with_reducible assumption | exact (Below.refl _ _).alloc (Nat.le_refl _) _ | exact Below.refl _ _ | (refine Below.drew ?_) | (refine Below.setCell ?_ ?_ _; rotate_left; first | exact Nat.le_refl _ | (dsimp only; omega)) | (refine Below.alloc ?_ ?_ _; rotate_left; first | exact Nat.le_refl _ | (simp; omega) | simp)))

set_option maxHeartbeats 1000000 in
theorem neutral_none (op K : Int) (s : ByteArray) (n K2 : Int) (s2 : ByteArray) (n2 : Int) (hop : op < 1 ∨ op = 5 ∨ (11 ≤ op ∧ op ≤ 14) ∨ 18 < op) (w : World) :
    Calls Try.prog 19 #[.int .i64 op, .agg #[.int .i64 K, .string s, .int .i64 n], .agg #[.int .i64 K2, .string s2, .int .i64 n2]] w fun e w' => e = .returned (.tuple #[.agg #[.int .i64 0, .string .empty, .int .i64 0], .bool false]) ∧ Below w.heap.size w w' := by
  have q1 : (op == 1) = false := by rw [beq_eq_false_iff_ne]; omega
  have q2 : (op == 2) = false := by rw [beq_eq_false_iff_ne]; omega
  have q3 : (op == 3) = false := by rw [beq_eq_false_iff_ne]; omega
  have q4 : (op == 4) = false := by rw [beq_eq_false_iff_ne]; omega
  have q6 : (op == 6) = false := by rw [beq_eq_false_iff_ne]; omega
  have q7 : (op == 7) = false := by rw [beq_eq_false_iff_ne]; omega
  have q8 : (op == 8) = false := by rw [beq_eq_false_iff_ne]; omega
  have q9 : (op == 9) = false := by rw [beq_eq_false_iff_ne]; omega
  have q10 : (op == 10) = false := by rw [beq_eq_false_iff_ne]; omega
  have q15 : (op == 15) = false := by rw [beq_eq_false_iff_ne]; omega
  have q16 : (op == 16) = false := by rw [beq_eq_false_iff_ne]; omega
  have q17 : (op == 17) = false := by rw [beq_eq_false_iff_ne]; omega
  have q18 : (op == 18) = false := by rw [beq_eq_false_iff_ne]; omega
  clear hop
  go_enter Try.func19, Try.ntmps19
  go_wp2
  ((try simp only [Exit.inBlock, Exit.then]); refine bodyPost_ret_by (v := (.tuple #[.agg #[.int .i64 _, .string _, .int .i64 _], .bool _])) ((results_cell_tmp rfl _ _ _).trans (by go_simp; try rfl)) rfl ⟨rfl, ?_⟩)
  (repeat (first | with_reducible assumption | exact (Below.refl _ _).alloc (Nat.le_refl _) _ | exact Below.refl _ _ | (refine Below.drew ?_) | (refine Below.setCell ?_ ?_ _; rotate_left; first | exact Nat.le_refl _ | (dsimp only; omega)) | (refine Below.alloc ?_ ?_ _; rotate_left; first | exact Nat.le_refl _ | (simp; omega) | simp)))

/-- rule 3 -/
def neutralV (op K : Int) (s : ByteArray) (n K2 : Int) (s2 : ByteArray) (n2 : Int) : Int × ByteArray × Int × Bool :=
  if op = 1 ∨ op = 7 ∨ op = 8 then pickV K s n K2 s2 n2 (K2 == 2 && n2 == 0) (K == 2 && n == 0)
  else if op = 3 then pickV K s n K2 s2 n2 (K2 == 2 && n2 == 1) (K == 2 && n == 1)
  else if op = 6 then pickV K s n K2 s2 n2 (K2 == 2 && n2 == -1) (K == 2 && n == -1)
  else if op = 2 then pickV K s n K2 s2 n2 (K2 == 2 && n2 == 0) false
  else if op = 4 then pickV K s n K2 s2 n2 (K2 == 2 && n2 == 1) false
  else if op = 9 ∨ op = 10 then pickV K s n K2 s2 n2 (K2 == 2 && bits .and .i64 n2 63 == 0) false
  else if op = 15 then pickV K s n K2 s2 n2 (K2 == 3 && n2 == -9223372036854775808) (K == 3 && n == -9223372036854775808)
  else if op = 17 then pickV K s n K2 s2 n2 (K2 == 3 && n2 == 4607182418800017408) (K == 3 && n == 4607182418800017408)
  else if op = 16 then pickV K s n K2 s2 n2 (K2 == 3 && n2 == 0) false
  else if op = 18 then pickV K s n K2 s2 n2 (K2 == 3 && n2 == 4607182418800017408) false
  else (0, .empty, 0, false)
theorem neutral_val (op K : Int) (s : ByteArray) (n K2 : Int) (s2 : ByteArray) (n2 : Int) (k j : Int) (t : ByteArray) (b : Bool) (h : neutralV op K s n K2 s2 n2 = (k, t, j, b)) (w : World) :
    Calls Try.prog 19 #[.int .i64 op, .agg #[.int .i64 K, .string s, .int .i64 n], .agg #[.int .i64 K2, .string s2, .int .i64 n2]] w fun e w' => e = .returned (.tuple #[.agg #[.int .i64 k, .string t, .int .i64 j], .bool b]) ∧ Below w.heap.size w w' := by
  unfold neutralV at h
  by_cases h1 : op = 1 ∨ op = 7 ∨ op = 8
  · rw [if_pos h1] at h
    exact neutral_two op 0 K s n K2 s2 n2 _ _ rfl rfl (by omega) k j t b h w
  rw [if_neg h1] at h
  by_cases h2 : op = 3
  · rw [if_pos h2] at h
    exact neutral_two op 1 K s n K2 s2 n2 _ _ rfl rfl (by omega) k j t b h w
  rw [if_neg h2] at h
  by_cases h3 : op = 6
  · rw [if_pos h3] at h
    exact neutral_two op (-1) K s n K2 s2 n2 _ _ rfl rfl (by omega) k j t b h w
  rw [if_neg h3] at h
  by_cases h4 : op = 2
  · rw [if_pos h4] at h
    exact neutral_one op 0 K s n K2 s2 n2 _ rfl (by omega) k j t b h w
  rw [if_neg h4] at h
  by_cases h5 : op = 4
  · rw [if_pos h5] at h
    exact neutral_one op 1 K s n K2 s2 n2 _ rfl (by omega) k j t b h w
  rw [if_neg h5] at h
  by_cases h6 : op = 9 ∨ op = 10
  · rw [if_pos h6] at h
    exact neutral_shift op K s n K2 s2 n2 _ _ rfl rfl h6 k j t b h w
  rw [if_neg h6] at h
  by_cases h7 : op = 15
  · rw [if_pos h7] at h
    exact neutral_flo op (-9223372036854775808) K s n K2 s2 n2 _ _ rfl rfl (by omega) k j t b h w
  rw [if_neg h7] at h
  by_cases h8 : op = 17
  · rw [if_pos h8] at h
    exact neutral_flo op 4607182418800017408 K s n K2 s2 n2 _ _ rfl rfl (by omega) k j t b h w
  rw [if_neg h8] at h
  by_cases h9 : op = 16
  · rw [if_pos h9] at h
    exact neutral_flo1 op 0 K s n K2 s2 n2 _ rfl (by omega) k j t b h w
  rw [if_neg h9] at h
  by_cases h10 : op = 18
  · rw [if_pos h10] at h
    exact neutral_flo1 op 4607182418800017408 K s n K2 s2 n2 _ rfl (by omega) k j t b h w
  rw [if_neg h10] at h
  simp only [Prod.mk.injEq] at h
  obtain ⟨rfl, rfl, rfl, rfl⟩ := h
  exact neutral_none op K s n K2 s2 n2 (by omega) w
end Go.Proofs.Ytiheecgabfcigaa
