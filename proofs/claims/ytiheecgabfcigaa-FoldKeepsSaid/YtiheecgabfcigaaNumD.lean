/- The walk of Do of the reference of numbers. -/
import Derived.Test.YtiheecgabfcigaaNumRG
import Derived.Test.YtiheecgabfcigaaNumW
import Derived.Test.YtiheecgabfcigaaNumB
namespace Go.Proofs.Ytiheecgabfcigaa
open Go.RowKit Num

set_option maxHeartbeats 400000 in
theorem nrtruth_any (b : Bool) (w : World) :
    Calls Try.prog 45 #[.bool b] w fun e w' => e = .returned (.int .i64 (trN b)) ∧ w = w' := by
  cases b <;>
  · go_enter Try.func45, Try.ntmps45
    go_wp2
    go_ret
    exact ⟨rfl, rfl⟩

set_option maxHeartbeats 400000 in
theorem nrdo_plain (op a b : Int) (hop : op < 1 ∨ op = 1 ∨ op = 2 ∨ op = 3 ∨ op = 11 ∨ op = 12 ∨ op = 13 ∨ op = 14 ∨ 14 < op) (w : World) :
    Calls Try.prog 26 #[.int .i64 op, .int .i64 a, .int .i64 b] w fun e w' => e = .returned (.tuple #[.int .i64 (doN op a b).1, .bool (doN op a b).2]) ∧ Below w.heap.size w w' := by
  by_cases h : op < 1 ∨ 14 < op
  · have H := Lib.hid (doN_out (a := a) (b := b) h)
    have e1 : (op == 1) = false := by rw [beq_eq_false_iff_ne]; omega
    have e2 : (op == 2) = false := by rw [beq_eq_false_iff_ne]; omega
    have e3 : (op == 3) = false := by rw [beq_eq_false_iff_ne]; omega
    have e4 : (op == 4) = false := by rw [beq_eq_false_iff_ne]; omega
    have e5 : (op == 5) = false := by rw [beq_eq_false_iff_ne]; omega
    have e6 : (op == 6) = false := by rw [beq_eq_false_iff_ne]; omega
    have e7 : (op == 7) = false := by rw [beq_eq_false_iff_ne]; omega
    have e8 : (op == 8) = false := by rw [beq_eq_false_iff_ne]; omega
    have e9 : (op == 9) = false := by rw [beq_eq_false_iff_ne]; omega
    have e10 : (op == 10) = false := by rw [beq_eq_false_iff_ne]; omega
    have e11 : (op == 11) = false := by rw [beq_eq_false_iff_ne]; omega
    have e12 : (op == 12) = false := by rw [beq_eq_false_iff_ne]; omega
    have e13 : (op == 13) = false := by rw [beq_eq_false_iff_ne]; omega
    have e14 : (op == 14) = false := by rw [beq_eq_false_iff_ne]; omega
    clear h hop
    go_enter Try.func26, Try.ntmps26
    go_wp2
    go_ret2
    exact ⟨ret_doN H.out, Below.refl _ _⟩
  · have hw : op = 1 ∨ op = 2 ∨ op = 3 ∨ op = 11 ∨ op = 12 ∨ op = 13 ∨ op = 14 := by omega
    clear hop h
    rcases hw with rfl | rfl | rfl | rfl | rfl | rfl | rfl
    all_goals
      go_enter Try.func26, Try.ntmps26
      go_wp2_with (first | ((with_reducible refine (half_any _ _).mono ?_); rintro e w' ⟨rfl, rfl⟩) | ((with_reducible refine (nrtruth_any _ _).mono ?_); rintro e w' ⟨rfl, rfl⟩))
      go_ret2
      refine ⟨ret_doN ?_, Below.refl _ _⟩
    · rw [u_add]; rfl
    · rw [u_sub]; rfl
    · rw [u_mul]; rfl
    · rfl
    · rfl
    · rfl
    · rfl

theorem size_val (n : Int) (A : Nat) (hA : n.natAbs = A) (hn : Hid (-9223372036854775808 ≤ n ∧ n ≤ 9223372036854775807)) (w : World) :
    Calls Try.prog 43 #[.int .i64 n] w fun e w' => e = .returned (.int .u64 (A : Int)) ∧ w = w' := by
  subst hA; exact size_any n hn w

set_option maxRecDepth 100000 in
set_option maxHeartbeats 1000000 in
theorem nrdo_div (op a b : Int) (ha : Hid (-9223372036854775808 ≤ a ∧ a ≤ 9223372036854775807)) (hb : Hid (-9223372036854775808 ≤ b ∧ b ≤ 9223372036854775807)) (hop : op = 4 ∨ op = 5) (w : World) :
    Calls Try.prog 26 #[.int .i64 op, .int .i64 a, .int .i64 b] w fun e w' => e = .returned (.tuple #[.int .i64 (doN op a b).1, .bool (doN op a b).2]) ∧ Below w.heap.size w w' := by
  by_cases h0 : b = 0
  · subst h0
    have H : Hid (doN op a 0 = (0, false)) := by rcases hop with rfl | rfl <;> rfl
    clear ha hb
    rcases hop with rfl | rfl
    all_goals
      go_enter Try.func26, Try.ntmps26
      go_wp2
      go_ret2
      refine ⟨?_, Below.refl _ _⟩
      rw [H.out]
      rfl
  · have hb0 : (b == 0) = false := by simpa using h0
    obtain ⟨A, hA⟩ : ∃ A, a.natAbs = A := ⟨_, rfl⟩
    obtain ⟨B, hB⟩ : ∃ B, b.natAbs = B := ⟨_, rfl⟩
    have H4 : Hid (∀ X : Int, X = wrap64 (if (decide (a < 0) != decide (b < 0)) then -((A : Int) / (B : Int)) else (A : Int) / (B : Int)) → doN 4 a b = (X, true)) := fun X hX => div_val h0 hA hB hX
    have H5 : Hid (∀ X : Int, X = wrap64 (if a < 0 then -((A : Int) % (B : Int)) else (A : Int) % (B : Int)) → doN 5 a b = (X, true)) := fun X hX => rem_val h0 ha.out hA hB hX
    have hBp : 0 < B := by omega
    have HA := Lib.hid hA
    have HB := Lib.hid hB
    clear hA hB h0
    by_cases hna : a < 0
    all_goals by_cases hnb : b < 0
    all_goals rcases hop with rfl | rfl
    all_goals
      go_enter Try.func26, Try.ntmps26
      go_wp2_with (first | ((with_reducible refine (half_any _ _).mono ?_); rintro e w' ⟨rfl, rfl⟩) | ((with_reducible refine (size_val a A HA.out ha _).mono ?_); rintro e w' ⟨rfl, rfl⟩) | ((with_reducible refine (size_val b B HB.out hb _).mono ?_); rintro e w' ⟨rfl, rfl⟩))
      all_goals go_ret2
      all_goals refine ⟨ret_doN ?_, Below.refl _ _⟩
      all_goals first | refine H4.out _ ?_ | refine H5.out _ ?_
      all_goals by_cases q1 : a < 0 <;> by_cases q2 : b < 0 <;> first | (exfalso; omega) | (exfalso; simp_all; done) | simp only [q1, q2, decide_true, decide_false, u_wrap, u_neg_wrap, if_true, if_false, Bool.bne_true, Bool.bne_false, Bool.not_true, Bool.not_false, Bool.false_eq_true]

end Go.Proofs.Ytiheecgabfcigaa
