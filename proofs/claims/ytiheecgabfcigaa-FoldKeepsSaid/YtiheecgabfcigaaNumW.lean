/- The walks of package num: what is done with two whole numbers; a number's text. -/
import Derived.Test.YtiheecgabfcigaaRows
import Derived.Test.YtiheecgabfcigaaNum
import Derived.Test.YtiheecgabfcigaaKit
namespace Go.Proofs.Ytiheecgabfcigaa
open Go.RowKit Num

theorem ret_doN {op a b n : Int} {y : Bool} (h : doN op a b = (n, y)) : Ending.returned (.tuple #[.int .i64 n, .bool y]) = .returned (.tuple #[.int .i64 (doN op a b).1, .bool (doN op a b).2]) := by rw [h]

set_option maxHeartbeats 400000 in
theorem ntruth_any (b : Bool) (w : World) :
    Calls Try.prog 55 #[.bool b] w fun e w' => e = .returned (.tuple #[.int .i64 (trN b), .bool true]) ∧ w = w' := by
  cases b <;>
  · go_enter Try.func55, Try.ntmps55
    go_wp2
    go_ret2
    exact ⟨rfl, rfl⟩

set_option maxHeartbeats 400000 in
theorem ndiv_any (op a b : Int) (hop : op = 4 ∨ op = 5) (w : World) :
    Calls Try.prog 50 #[.int .i64 op, .int .i64 a, .int .i64 b] w fun e w' => e = .returned (.tuple #[.int .i64 (doN op a b).1, .bool (doN op a b).2]) ∧ w = w' := by
  by_cases h0 : b = 0
  · subst h0
    have H : Hid (doN op a 0 = (0, false)) := by rcases hop with rfl | rfl <;> rfl
    rcases hop with rfl | rfl
    all_goals
      go_enter Try.func50, Try.ntmps50
      go_wp2
      go_ret2
      exact ⟨ret_doN H.out, rfl⟩
  · have hb0 : (b == 0) = false := by simpa using h0
    by_cases h1 : b = -1
    · subst h1
      rcases hop with rfl | rfl
      · go_enter Try.func50, Try.ntmps50
        go_wp2
        go_ret2
        exact ⟨ret_doN (div_m1 a), rfl⟩
      · go_enter Try.func50, Try.ntmps50
        go_wp2
        go_ret2
        exact ⟨ret_doN (rem_m1 a), rfl⟩
    · have hb1 : (b == -1) = false := by simpa using h1
      have H4 := Lib.hid (div_at (a := a) h0)
      have H5 := Lib.hid (rem_at (a := a) h0)
      clear h1
      rcases hop with rfl | rfl
      all_goals
        go_enter Try.func50, Try.ntmps50
        go_wp2
        go_ret2
        refine ⟨ret_doN ?_, rfl⟩
        first | exact H4.out | exact H5.out

set_option maxHeartbeats 400000 in
theorem ncompare_any (op a b : Int) (hop : op < 1 ∨ 10 < op) (w : World) :
    Calls Try.prog 51 #[.int .i64 op, .int .i64 a, .int .i64 b] w fun e w' => e = .returned (.tuple #[.int .i64 (doN op a b).1, .bool (doN op a b).2]) ∧ w = w' := by
  by_cases h : op < 1 ∨ 14 < op
  · have H := Lib.hid (doN_out (a := a) (b := b) h)
    have e1 : (op == 11) = false := by rw [beq_eq_false_iff_ne]; omega
    have e2 : (op == 12) = false := by rw [beq_eq_false_iff_ne]; omega
    have e3 : (op == 13) = false := by rw [beq_eq_false_iff_ne]; omega
    have e4 : (op == 14) = false := by rw [beq_eq_false_iff_ne]; omega
    clear h hop
    go_enter Try.func51, Try.ntmps51
    go_wp2
    go_ret2
    exact ⟨ret_doN H.out, rfl⟩
  · have hw : op = 11 ∨ op = 12 ∨ op = 13 ∨ op = 14 := by omega
    clear hop h
    rcases hw with rfl | rfl | rfl | rfl
    all_goals
      go_enter Try.func51, Try.ntmps51
      go_wp2_with ((with_reducible refine (ntruth_any ..).mono ?_); rintro e w' ⟨rfl, rfl⟩)
      go_ret2
      exact ⟨rfl, rfl⟩

set_option maxHeartbeats 400000 in
theorem ndo_any (op a b : Int) (w : World) :
    Calls Try.prog 36 #[.int .i64 op, .int .i64 a, .int .i64 b] w fun e w' => e = .returned (.tuple #[.int .i64 (doN op a b).1, .bool (doN op a b).2]) ∧ w = w' := by
  have h63 := and_63 b
  have hsl := sh_lt b
  by_cases h : op < 1 ∨ 10 < op
  · have e1 : (op == 1) = false := by rw [beq_eq_false_iff_ne]; omega
    have e2 : (op == 2) = false := by rw [beq_eq_false_iff_ne]; omega
    have e3 : (op == 3) = false := by rw [beq_eq_false_iff_ne]; omega
    have e4 : (op == 4) = false := by rw [beq_eq_false_iff_ne]; omega
    have e5 : (op == 5) = false := by rw [beq_eq_false_iff_ne]; omega
    have e6 : (op == 6) = false := by rw [beq_eq_false_iff_ne]; omega
    have e7 : (op == 7) = false := by rw [beq_eq_false_iff_ne]; omega
    have e8 : (op == 8) = false := by rw [beq_eq_false_iff_ne]; omega
    have e9 : (op == 9) = false := by rw [beq_eq_false_iff_ne]; omega
    have e10 : (op == 10) = false := by rw [beq_eq_false_iff_ne]; omega
    have H := Lib.hid h
    clear h
    go_enter Try.func36, Try.ntmps36
    go_wp2_with ((with_reducible refine (ncompare_any _ _ _ H.out _).mono ?_); rintro e w' ⟨rfl, rfl⟩)
    go_ret2
    exact ⟨rfl, rfl⟩
  · by_cases h4 : op = 4 ∨ op = 5
    · have H := Lib.hid h4
      rcases h4 with rfl | rfl
      all_goals
        go_enter Try.func36, Try.ntmps36
        go_wp2_with ((with_reducible refine (ndiv_any _ _ _ H.out _).mono ?_); rintro e w' ⟨rfl, rfl⟩)
        go_ret2
        exact ⟨rfl, rfl⟩
    · have hw : op = 1 ∨ op = 2 ∨ op = 3 ∨ op = 6 ∨ op = 7 ∨ op = 8 ∨ op = 9 ∨ op = 10 := by omega
      clear h h4
      rcases hw with rfl | rfl | rfl | rfl | rfl | rfl | rfl | rfl
      all_goals
        go_enter Try.func36, Try.ntmps36
        go_wp2
        go_ret2
        exact ⟨rfl, rfl⟩

end Go.Proofs.Ytiheecgabfcigaa
