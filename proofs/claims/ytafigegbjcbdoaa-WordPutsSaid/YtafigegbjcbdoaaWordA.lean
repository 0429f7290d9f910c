/- The walks of package word on arguments: whether one is right; its word. -/
import Derived.Test.YtafigegbjcbdoaaWordR
import Derived.Deep.QuietTactic
import Derived.BigQuiet
import Derived.Test.YtafigegbjcbdoaaLift
namespace Go.Proofs.Ytafigegbjcbdoaa
open Go.RowKit Word Num Flo

theorem plain_quiet (n m : Int) (h : plainV n = m) (w : World) :
    Calls Try.prog 24 #[.int .i64 n] w fun e w' => e = .returned (.int .i64 m) ∧ w' = w := by
  have := plain_any n w
  rw [h] at this
  exact this.mono fun _ _ ⟨a, b⟩ => ⟨a, b.symm⟩

set_option maxHeartbeats 1000000 in
theorem right_val (K : Int) (s : ByteArray) (n : Int) (v : Bool) (hv : rightV K s.data.toList n = v) (w : World) :
    Calls Try.prog 13 #[.agg #[.int .i64 K, .string s, .int .i64 n]] w fun e w' => e = .returned (.bool v) ∧ Below w.heap.size w w' := by
  have hem : s.data.toList.isEmpty = s.toList.isEmpty := by rw [ByteArray.toList_eq]
  by_cases hout : K < 1 ∨ 5 < K
  · have : v = false := by rw [← hv, rightV_out hout]
    subst this
    have e1 : (K == 1) = false := by rw [beq_eq_false_iff_ne]; omega
    have e2 : (K == 2) = false := by rw [beq_eq_false_iff_ne]; omega
    have e3 : (K == 3) = false := by rw [beq_eq_false_iff_ne]; omega
    have e4 : (K == 4) = false := by rw [beq_eq_false_iff_ne]; omega
    have e5 : (K == 5) = false := by rw [beq_eq_false_iff_ne]; omega
    clear hout hv hem
    go_enter Try.func13, Try.ntmps13
    go_wp2
    go_ret
    exact ⟨rfl, (Below.refl _ _).alloc (Nat.le_refl _) _⟩
  · have hK : K = 1 ∨ K = 2 ∨ K = 3 ∨ K = 4 ∨ K = 5 := by omega
    clear hout
    rcases hK with rfl | rfl | rfl | rfl | rfl
    · have hv' : Hid ((nameB s.data.toList && decide (n = 0)) = v) := hv
      clear hv hem
      cases hb : nameB s.data.toList
      all_goals
        have Hb := Lib.hid hb
        clear hb
        go_enter Try.func13, Try.ntmps13
        go_wp2_with ((with_reducible refine (name_val _ _ Hb.out _).mono ?_); rintro e w' ⟨rfl, rfl⟩)
        go_ret
        refine ⟨ret_bool ?_, (Below.refl _ _).alloc (Nat.le_refl _) _⟩
        rw [← hv'.out, Hb.out, Bool.eq_iff_iff]
        simp
    · have hv' : Hid (s.toList.isEmpty = v) := by rw [← hem]; exact hv
      clear hv hem
      go_enter Try.func13, Try.ntmps13
      go_wp2
      go_ret
      exact ⟨ret_bool hv'.out, (Below.refl _ _).alloc (Nat.le_refl _) _⟩
    · have hv' : Hid ((s.toList.isEmpty && decide (plainV n = n)) = v) := by rw [← hem]; exact hv
      clear hv hem
      cases hb : s.toList.isEmpty
      all_goals
        go_enter Try.func13, Try.ntmps13
        go_wp2
        first | go_quiet (fail) | go_quiet ((go_at_call 24; exact Calls.quiet_of_same (plain_quiet _ _ rfl _)))
        go_wp2
        go_ret
        refine ⟨ret_bool ?_, below_drewN ((Below.refl _ _).alloc (Nat.le_refl _) _) _⟩
        rw [← hv'.out, hb, Bool.eq_iff_iff]
        simp
    · have hv' : Hid ((s.toList.isEmpty && decide (n = 0)) = v) := by rw [← hem]; exact hv
      clear hv hem
      cases hb : s.toList.isEmpty
      all_goals
        go_enter Try.func13, Try.ntmps13
        go_wp2
        try (go_quiet (fail); go_wp2)
        go_ret
        refine ⟨ret_bool ?_, by first | exact (Below.refl _ _).alloc (Nat.le_refl _) _ | exact below_drewN ((Below.refl _ _).alloc (Nat.le_refl _) _) _⟩
        rw [← hv'.out, hb, Bool.eq_iff_iff]
        simp
    · have hv' : Hid ((s.toList.isEmpty && decide (0 ≤ n) && decide (n ≤ 999)) = v) := by rw [← hem]; exact hv
      clear hv hem
      cases hb : s.toList.isEmpty
      all_goals by_cases h0 : 0 ≤ n
      all_goals
        go_enter Try.func13, Try.ntmps13
        go_wp2
        try (go_quiet (fail); go_wp2)
        all_goals go_ret
        all_goals refine ⟨ret_bool ?_, by first | exact (Below.refl _ _).alloc (Nat.le_refl _) _ | exact below_drewN ((Below.refl _ _).alloc (Nat.le_refl _) _) _⟩
        all_goals rw [← hv'.out, hb, Bool.eq_iff_iff]
        all_goals simp
        all_goals omega

end Go.Proofs.Ytafigegbjcbdoaa
