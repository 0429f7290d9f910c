/- The walks of the float functions of package flo and of its reference: what each call answers. -/
import Derived.Test.YtafigegbjcbdoaaRows
import Derived.Test.YtafigegbjcbdoaaFlo
import Derived.Test.YtafigegbjcbdoaaKit
import Derived.WalkKit
import Derived.Lib.Hide
import Derived.WalkSpells
import Derived.WalkLawsBesides
namespace Go.Proofs.Ytafigegbjcbdoaa
open Go.RowKit Flo

set_option maxHeartbeats 400000 in
theorem plain_any (n : Int) (w : World) :
    Calls Try.prog 24 #[.int .i64 n] w fun e w' => e = .returned (.int .i64 (plainV n)) ∧ w = w' := by
  go_enter Try.func24, Try.ntmps24
  go_wp2
  · go_ret; exact ⟨ret_int (plain_yes (by assumption) (by assumption)).symm, rfl⟩
  · go_ret; exact ⟨ret_int (plain_no2 (by assumption)).symm, rfl⟩
  · go_ret; exact ⟨ret_int (plain_no1 (by assumption)).symm, rfl⟩

set_option maxHeartbeats 400000 in
theorem isnan_any (n : Int) (w : World) :
    Calls Try.prog 32 #[.int .i64 n] w fun e w' => e = .returned (.bool (isNanN (u64 n))) ∧ w = w' := by
  go_enter Try.func32, Try.ntmps32
  go_wp2
  go_ret
  exact ⟨ret_bool (isnan_eq n), rfl⟩

set_option maxHeartbeats 400000 in
theorem rplain_any (n : Int) (w : World) :
    Calls Try.prog 25 #[.int .i64 n] w fun e w' => e = .returned (.int .i64 (plainV n)) ∧ w = w' := by
  cases h : isNanN (u64 n)
  all_goals
    have hv : plainV n = if isNanN (u64 n) then nanC else n := rfl
    rw [h] at hv
    go_enter Try.func25, Try.ntmps25
    go_wp2_with ((with_reducible refine (isnan_any ..).mono ?_); rintro e w' ⟨rfl, rfl⟩)
    go_ret
    exact ⟨ret_int hv.symm, rfl⟩


end Go.Proofs.Ytafigegbjcbdoaa
