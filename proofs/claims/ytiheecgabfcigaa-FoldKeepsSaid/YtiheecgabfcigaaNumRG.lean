/- The walk of Get of the reference of numbers. -/
import Derived.Test.YtiheecgabfcigaaNumG
namespace Go.Proofs.Ytiheecgabfcigaa
open Go.RowKit Num

set_option maxHeartbeats 400000 in
theorem half_any (n : Int) (w : World) :
    Calls Try.prog 42 #[.int .u64 n] w fun e w' => e = .returned (.int .i64 (wrap64 n)) ∧ w = w' := by
  go_enter Try.func42, Try.ntmps42
  go_wp2
  go_ret
  exact ⟨rfl, rfl⟩

theorem u64_step (a : Int) (c : Nat) : IntKind.u64.wrap (IntKind.u64.wrap (IntKind.u64.wrap (IntKind.u64.wrap a * 10) + IntKind.u64.wrap (c : Int)) - 48) = IntKind.u64.wrap (a * 10 + (c : Int) - 48) := by
  simp only [IntKind.wrap_u64]; omega
theorem wrap_u64_neg (a : Int) : wrap64 (IntKind.u64.wrap (-(IntKind.u64.wrap a))) = wrap64 (-a) := by
  simp only [IntKind.wrap_u64]; unfold wrap64; omega
theorem wrap_u64_pos (a : Int) : wrap64 (IntKind.u64.wrap a) = wrap64 a := by
  simp only [IntKind.wrap_u64]; unfold wrap64; omega
theorem u64_zero : (0 : Int) = IntKind.u64.wrap 0 := by simp [IntKind.wrap_u64]

end Go.Proofs.Ytiheecgabfcigaa
