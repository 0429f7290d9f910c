/- The walks of package word on arguments: whether one is right; its word. -/
import Derived.Test.YtiheecgabfcigaaWordR
import Derived.Deep.QuietTactic
import Derived.BigQuiet
import Derived.Test.YtiheecgabfcigaaLift
namespace Go.Proofs.Ytiheecgabfcigaa
open Go.RowKit Word Num Flo

theorem plain_quiet (n m : Int) (h : plainV n = m) (w : World) :
    Calls Try.prog 54 #[.int .i64 n] w fun e w' => e = .returned (.int .i64 m) ∧ w' = w := by
  have := plain_any n w
  rw [h] at this
  exact this.mono fun _ _ ⟨a, b⟩ => ⟨a, b.symm⟩

end Go.Proofs.Ytiheecgabfcigaa
