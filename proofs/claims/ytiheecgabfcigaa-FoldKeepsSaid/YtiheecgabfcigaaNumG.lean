/- The walks of Get of package num, and of its reference: the number that a text is. -/
import Derived.Test.YtiheecgabfcigaaNumRP
namespace Go.Proofs.Ytiheecgabfcigaa
open Go.RowKit Num

def NGetIs (l : List UInt8) (e : Ending) : Prop := e = .returned (.tuple #[.int .i64 (getN l).1, .bool (getN l).2])
theorem ngetIs_no {l : List UInt8} (h : getN l = (0, false)) : NGetIs l (.returned (.tuple #[.int .i64 0, .bool false])) := by unfold NGetIs; rw [h]
theorem ngetIs_yes {l : List UInt8} {n : Int} (h : getN l = (n, true)) : NGetIs l (.returned (.tuple #[.int .i64 n, .bool true])) := by unfold NGetIs; rw [h]

end Go.Proofs.Ytiheecgabfcigaa
