/- The walks of Get of package flo, and of its reference: the float that a text is. -/
import Derived.Test.YtiheecgabfcigaaFloRP
namespace Go.Proofs.Ytiheecgabfcigaa
open Go.RowKit Flo

def GetIs (l : List UInt8) (e : Ending) : Prop := e = .returned (.tuple #[.int .i64 (getV l).1, .bool (getV l).2])
theorem getIs_no {l : List UInt8} (h : getV l = (0, false)) : GetIs l (.returned (.tuple #[.int .i64 0, .bool false])) := by unfold GetIs; rw [h]
theorem getIs_yes {l : List UInt8} {n : Int} (h : getV l = (n, true)) : GetIs l (.returned (.tuple #[.int .i64 n, .bool true])) := by unfold GetIs; rw [h]
theorem getV_long {l : List UInt8} (h : l.length ≠ 18) : getV l = (0, false) := by simp [getV, h]

end Go.Proofs.Ytiheecgabfcigaa
