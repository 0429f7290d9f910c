/- The walk of Get of package flo. -/
import Derived.Test.YtiheecgabfcigaaFloRG
namespace Go.Proofs.Ytiheecgabfcigaa
open Go.RowKit Flo

theorem extract_take (s : ByteArray) (n : Nat) : (s.extract 0 n).toList = s.data.toList.take n := by
  rw [ByteArray.toList_eq]; simp
theorem size_list (s : ByteArray) : s.data.toList.length = s.size := by simp

end Go.Proofs.Ytiheecgabfcigaa
