/- The walks of package word and of its reference: names. -/
import Derived.Test.YtiheecgabfcigaaFloG
import Derived.Test.YtiheecgabfcigaaNumRG
import Derived.Test.YtiheecgabfcigaaWord
namespace Go.Proofs.Ytiheecgabfcigaa
open Go.RowKit Word Num

theorem u8_lt (c : UInt8) : c.toNat < 256 := c.toNat_lt

end Go.Proofs.Ytiheecgabfcigaa
