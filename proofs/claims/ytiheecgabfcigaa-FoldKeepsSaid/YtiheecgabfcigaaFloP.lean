/- The walk of Put of package flo: a float's text. -/
import Derived.Test.YtiheecgabfcigaaFloW
namespace Go.Proofs.Ytiheecgabfcigaa
open Go.RowKit Flo

theorem Try.infoU8 : (Try.prog.info? 5).map (fun i => (i.zero, i.size, i.bytes)) = some (some (.int .u8 0), 1, 1) := by kernel_rfl

theorem own_two (w : World) (u : Nat) : (w.alloc (.cells #[.int .u8 48, .int .u8 102] 5)).ownsRow w.heap.size 5 1 (.slice (some ⟨w.heap.size, 0, none⟩) 2 2) (2 + 0) ((hexTo u 0).map byteV) :=
  ⟨rfl, .inr ⟨w.heap.size, 2, _, rfl, Nat.le_refl _, heap_alloc_new w _, by omega, by unfold maxLen; omega, rfl, rfl⟩⟩

end Go.Proofs.Ytiheecgabfcigaa
