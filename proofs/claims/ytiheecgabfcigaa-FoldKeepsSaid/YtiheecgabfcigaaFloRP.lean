/- The walk of Put of the reference of floats: a float's text. -/
import Derived.Test.YtiheecgabfcigaaFloP
namespace Go.Proofs.Ytiheecgabfcigaa
open Go.RowKit Flo

theorem own_one (w : World) (d : UInt8) (n : Int) (hn : n = (d.toNat : Int)) : (w.alloc (.cells #[.int .u8 n] 5)).ownsRow w.heap.size 5 1 (.slice (some ⟨w.heap.size, 0, none⟩) 1 1) 1 [byteV d] := by
  subst hn
  exact ⟨rfl, .inr ⟨w.heap.size, 1, _, rfl, Nat.le_refl _, heap_alloc_new w _, by omega, by unfold maxLen; omega, rfl, rfl⟩⟩

theorem own_base {w : World} {b b' : Nat} {e : TypeId} {size : Nat} {v : Value} {n : Nat} {xs : List Value} (h : b ≤ b') (ho : w.ownsRow b' e size v n xs) : w.ownsRow b e size v n xs := by
  refine ⟨ho.1, ?_⟩
  rcases ho.2 with h1 | ⟨g, cap, cur, h1, h2, h3⟩
  · exact .inl h1
  · exact .inr ⟨g, cap, cur, h1, by omega, h3⟩

end Go.Proofs.Ytiheecgabfcigaa
