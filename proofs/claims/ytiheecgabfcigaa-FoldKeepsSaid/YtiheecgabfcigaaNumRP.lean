/- The walk of Put of the reference of numbers: a number's text. -/
import Derived.Test.YtiheecgabfcigaaNumP
namespace Go.Proofs.Ytiheecgabfcigaa
open Go.RowKit Num

theorem Try.infoU8n : (Try.prog.info? 5).map (fun i => (i.zero, i.size, i.bytes)) = some (some (.int .u8 0), 1, 1) := by kernel_rfl

theorem own_one_byte (w : World) (d : UInt8) (n : Int) (hn : n = (d.toNat : Int)) : (w.alloc (.cells #[.int .u8 n] 5)).ownsRow w.heap.size 5 1 (.slice (some ⟨w.heap.size, 0, none⟩) 1 1) 1 [byteV d] := by
  subst hn
  exact ⟨rfl, .inr ⟨w.heap.size, 1, _, rfl, Nat.le_refl _, heap_alloc_new w _, by omega, by unfold maxLen; omega, rfl, rfl⟩⟩
theorem own_lower {w : World} {b b' : Nat} {e : TypeId} {size : Nat} {v : Value} {n : Nat} {xs : List Value} (h : b ≤ b') (ho : w.ownsRow b' e size v n xs) : w.ownsRow b e size v n xs := by
  refine ⟨ho.1, ?_⟩
  rcases ho.2 with h1 | ⟨g, cap, cur, h1, h2, h3⟩
  · exact .inl h1
  · exact .inr ⟨g, cap, cur, h1, by omega, h3⟩

set_option maxHeartbeats 400000 in
theorem size_any (n : Int) (hn : Hid (-9223372036854775808 ≤ n ∧ n ≤ 9223372036854775807)) (w : World) :
    Calls Try.prog 43 #[.int .i64 n] w fun e w' => e = .returned (.int .u64 (n.natAbs : Int)) ∧ w = w' := by
  by_cases h : n < 0
  · have H : Hid (IntKind.u64.wrap (-(IntKind.u64.wrap n)) = (n.natAbs : Int)) := by
      show _ = _
      have := hn.out
      rw [IntKind.wrap_u64, IntKind.wrap_u64]; omega
    go_enter Try.func43, Try.ntmps43
    go_wp2
    go_ret
    exact ⟨ret_int H.out, rfl⟩
  · have H : Hid (IntKind.u64.wrap n = (n.natAbs : Int)) := by
      show _ = _
      have := hn.out
      rw [IntKind.wrap_u64]; omega
    go_enter Try.func43, Try.ntmps43
    go_wp2
    go_ret
    exact ⟨ret_int H.out, rfl⟩

end Go.Proofs.Ytiheecgabfcigaa
