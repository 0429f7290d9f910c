/- The walk of Put of the reference of floats: a float's text. -/
import Derived.Test.YtafigegbjcbdoaaFloP
namespace Go.Proofs.Ytafigegbjcbdoaa
open Go.RowKit Flo

theorem own_one (w : World) (d : UInt8) (n : Int) (hn : n = (d.toNat : Int)) : (w.alloc (.cells #[.int .u8 n] 5)).ownsRow w.heap.size 5 1 (.slice (some ⟨w.heap.size, 0, none⟩) 1 1) 1 [byteV d] := by
  subst hn
  exact ⟨rfl, .inr ⟨w.heap.size, 1, _, rfl, Nat.le_refl _, heap_alloc_new w _, by omega, by unfold maxLen; omega, rfl, rfl⟩⟩

theorem own_base {w : World} {b b' : Nat} {e : TypeId} {size : Nat} {v : Value} {n : Nat} {xs : List Value} (h : b ≤ b') (ho : w.ownsRow b' e size v n xs) : w.ownsRow b e size v n xs := by
  refine ⟨ho.1, ?_⟩
  rcases ho.2 with h1 | ⟨g, cap, cur, h1, h2, h3⟩
  · exact .inl h1
  · exact .inr ⟨g, cap, cur, h1, by omega, h3⟩

set_option maxHeartbeats 1000000 in
theorem rput_any (n : Int) (w : World) :
    Calls Try.prog 29 #[.int .i64 n] w fun e w' => e = .returned (.string ⟨(hexText (pb n)).toArray⟩) ∧ Below w.heap.size w w' := by
  obtain ⟨i0, hi, hz0, hz1, hz2⟩ := info_parts Try.infoU8
  have hu : IntKind.u64.wrap (plainV n) = ((pb n : Nat) : Int) := by rw [IntKind.wrap_u64]; unfold pb u64; omega
  go_enter Try.func29, Try.ntmps29
  go_wp2_with ((with_reducible refine (rplain_any ..).mono ?_); rintro e w' ⟨rfl, rfl⟩)
  go_loopw [3, 4, 5, 6] (fun u v i _ wr => ∃ k x : Nat, k ≤ 16 ∧ i = .int .i64 (k : Int) ∧ u = .int .u64 (x : Int) ∧ Hid (x = pb n / 16 ^ k) ∧ wr.ownsRow w.heap.size 5 1 v k ((hexEnd (pb n) k).map byteV) ∧ Below w.heap.size w wr) (fun _ _ i _ _ => 16 - (intOf i).toNat)
  case atStart => exact ⟨0, pb n, by omega, rfl, rfl, by rw [Nat.pow_zero, Nat.div_one]; rfl, World.ownsRow_nil _ _ _ _, Below.refl _ _⟩
  case round =>
    obtain ⟨k, x, hk, rfl, rfl, hx, hown, hb⟩ := hrel
    by_cases hlt : k < 16
    · obtain ⟨d, hdd⟩ : ∃ d, d = x % 16 := ⟨_, rfl⟩
      have hdl : d < 16 := by omega
      have hd : ((x : Int) % 16) = (d : Int) := by omega
      have Hd : Hid (d = pb n / 16 ^ k % 16) := by show _ = _; rw [hdd, hx.out]
      have Hx : Hid (x / 16 = pb n / 16 ^ (k + 1)) := by show _ = _; rw [hx.out, Nat.div_div_eq_div_mul, Nat.pow_succ]
      have Hw : Hid (IntKind.u64.wrap ((x : Int) / 16) = ((x / 16 : Nat) : Int)) := by
        show _ = _
        have h1 := pb_lt n
        have h2 : x ≤ pb n := by rw [hx.out]; exact Nat.div_le_self _ _
        rw [IntKind.wrap_u64]; omega
      clear hdd
      have hlo := Lib.hid (@hexd_lo d)
      have hhi := Lib.hid (@hexd_hi d)
      by_cases h0 : d < 10
      all_goals
        have o1 := own_one (n := if d < 10 then (d : Int) + 48 else (d : Int) + 87) wr (hexd d) (by first | (rw [if_pos h0]; exact (hlo.out h0).symm) | (rw [if_neg h0]; exact (hhi.out h0 hdl).symm))
        first | rw [if_pos h0] at o1 | rw [if_neg h0] at o1
        go_wp2_with (at_builtin; refine wpList_append_own_own rfl (.tmp 24) (.tmp 25) 43 rfl wr.heap.size 5 i0 (.int .u8 0) 1 1 Try.underlying43 hi hz0 hz1 hz2 rfl (by decide) _ _ _ rfl o1 w.heap.size _ k _ rfl (hown.alloc _) (bytes_oneCell _) (by unfold maxLen; omega) (by omega) (by simp) ?_; intro v' w1 hown' hgrow)
        have hb' : Below w.heap.size w w1 := (hb.alloc hb.size _).grown hgrow (by have := hb.size; simp; omega) (fun k hk => Nat.le_trans hb.size (o1.lt k hk).1)
        have hown2 : w1.ownsRow w.heap.size 5 1 v' (k + 1) ((hexEnd (pb n) (k + 1)).map byteV) := by
          rw [hexEnd, ← Hd.out, List.map_cons, Nat.add_comm k 1]; exact own_base hb.size hown'
        clear hown' hgrow hown hb o1
        go_wp2
        go_roundw
        case rel => exact ⟨k + 1, x / 16, by omega, by go_num, congrArg (Value.int .u64) Hw.out, Hx, hown2, hb'⟩
        case measure => simp [intOf]; omega
    · obtain rfl : k = 16 := by omega
      have hrun := run_string_own (P := Try.prog) (dst := 9) Try.underlying43 Try.underlying5 Try.underlying9 hown
      have hadd := run_string_add_lists (P := Try.prog) wr [48, 102] (hexEnd (pb n) 16) (by decide) (by rw [hexEnd_length]; decide)
      rw [hexEnd_text] at hadd
      go_wp2
      go_ret
      exact ⟨rfl, hb⟩

end Go.Proofs.Ytafigegbjcbdoaa
