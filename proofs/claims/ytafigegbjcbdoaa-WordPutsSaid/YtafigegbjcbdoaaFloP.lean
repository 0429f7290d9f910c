/- The walk of Put of package flo: a float's text. -/
import Derived.Test.YtafigegbjcbdoaaFloW
namespace Go.Proofs.Ytafigegbjcbdoaa
open Go.RowKit Flo

theorem Try.infoU8 : (Try.prog.info? 5).map (fun i => (i.zero, i.size, i.bytes)) = some (some (.int .u8 0), 1, 1) := by kernel_rfl

theorem own_two (w : World) (u : Nat) : (w.alloc (.cells #[.int .u8 48, .int .u8 102] 5)).ownsRow w.heap.size 5 1 (.slice (some ⟨w.heap.size, 0, none⟩) 2 2) (2 + 0) ((hexTo u 0).map byteV) :=
  ⟨rfl, .inr ⟨w.heap.size, 2, _, rfl, Nat.le_refl _, heap_alloc_new w _, by omega, by unfold maxLen; omega, rfl, rfl⟩⟩

set_option maxHeartbeats 400000 in
theorem put_any (n : Int) (w : World) :
    Calls Try.prog 27 #[.int .i64 n] w fun e w' => e = .returned (.string ⟨(hexText (pb n)).toArray⟩) ∧ Below w.heap.size w w' := by
  obtain ⟨i0, hi, hz0, hz1, hz2⟩ := info_parts Try.infoU8
  have hu : IntKind.u64.wrap (plainV n) = ((pb n : Nat) : Int) := by rw [IntKind.wrap_u64]; unfold pb u64; omega
  go_enter Try.func27, Try.ntmps27
  go_wp2_with ((with_reducible refine (plain_any ..).mono ?_); rintro e w' ⟨rfl, rfl⟩)
  go_loopw [4, 5] (fun v i wr => ∃ k : Nat, k ≤ 16 ∧ i = .int .i64 (60 - 4 * (k : Int)) ∧ wr.ownsRow w.heap.size 5 1 v (2 + k) ((hexTo (pb n) k).map byteV) ∧ Below w.heap.size w wr) (fun _ i _ => (intOf i + 4).toNat)
  case atStart => exact ⟨0, by omega, by go_num, own_two w _, (Below.refl _ _).alloc (Nat.le_refl _) _⟩
  case round =>
    obtain ⟨k, hk, rfl, hown, hb⟩ := hrel
    by_cases hlt : k < 16
    · have hd := nib_eq (pb n) k (pb_lt n) hlt
      obtain ⟨d, hdd⟩ : ∃ d, d = pb n / 16 ^ (15 - k) % 16 := ⟨_, rfl⟩
      have hdl : d < 16 := by rw [hdd]; exact Nat.mod_lt _ (by omega)
      rw [← hdd] at hd
      have Hd := Lib.hid hdd
      clear hdd
      have Hv := Lib.hid (hexStr_val d hdl)
      go_wp2_with (at_builtin; refine wpList_append_own _ rfl (.tmp 14) (.tmp 21) 43 rfl w.heap.size 5 i0 (.int .u8 0) 1 1 Try.underlying43 hi hz0 hz1 hz2 rfl (by decide) _ _ _ rfl (hown.alloc _) ⟨wr.heap.size, 0, none⟩ 1 1 [byteV (hexd d)] rfl rfl ?c1 ?c2 ?c3 ?c4 ?c5 ?_)
      case c1 =>
        intro j u hj
        match j, hj with
        | 0, hj => simp at hj; subst hj; simp [Addr.add]; exact Hv.out _
      case c2 => intro u hu; simp at hu; subst hu; rfl
      case c3 => unfold maxLen; omega
      case c4 => omega
      case c5 => have := hb.size; simp; omega
      intro v' w1 hown' hgrow _
      have hb' : Below w.heap.size w w1 := (hb.alloc hb.size _).grown hgrow (by have := hb.size; simp; omega) (fun k hk => (hown.lt k hk).1)
      have hown2 : w1.ownsRow w.heap.size 5 1 v' (2 + (k + 1)) ((hexTo (pb n) (k + 1)).map byteV) := by
        rw [hexTo_succ, List.map_append, ← Hd.out]; exact hown'
      clear hown' hgrow hown hb
      go_wp2
      go_roundw
      case rel => exact ⟨k + 1, by omega, by go_num, hown2, hb'⟩
      case measure => simp [intOf]; omega
    · obtain rfl : k = 16 := by omega
      have hrun := run_string_own (P := Try.prog) (dst := 9) Try.underlying43 Try.underlying5 Try.underlying9 hown
      go_wp2
      go_ret
      exact ⟨rfl, hb⟩

end Go.Proofs.Ytafigegbjcbdoaa
