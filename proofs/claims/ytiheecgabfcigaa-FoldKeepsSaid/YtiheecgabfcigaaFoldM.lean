/- FoldKeeps: the comparison of two rows of strings. -/
import Derived.Test.YtiheecgabfcigaaFoldK
namespace Go.Proofs.Ytiheecgabfcigaa
open Go.RowKit

theorem StrIn.drew {w : World} {pa : Option Addr} {l : Nat} {ss : Nat → ByteArray} (h : StrIn w pa l ss) : StrIn w.drew pa l ss :=
  { at' := fun hl => by
      obtain ⟨B, o, e, hB, hc⟩ := h.at' hl
      exact ⟨B, o, e, hB, fun i hi => hc i hi⟩ }

set_option maxHeartbeats 1000000 in
theorem same_val (pa pb : Option Addr) (l ca cb : Nat) (ss : Nat → ByteArray) (hl : l ≤ 100) (w : World) (ha : StrIn w pa l ss) (hb : StrIn w pb l ss) :
    Calls Try.prog 13 #[.slice pa l ca, .slice pb l cb] w fun e w' => e = .returned (.bool true) ∧ Below w.heap.size w w' := by
  have H1 : ∀ w1, Below w.heap.size w w1 → StrIn w1 pa l ss := fun w1 hb => ha.below hb
  have H2 : ∀ w1, Below w.heap.size w w1 → StrIn w1 pb l ss := fun w1 hb' => hb.below hb'
  clear ha hb
  go_enter Try.func13, Try.ntmps13
  go_wp2
  go_loopw [5] (fun i wr => ∃ q : Nat, q ≤ l ∧ i = .int .i64 (q : Int) ∧ Below w.heap.size w wr) (fun i _ => l - (intOf i).toNat)
  case atStart => exact ⟨0, Nat.zero_le _, rfl, Below.refl _ _⟩
  case round =>
    obtain ⟨q, hq, rfl, hB⟩ := hrel
    by_cases hql : q < l
    · obtain ⟨B, o, rfl, hlt, hc⟩ := (H1 wr hB).at' (by omega)
      obtain ⟨B2, o2, rfl, hlt2, hc2⟩ := (H2 wr hB).at' (by omega)
      have F : ∀ w1, Below wr.heap.size wr w1 → w1.cell? ⟨B, o + q, none⟩ = some (.string (ss q)) ∧ w1.cell? ⟨B2, o2 + q, none⟩ = some (.string (ss q)) := fun w1 hb => ⟨by rw [hb.cell hlt]; exact hc q hql, by rw [hb.cell hlt2]; exact hc2 q hql⟩
      clear hc hc2 H1 H2
      go_wp2
      refine wp_region_ser (S := fun _ w1 => Below wr.heap.size wr w1) rfl (by kernel_rfl) (Below.refl _ _).drew ?_
      repeat (first | ((refine Ser.step (a1 := ?_) rfl (fun L w1 K' Q' hS hi hR hd hK => ?_) ?_ ?_; rotate_left); (· ((skip); go_simp; (try simp only [Act.put, List.setIfInBounds_toArray, List.set_cons_zero, List.set_cons_succ]); exact hK.out _ (hS))); (· rfl)) | ((refine Ser.step (a1 := ?_) rfl (fun L w1 K' Q' hS hi hR hd hK => ?_) ?_ ?_; rotate_left); (· ((obtain ⟨g1, g2⟩ := F _ hS); go_simp; (try simp only [Act.put, List.setIfInBounds_toArray, List.set_cons_zero, List.set_cons_succ]); exact hK.out _ (hS))); (· rfl)))
      refine Ser.nil fun w1 hS => ?_
      have hB1 := bthen' hB hS
      go_wp2
      go_roundw
      case rel => exact ⟨q + 1, by omega, by go_num, hB1⟩
      case measure => simp [intOf]; omega
    · obtain rfl : q = l := by omega
      go_wp2
      go_ret
      exact ⟨rfl, hB⟩
end Go.Proofs.Ytiheecgabfcigaa
