/- The walk of Get of the reference of numbers. -/
import Derived.Test.YtafigegbjcbdoaaNumG
namespace Go.Proofs.Ytafigegbjcbdoaa
open Go.RowKit Num

set_option maxHeartbeats 400000 in
theorem half_any (n : Int) (w : World) :
    Calls Try.prog 31 #[.int .u64 n] w fun e w' => e = .returned (.int .i64 (wrap64 n)) ∧ w = w' := by
  go_enter Try.func31, Try.ntmps31
  go_wp2
  go_ret
  exact ⟨rfl, rfl⟩

theorem u64_step (a : Int) (c : Nat) : IntKind.u64.wrap (IntKind.u64.wrap (IntKind.u64.wrap (IntKind.u64.wrap a * 10) + IntKind.u64.wrap (c : Int)) - 48) = IntKind.u64.wrap (a * 10 + (c : Int) - 48) := by
  simp only [IntKind.wrap_u64]; omega
theorem wrap_u64_neg (a : Int) : wrap64 (IntKind.u64.wrap (-(IntKind.u64.wrap a))) = wrap64 (-a) := by
  simp only [IntKind.wrap_u64]; unfold wrap64; omega
theorem wrap_u64_pos (a : Int) : wrap64 (IntKind.u64.wrap a) = wrap64 a := by
  simp only [IntKind.wrap_u64]; unfold wrap64; omega
theorem u64_zero : (0 : Int) = IntKind.u64.wrap 0 := by simp [IntKind.wrap_u64]

set_option maxHeartbeats 1000000 in
theorem nrget_some (s : ByteArray) (w : World) (hsz : s.size ≤ 9223372036854775807) (h1 : 1 ≤ s.size) :
    Calls Try.prog 22 #[.string s] w fun e w' => NGetIs s.data.toList e ∧ Below w.heap.size w w' := by
  have hg0 := Lib.hid (getD_atN (s := s) (k := 0) h1)
  have Hl := Lib.hid (size_data s)
  go_enter Try.func22, Try.ntmps22
  go_wp2
  go_loop [4, 5] (fun n i => ∃ (k : Nat) (x : Int), k ≤ s.size ∧ k ≤ 30 ∧ i = .int .i64 (k : Int) ∧ n = .int .u64 x ∧ Hid (x = IntKind.u64.wrap (accI s.data.toList k))) (fun _ i => 30 - (intOf i).toNat)
  case atStart => exact ⟨0, 0, by omega, by omega, rfl, rfl, u64_zero⟩
  case round =>
    obtain ⟨k, x, hk1, hk2, rfl, rfl, hx⟩ := hrel
    by_cases hlt : k < s.size ∧ k < 30
    · obtain ⟨hlt1, hlt2⟩ := hlt
      have hg := Lib.hid (getD_atN hlt1)
      by_cases hsk : k = 0 ∧ s[0].toNat = 45
      · obtain ⟨rfl, hc⟩ := hsk
        have hc' : ((s[0].toNat : Int) == 45) = true := by rw [beq_iff_eq]; omega
        have HS : Hid (x = IntKind.u64.wrap (accI s.data.toList 1)) := by
          show _ = _
          rw [hx.out, accI_skip (by rw [hg0.out]; exact UInt8.toNat_inj.1 hc)]; rfl
        clear hc
        go_wp2
        go_round
        case rel => exact ⟨1, x, by omega, by omega, by go_num, rfl, HS⟩
        case measure => simp [intOf]
      · have hst := accI_step (l := s.data.toList) (k := k) (by
          by_cases h0 : k = 0
          · right; rw [hg0.out]; intro e; exact hsk ⟨h0, by rw [e]; rfl⟩
          · left; omega)
        have HS : Hid (IntKind.u64.wrap (IntKind.u64.wrap (IntKind.u64.wrap (x * 10) + IntKind.u64.wrap (s[k].toNat : Int)) - 48) = IntKind.u64.wrap (accI s.data.toList (k + 1))) := by
          show _ = _
          rw [hx.out, u64_step, hst, hg.out]
        clear hst
        by_cases h0 : k = 0
        · have hc' : ((s[0].toNat : Int) == 45) = false := by rw [beq_eq_false_iff_ne]; intro e; exact hsk ⟨h0, by omega⟩
          subst h0
          clear hsk
          go_wp2
          go_round
          case rel => exact ⟨1, _, by omega, by omega, by go_num, rfl, HS.out⟩
          case measure => simp [intOf]
        · have h0' : ((k : Int) == 0) = false := by rw [beq_eq_false_iff_ne]; omega
          clear hsk
          go_wp2
          go_round
          case rel => exact ⟨k + 1, _, by omega, by omega, by go_num, rfl, HS.out⟩
          case measure => simp [intOf]; omega
    · have hmin : min s.data.toList.length 30 = k := by rw [Hl.out]; omega
      obtain ⟨V, hV⟩ : ∃ V, V = valN s.data.toList := ⟨_, rfl⟩
      have hvr : Hid (-9223372036854775808 ≤ V ∧ V ≤ 9223372036854775807) := by rw [hV]; exact wrap64_range _
      have H1 := Lib.hid (@getN_no s V hV)
      have H2 := Lib.hid (@getN_yes s V hV)
      have hd : ¬ (k < s.size) ∨ (k < s.size ∧ ¬ k < 30) := by omega
      have hpos : 0 < s.size := by omega
      by_cases hc : s[0].toNat = 45
      · have hc' : ((s[0].toNat : Int) == 45) = true := by rw [beq_iff_eq]; omega
        have he : wrap64 (IntKind.u64.wrap (-x)) = V := by
          rw [hV, hx.out, wrap_u64_neg]
          unfold valN
          rw [if_pos (by rw [hg0.out]; exact UInt8.toNat_inj.1 hc), hmin]
        clear hV hmin hc hlt
        rcases hd with hd | ⟨hd1, hd2⟩
        all_goals
          go_wp2_with (first | ((with_reducible refine (half_any _ _).mono ?_); rintro e w' ⟨rfl, rfl⟩) | ((with_reducible refine (nrput_any _ hvr _).mono ?_); rintro e w' ⟨rfl, hb⟩))
          · go_ret2
            exact ⟨ngetIs_no (H1.out (by assumption)), hb⟩
          · go_ret2
            exact ⟨ngetIs_yes (H2.out (by assumption)), hb⟩
      · have hc' : ((s[0].toNat : Int) == 45) = false := by rw [beq_eq_false_iff_ne]; omega
        have he : wrap64 x = V := by
          rw [hV, hx.out, wrap_u64_pos]
          unfold valN
          rw [if_neg (by rw [hg0.out]; intro e; rw [e] at hc; exact hc rfl), hmin]
        clear hV hmin hc hlt
        rcases hd with hd | ⟨hd1, hd2⟩
        all_goals
          go_wp2_with (first | ((with_reducible refine (half_any _ _).mono ?_); rintro e w' ⟨rfl, rfl⟩) | ((with_reducible refine (nrput_any _ hvr _).mono ?_); rintro e w' ⟨rfl, hb⟩))
          · go_ret2
            exact ⟨ngetIs_no (H1.out (by assumption)), hb⟩
          · go_ret2
            exact ⟨ngetIs_yes (H2.out (by assumption)), hb⟩

end Go.Proofs.Ytafigegbjcbdoaa
