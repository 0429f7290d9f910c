/- The walks of package word and of its reference: names. -/
import Derived.Test.YtafigegbjcbdoaaFloG
import Derived.Test.YtafigegbjcbdoaaNumRG
import Derived.Test.YtafigegbjcbdoaaWord
namespace Go.Proofs.Ytafigegbjcbdoaa
open Go.RowKit Word Num

set_option maxHeartbeats 400000 in
theorem letter_val (c : Nat) (b : Bool) (hb : letN c = b) (w : World) :
    Calls Try.prog 17 #[.int .u8 (c : Int)] w fun e w' => e = .returned (.bool b) ∧ w = w' := by
  have hl : ((decide (97 ≤ c) && decide (c ≤ 122)) || (decide (65 ≤ c) && decide (c ≤ 90)) || decide (c = 95)) = b := hb
  have H := Lib.hid hl
  clear hl hb
  by_cases h1 : 97 ≤ c
  all_goals by_cases h2 : c ≤ 122
  all_goals by_cases h3 : 65 ≤ c
  all_goals by_cases h4 : c ≤ 90
  all_goals first | (exfalso; omega) | skip
  all_goals
    go_enter Try.func17, Try.ntmps17
    go_wp2
    all_goals go_ret
    all_goals refine ⟨ret_bool ?_, rfl⟩
  all_goals rw [← H.out, Bool.eq_iff_iff]
  all_goals simp
  all_goals omega
set_option maxHeartbeats 400000 in
theorem wdigit_val (c : Nat) (b : Bool) (hb : digN c = b) (w : World) :
    Calls Try.prog 19 #[.int .u8 (c : Int)] w fun e w' => e = .returned (.bool b) ∧ w = w' := by
  have hl : (decide (48 ≤ c) && decide (c ≤ 57)) = b := hb
  have H := Lib.hid hl
  clear hl hb
  by_cases h1 : 48 ≤ c
  all_goals by_cases h2 : c ≤ 57
  all_goals first | (exfalso; omega) | skip
  all_goals
    go_enter Try.func19, Try.ntmps19
    go_wp2
    all_goals go_ret
    all_goals refine ⟨ret_bool ?_, rfl⟩
  all_goals rw [← H.out, Bool.eq_iff_iff]
  all_goals simp
  all_goals omega
set_option maxHeartbeats 400000 in
theorem kept_val (s : ByteArray) (b : Bool) (hb : keptL s.data.toList = b) (w : World) :
    Calls Try.prog 18 #[.string s] w fun e w' => e = .returned (.bool b) ∧ w = w' := by
  have e := ByteArray.toList_eq s
  have hl : (s.toList == [110, 117, 108, 108] || s.toList == [105, 110, 116] || s.toList == [102, 108, 111, 97, 116]) = b := by rw [e]; exact hb
  have H := Lib.hid hl
  clear hl hb e
  cases h1 : (s.toList == [110, 117, 108, 108])
  all_goals cases h2 : (s.toList == [105, 110, 116])
  all_goals
    go_enter Try.func18, Try.ntmps18
    go_wp2
    all_goals go_ret
    all_goals refine ⟨ret_bool ?_, rfl⟩
    all_goals rw [← H.out, h1, h2]
  all_goals rfl

theorem u8_lt (c : UInt8) : c.toNat < 256 := c.toNat_lt

set_option maxHeartbeats 1000000 in
/-- the loop of word.Name, of a text that begins with a letter -/
theorem name_loop (s : ByteArray) (w : World) (h1 : 1 ≤ s.size) (h2 : s.size ≤ 16) (h3 : Hid (letN s[0].toNat = true)) (h4 : Hid (keptL s.data.toList = false)) (v : Bool) (hv : nameB s.data.toList = v) :
    Calls Try.prog 9 #[.string s] w fun e w' => e = .returned (.bool v) ∧ w = w' := by
  have hne := ne_empty (s := s) h1
  have hlen := Lib.hid (size_data s)
  have HV := Lib.hid hv
  have hg0 := Lib.hid (getD_atN (s := s) (k := 0) h1)
  clear hv
  go_enter Try.func9, Try.ntmps9
  go_wp2_with (first | ((with_reducible refine (letter_val _ _ h3.out _).mono ?_); rintro e w' ⟨rfl, rfl⟩) | ((with_reducible refine (kept_val _ _ h4.out _).mono ?_); rintro e w' ⟨rfl, rfl⟩))
  go_loop [23] (fun i => ∃ k : Nat, k ≤ s.size ∧ i = .int .i64 (k : Int) ∧ Hid (okAll s.data.toList k = true)) (fun i => s.size - (intOf i).toNat)
  case atStart => exact ⟨0, by omega, rfl, rfl⟩
  case round =>
    obtain ⟨k, hk, rfl, hok⟩ := hrel
    by_cases hlt : k < s.size
    · have hg := Lib.hid (getD_atN hlt)
      have hat : Hid (okAt s.data.toList k = (letN s[k].toNat || digN s[k].toNat)) := by
        show _ = _
        by_cases h0 : k = 0
        · subst h0
          rw [okAt_zero, hg.out, h3.out]; rfl
        · rw [okAt_pos (by omega), hg.out]
      cases hl : letN s[k].toNat
      · cases hd : digN s[k].toNat
        · have HF : Hid (v = false) := by
            show _ = _
            rw [← HV.out]
            exact nameB_bad (by rw [hlen.out]; exact hlt) (by rw [hat.out, hl, hd]; rfl)
          have Hl := Lib.hid hl
          have Hd := Lib.hid hd
          clear hl hd
          go_wp2_with (first | ((with_reducible refine (letter_val _ _ Hl.out _).mono ?_); rintro e w' ⟨rfl, rfl⟩) | ((with_reducible refine (wdigit_val _ _ Hd.out _).mono ?_); rintro e w' ⟨rfl, rfl⟩))
          go_ret
          exact ⟨ret_bool HF.out.symm, rfl⟩
        · have hok' : Hid (okAll s.data.toList (k + 1) = true) := by show _ = _; rw [okAll, hok.out, hat.out, hl, hd]; rfl
          have Hl := Lib.hid hl
          have Hd := Lib.hid hd
          clear hl hd
          go_wp2_with (first | ((with_reducible refine (letter_val _ _ Hl.out _).mono ?_); rintro e w' ⟨rfl, rfl⟩) | ((with_reducible refine (wdigit_val _ _ Hd.out _).mono ?_); rintro e w' ⟨rfl, rfl⟩))
          go_round
          case rel => exact ⟨k + 1, by omega, by go_num, hok'⟩
          case measure => simp [intOf]; omega
      · have hok' : Hid (okAll s.data.toList (k + 1) = true) := by show _ = _; rw [okAll, hok.out, hat.out, hl]; rfl
        have Hl := Lib.hid hl
        clear hl
        go_wp2_with (first | ((with_reducible refine (letter_val _ _ Hl.out _).mono ?_); rintro e w' ⟨rfl, rfl⟩))
        go_round
        case rel => exact ⟨k + 1, by omega, by go_num, hok'⟩
        case measure => simp [intOf]; omega
    · obtain rfl : k = s.size := by omega
      have HT : Hid (v = true) := by
        show _ = _
        rw [← HV.out, nameB_all (by rw [hlen.out]; exact hok.out), hlen.out, h4.out]
        simp [h1, h2]
      go_wp2
      go_ret
      exact ⟨ret_bool HT.out.symm, rfl⟩

set_option maxHeartbeats 400000 in
theorem name_none (s : ByteArray) (w : World) (h : s.toList.isEmpty = true ∨ s.toList.isEmpty = false ∧ (16 < s.size ∨ ¬ 16 < s.size ∧ ∃ hp : 0 < s.size, (letN s[0].toNat = false ∨ letN s[0].toNat = true ∧ keptL s.data.toList = true))) :
    Calls Try.prog 9 #[.string s] w fun e w' => e = .returned (.bool false) ∧ w = w' := by
  rcases h with h | ⟨he, h | ⟨h, hp, hl | ⟨hl, hk⟩⟩⟩
  · go_enter Try.func9, Try.ntmps9
    go_wp2
    go_ret
    exact ⟨rfl, rfl⟩
  · go_enter Try.func9, Try.ntmps9
    go_wp2
    go_ret
    exact ⟨rfl, rfl⟩
  · have Hl := Lib.hid hl
    clear hl
    go_enter Try.func9, Try.ntmps9
    go_wp2_with (first | ((with_reducible refine (letter_val _ _ Hl.out _).mono ?_); rintro e w' ⟨rfl, rfl⟩))
    go_ret
    exact ⟨rfl, rfl⟩
  · have Hl := Lib.hid hl
    have Hk := Lib.hid hk
    clear hl hk
    go_enter Try.func9, Try.ntmps9
    go_wp2_with (first | ((with_reducible refine (letter_val _ _ Hl.out _).mono ?_); rintro e w' ⟨rfl, rfl⟩) | ((with_reducible refine (kept_val _ _ Hk.out _).mono ?_); rintro e w' ⟨rfl, rfl⟩))
    go_ret
    exact ⟨rfl, rfl⟩

theorem name_val (s : ByteArray) (v : Bool) (hv : nameB s.data.toList = v) (w : World) :
    Calls Try.prog 9 #[.string s] w fun e w' => e = .returned (.bool v) ∧ w = w' := by
  have hsz := size_data s
  by_cases h1 : 1 ≤ s.size
  · have hne := ne_empty (s := s) h1
    have hg0 := getD_atN (s := s) (k := 0) h1
    by_cases h2 : s.size ≤ 16
    · cases h3 : letN s[0].toNat
      · have : v = false := by rw [← hv]; exact nameB_bad (k := 0) (by omega) (by rw [okAt_zero, hg0]; exact h3)
        subst this
        exact name_none s w (.inr ⟨hne, .inr ⟨by omega, h1, .inl h3⟩⟩)
      · cases h4 : keptL s.data.toList
        · exact name_loop s w h1 h2 h3 h4 v hv
        · have : v = false := by rw [← hv]; simp [nameB, h4]
          subst this
          exact name_none s w (.inr ⟨hne, .inr ⟨by omega, h1, .inr ⟨h3, h4⟩⟩⟩)
    · have : v = false := by
        rw [← hv]; unfold nameB; rw [hsz]; simp [h2]
      subst this
      exact name_none s w (.inr ⟨hne, .inl (by omega)⟩)
  · have h0 : s.size = 0 := by omega
    have : v = false := by
      rw [← hv]; unfold nameB; rw [hsz]; simp [h0]
    subst this
    refine name_none s w (.inl ?_)
    have : s = ByteArray.empty := by simpa using h0
    rw [this, ByteArray.toList_eq]; rfl

end Go.Proofs.Ytafigegbjcbdoaa
