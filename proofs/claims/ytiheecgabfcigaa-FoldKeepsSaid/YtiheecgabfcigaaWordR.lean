/- The walks of the reference of words: names. -/
import Derived.Test.YtiheecgabfcigaaWordW
namespace Go.Proofs.Ytiheecgabfcigaa
open Go.RowKit Word Num

theorem okAt_at {s : ByteArray} {k : Nat} (h : k < s.size) {c : Nat} (hc : s[k].toNat = c) : okAt s.data.toList k = ((decide (48 ≤ c) && decide (c ≤ 57) && decide (0 < k)) || ((decide (97 ≤ c) && decide (c ≤ 122)) || (decide (65 ≤ c) && decide (c ≤ 90)) || decide (c = 95))) := by
  unfold okAt digN letN
  rw [getD_atN h, hc]

set_option maxRecDepth 100000 in
set_option maxHeartbeats 2000000 in
theorem rname_val (s : ByteArray) (v : Bool) (hv : nameB s.data.toList = v) (hsz : s.size ≤ 9223372036854775807) (w : World) :
    Calls Try.prog 14 #[.string s] w fun e w' => e = .returned (.bool v) ∧ w = w' := by
  have hlen := Lib.hid (size_data s)
  have HV := Lib.hid hv
  clear hv
  go_enter Try.func14, Try.ntmps14
  go_wp2
  go_loop [3] (fun i => ∃ k : Nat, k ≤ s.size ∧ i = .int .i64 (k : Int) ∧ Hid (okAll s.data.toList k = true)) (fun i => s.size - (intOf i).toNat)
  case atStart => exact ⟨0, by omega, rfl, rfl⟩
  case round =>
    obtain ⟨k, hk, rfl, hok⟩ := hrel
    by_cases hlt : k < s.size
    · have hcase : (s[k].toNat < 48 ∨ (48 ≤ s[k].toNat ∧ s[k].toNat ≤ 57 ∧ k = 0) ∨ (57 < s[k].toNat ∧ s[k].toNat < 65) ∨ (90 < s[k].toNat ∧ s[k].toNat < 95) ∨ (95 < s[k].toNat ∧ s[k].toNat < 97) ∨ 122 < s[k].toNat) ∨
          ((48 ≤ s[k].toNat ∧ s[k].toNat ≤ 57 ∧ 0 < k) ∨ (65 ≤ s[k].toNat ∧ s[k].toNat ≤ 90) ∨ s[k].toNat = 95 ∨ (97 ≤ s[k].toNat ∧ s[k].toNat ≤ 122)) := by omega
      have hat := okAt_at hlt rfl
      rcases hcase with hc | hc
      · have HF : Hid (v = false) := by
          show _ = _
          rw [← HV.out]
          refine nameB_bad (by rw [hlen.out]; exact hlt) ?_
          rw [hat]
          simp
          omega
        clear hat
        have hn95 : ((s[k].toNat : Int) != 95) = true := by rw [bne_iff_ne]; omega
        rcases hc with hc | ⟨h1, h2, rfl⟩ | ⟨h1, h2⟩ | ⟨h1, h2⟩ | ⟨h1, h2⟩ | hc
        all_goals
          go_wp2
          go_ret
          exact ⟨ret_bool HF.out.symm, rfl⟩
      · have hok' : Hid (okAll s.data.toList (k + 1) = true) := by
          show _ = _
          rw [okAll, hok.out, hat]
          simp
          omega
        clear hat
        have hn95 : ((s[k].toNat : Int) != 95) = true ∨ ((s[k].toNat : Int) != 95) = false := by cases ((s[k].toNat : Int) != 95) <;> simp
        rcases hn95 with hn95 | hn95
        · rcases hc with ⟨h1, h2, h3⟩ | ⟨h1, h2⟩ | h1 | ⟨h1, h2⟩
          all_goals first | (exfalso; rw [bne_iff_ne] at hn95; omega) | skip
          all_goals
            go_wp2
            go_round
            case rel => exact ⟨k + 1, by omega, by go_num, hok'⟩
            case measure => simp [intOf]; omega
        · have h1 : s[k].toNat = 95 := by rw [bne_eq_false_iff_eq] at hn95; omega
          have h2 : 57 < s[k].toNat := by omega
          clear hc h1
          go_wp2
          go_round
          case rel => exact ⟨k + 1, by omega, by go_num, hok'⟩
          case measure => simp [intOf]; omega
    · obtain rfl : k = s.size := by omega
      have hk := ByteArray.toList_eq s
      have HT : Hid (v = (decide (1 ≤ s.size) && decide (s.size ≤ 16) && !(s.toList == [110, 117, 108, 108] || s.toList == [105, 110, 116] || s.toList == [102, 108, 111, 97, 116]))) := by
        show _ = _
        rw [← HV.out, nameB_all (by rw [hlen.out]; exact hok.out), hlen.out, hk]; rfl
      clear hk
      by_cases h1 : 1 ≤ s.size
      all_goals by_cases h2 : s.size ≤ 16
      all_goals first | (exfalso; omega) | skip
      all_goals cases h3 : (s.toList == [110, 117, 108, 108])
      all_goals cases h4 : (s.toList == [105, 110, 116])
      all_goals
        go_wp2
        all_goals go_ret
        all_goals refine ⟨ret_bool ?_, rfl⟩
        all_goals rw [HT.out, h3, h4]
      all_goals by_cases q1 : 1 ≤ s.size <;> by_cases q2 : s.size ≤ 16 <;> first | (exfalso; omega) | (simp [q1, q2]; done)

end Go.Proofs.Ytiheecgabfcigaa
