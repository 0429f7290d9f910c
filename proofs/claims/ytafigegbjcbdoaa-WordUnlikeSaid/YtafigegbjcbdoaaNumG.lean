/- The walks of Get of package num, and of its reference: the number that a text is. -/
import Derived.Test.YtafigegbjcbdoaaNumRP
namespace Go.Proofs.Ytafigegbjcbdoaa
open Go.RowKit Num

def NGetIs (l : List UInt8) (e : Ending) : Prop := e = .returned (.tuple #[.int .i64 (getN l).1, .bool (getN l).2])
theorem ngetIs_no {l : List UInt8} (h : getN l = (0, false)) : NGetIs l (.returned (.tuple #[.int .i64 0, .bool false])) := by unfold NGetIs; rw [h]
theorem ngetIs_yes {l : List UInt8} {n : Int} (h : getN l = (n, true)) : NGetIs l (.returned (.tuple #[.int .i64 n, .bool true])) := by unfold NGetIs; rw [h]

set_option maxHeartbeats 400000 in
theorem nget_empty (w : World) :
    Calls Try.prog 20 #[.string ByteArray.empty] w fun e w' => NGetIs [] e ∧ Below w.heap.size w w' := by
  have H := Lib.hid (getN_size (l := []) (.inl rfl))
  go_enter Try.func20, Try.ntmps20
  go_wp2
  go_ret2
  exact ⟨ngetIs_no H.out, Below.refl _ _⟩

set_option maxHeartbeats 400000 in
theorem nget_long (s : ByteArray) (w : World) (h : 20 < s.size) :
    Calls Try.prog 20 #[.string s] w fun e w' => NGetIs s.data.toList e ∧ Below w.heap.size w w' := by
  have H := Lib.hid (getN_size (l := s.data.toList) (.inr (by simpa using h)))
  have hne := ne_empty (s := s) (by omega)
  go_enter Try.func20, Try.ntmps20
  go_wp2
  go_ret2
  exact ⟨ngetIs_no H.out, Below.refl _ _⟩

set_option maxHeartbeats 1000000 in
theorem nget_mid (s : ByteArray) (w : World) (h1 : 1 ≤ s.size) (h2 : s.size ≤ 20) (f : Nat) (hf : f = 1 ∧ (s[0].toNat = 45) ∨ f = 0 ∧ (s[0].toNat ≠ 45)) :
    Calls Try.prog 20 #[.string s] w fun e w' => NGetIs s.data.toList e ∧ Below w.heap.size w w' := by
  have hne := ne_empty (s := s) h1
  have hg0 := getD_atN (s := s) (k := 0) h1
  have hl := size_data s
  have hhead : Hid (∀ i, f ≤ i → 1 ≤ i ∨ s.data.toList.getD 0 0 ≠ 45) := by
    intro i hi
    rcases hf with ⟨rfl, _⟩ | ⟨rfl, h⟩
    · exact .inl hi
    · right; rw [hg0]; intro e; rw [e] at h; exact h rfl
  have Hl := Lib.hid hl
  have hnl : ¬ 20 < s.size := by omega
  have hstart : Hid (accI s.data.toList f = 0) := by
    rcases hf with ⟨rfl, h⟩ | ⟨rfl, h⟩
    · exact accI_skip (by rw [hg0]; exact UInt8.toNat_inj.1 h)
    · rfl
  have hval : Hid (∀ n : Int, n = wrap64 (-(accI s.data.toList s.size)) → valN s.data.toList = if f = 0 then wrap64 (-n) else n) := by
    intro n hn
    subst hn
    unfold valN
    rw [hl, Nat.min_eq_left (by omega)]
    rcases hf with ⟨rfl, h⟩ | ⟨rfl, h⟩
    · rw [if_pos (by rw [hg0]; exact UInt8.toNat_inj.1 h), if_neg (by decide)]
    · rw [if_neg (by rw [hg0]; intro e; rw [e] at h; exact h rfl), if_pos rfl]
      unfold wrap64; omega
  have hvr : Hid ((valN s.data.toList).natAbs ≤ 9223372036854775808) := valN_abs _
  have hfs : f ≤ s.size := by rcases hf with ⟨rfl, _⟩ | ⟨rfl, _⟩ <;> omega
  clear hg0 hl
  rcases hf with ⟨rfl, hc⟩ | ⟨rfl, hc⟩
  · have hc' : ((s[0].toNat : Int) == 45) = true := by rw [beq_iff_eq]; omega
    clear hc
    go_enter Try.func20, Try.ntmps20
    go_wp2
    go_loop [5, 6] (fun n i => ∃ (k : Nat) (x : Int), 1 ≤ k ∧ k ≤ s.size ∧ i = .int .i64 (k : Int) ∧ n = .int .i64 x ∧ Hid (x = wrap64 (-(accI s.data.toList k)))) (fun _ i => s.size - (intOf i).toNat)
    case atStart => exact ⟨1, 0, Nat.le_refl _, hfs, rfl, rfl, by show _ = _; rw [hstart.out]; exact wrap64_zero⟩
    case round =>
      obtain ⟨k, x, hk1, hk2, rfl, rfl, hx⟩ := hrel
      by_cases hlt : k < s.size
      · have hg := getD_atN hlt
        have Hg := Lib.hid hg
        clear hg
        by_cases hd : 48 ≤ s[k].toNat ∧ s[k].toNat ≤ 57
        · obtain ⟨d1, d2⟩ := hd
          have HS := Lib.hid ((step_down hx.out d1 d2).trans (by rw [accI_step (hhead.out k hk1), Hg.out] : _ = wrap64 (-(accI s.data.toList (k + 1)))))
          go_wp2
          go_round
          case rel => exact ⟨k + 1, _, by omega, by omega, by go_num, rfl, HS.out⟩
          case measure => simp [intOf]; omega
        · have H := Lib.hid (getN_bad (l := s.data.toList) (i := k) (by rw [Hl.out]; exact hlt) (hhead.out k hk1) (by rw [Hg.out]; cases e : isDig s[k] with | false => rfl | true => exact absurd ((isDig_iff _).1 e) hd))
          by_cases d1 : 48 ≤ s[k].toNat
          · have d2 : ¬ s[k].toNat ≤ 57 := fun h => hd ⟨d1, h⟩
            clear hd
            go_wp2
            go_ret2
            exact ⟨ngetIs_no H.out, Below.refl _ _⟩
          · clear hd
            go_wp2
            go_ret2
            exact ⟨ngetIs_no H.out, Below.refl _ _⟩
      · obtain rfl : k = s.size := by omega
        have hv := hval.out x hx.out
        obtain ⟨V, hV⟩ : ∃ V, V = valN s.data.toList := ⟨_, rfl⟩
        rw [← hV] at hv
        have hvr' : Hid (V.natAbs ≤ 9223372036854775808) := by rw [hV]; exact hvr
        have H1 := Lib.hid (@getN_no s V hV)
        have H2 := Lib.hid (@getN_yes s V hV)
        clear hV
        have e : V = x := by rw [hv]; rfl
        clear hv
        subst e
        go_wp2_with ((with_reducible refine (nput_any _ hvr' _).mono ?_); rintro e w' ⟨rfl, hb⟩)
        · go_ret2
          exact ⟨ngetIs_no (H1.out (by assumption)), hb⟩
        · go_ret2
          exact ⟨ngetIs_yes (H2.out (by assumption)), hb⟩
  · have hc' : ((s[0].toNat : Int) == 45) = false := by rw [beq_eq_false_iff_ne]; omega
    clear hc
    go_enter Try.func20, Try.ntmps20
    go_wp2
    go_loop [5, 6] (fun n i => ∃ (k : Nat) (x : Int), 0 ≤ k ∧ k ≤ s.size ∧ i = .int .i64 (k : Int) ∧ n = .int .i64 x ∧ Hid (x = wrap64 (-(accI s.data.toList k)))) (fun _ i => s.size - (intOf i).toNat)
    case atStart => exact ⟨0, 0, Nat.le_refl _, hfs, rfl, rfl, by show _ = _; rw [hstart.out]; exact wrap64_zero⟩
    case round =>
      obtain ⟨k, x, hk1, hk2, rfl, rfl, hx⟩ := hrel
      by_cases hlt : k < s.size
      · have hg := getD_atN hlt
        have Hg := Lib.hid hg
        clear hg
        by_cases hd : 48 ≤ s[k].toNat ∧ s[k].toNat ≤ 57
        · obtain ⟨d1, d2⟩ := hd
          have HS := Lib.hid ((step_down hx.out d1 d2).trans (by rw [accI_step (hhead.out k hk1), Hg.out] : _ = wrap64 (-(accI s.data.toList (k + 1)))))
          go_wp2
          go_round
          case rel => exact ⟨k + 1, _, by omega, by omega, by go_num, rfl, HS.out⟩
          case measure => simp [intOf]; omega
        · have H := Lib.hid (getN_bad (l := s.data.toList) (i := k) (by rw [Hl.out]; exact hlt) (hhead.out k hk1) (by rw [Hg.out]; cases e : isDig s[k] with | false => rfl | true => exact absurd ((isDig_iff _).1 e) hd))
          by_cases d1 : 48 ≤ s[k].toNat
          · have d2 : ¬ s[k].toNat ≤ 57 := fun h => hd ⟨d1, h⟩
            clear hd
            go_wp2
            go_ret2
            exact ⟨ngetIs_no H.out, Below.refl _ _⟩
          · clear hd
            go_wp2
            go_ret2
            exact ⟨ngetIs_no H.out, Below.refl _ _⟩
      · obtain rfl : k = s.size := by omega
        have hv := hval.out x hx.out
        obtain ⟨V, hV⟩ : ∃ V, V = valN s.data.toList := ⟨_, rfl⟩
        rw [← hV] at hv
        have hvr' : Hid (V.natAbs ≤ 9223372036854775808) := by rw [hV]; exact hvr
        have H1 := Lib.hid (@getN_no s V hV)
        have H2 := Lib.hid (@getN_yes s V hV)
        clear hV
        replace hv : wrap64 (-x) = V := by rw [hv]; rfl
        go_wp2_with ((with_reducible refine (nput_any _ hvr' _).mono ?_); rintro e w' ⟨rfl, hb⟩)
        · go_ret2
          exact ⟨ngetIs_no (H1.out (by assumption)), hb⟩
        · go_ret2
          exact ⟨ngetIs_yes (H2.out (by assumption)), hb⟩

theorem nget_any (s : ByteArray) (w : World) :
    Calls Try.prog 20 #[.string s] w fun e w' => NGetIs s.data.toList e ∧ Below w.heap.size w w' := by
  by_cases h1 : 1 ≤ s.size
  · by_cases h2 : s.size ≤ 20
    · by_cases hc : s[0].toNat = 45
      · exact nget_mid s w h1 h2 1 (.inl ⟨rfl, hc⟩)
      · exact nget_mid s w h1 h2 0 (.inr ⟨rfl, hc⟩)
    · exact nget_long s w (by omega)
  · have h0 : s.size = 0 := by omega
    have : s = ByteArray.empty := by simpa using h0
    subst this
    exact nget_empty w

end Go.Proofs.Ytafigegbjcbdoaa
