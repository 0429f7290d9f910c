/- Plain laws of words: what is written is read, what is read is right. -/
import Derived.Test.YtafigegbjcbdoaaWordI
namespace Go.Proofs.Ytafigegbjcbdoaa
open Go.RowKit Word Num Flo

theorem hd_num {n : Int} (h : n.natAbs ≤ 9223372036854775808) : (numText n).getD 0 0 = 45 ∨ isDig ((numText n).getD 0 0) = true := by
  by_cases hc : (numText n).getD 0 0 = 45
  · exact .inl hc
  · exact .inr (numText_dig rfl (i := 0) (by have := (numText_length h).1; omega) (.inr hc))
theorem hd_num_lo {n : Int} (h : n.natAbs ≤ 9223372036854775808) : ((numText n).getD 0 0).toNat < 58 ∧ 45 ≤ ((numText n).getD 0 0).toNat := by
  rcases hd_num h with e | e
  · rw [e]; decide
  · have := (isDig_iff _).1 e; omega
theorem hd_hex (u : Nat) : (hexText u).getD 0 0 = 48 := rfl
theorem name_head {l : List UInt8} (hl : 0 < l.length) (h : (l.getD 0 0).toNat < 65) : nameB l = false := by
  refine nameB_bad (k := 0) hl ?_
  rw [okAt_zero]
  unfold letN
  simp only [Bool.or_eq_false_iff, Bool.and_eq_false_iff, decide_eq_false_iff_not]
  omega
theorem null_head {l : List UInt8} (h : (l.getD 0 0).toNat < 65) : (l == tNull) = false := by
  rw [beq_eq_false_iff_ne]
  rintro rfl
  revert h
  decide
theorem nonempty_of {l : List UInt8} (hl : 0 < l.length) : l.isEmpty = false := by
  cases l with
  | nil => simp at hl
  | cons x l => rfl
theorem getN_back {l : List UInt8} {k : Int} (h : getN l = (k, true)) : numText k = l := by
  unfold getN at h
  split at h
  · rename_i hh; cases h; exact hh
  · cases h
theorem pb_plain' (n : Int) (h1 : -9223372036854775808 ≤ n) (h2 : n ≤ 9223372036854775807) : pb (plainV n) = pb n := by unfold pb; rw [plain_plain]
theorem getV_text {n : Int} (h1 : -9223372036854775808 ≤ n) (h2 : n ≤ 9223372036854775807) : getV (hexText (pb n)) = (plainV n, true) := by
  have hr : -9223372036854775808 ≤ plainV n ∧ plainV n ≤ 9223372036854775807 := by
    unfold plainV nanC
    split <;> omega
  have e1 : decTo (hexText (pb n)) 16 = pb n := by
    have := decTo_hexText (pb n) 16 (pb_lt n) (by omega)
    rwa [Nat.sub_self, Nat.pow_zero, Nat.div_one] at this
  have e2 : wrap64 (pb n : Int) = plainV n := u64_i64 _ hr.1 hr.2
  unfold getV
  rw [e1, e2, pb_plain' n h1 h2, if_pos ⟨hexText_length _, rfl⟩]
theorem getV_back {l : List UInt8} {k : Int} (h : getV l = (k, true)) : hexText (pb k) = l := by
  unfold getV at h
  split at h
  · rename_i hh
    cases h
    exact hh.2
  · cases h
theorem getV_fix {l : List UInt8} {k : Int} (h : getV l = (k, true)) : plainV k = k := by
  have hb := getV_back h
  have hr := getV_range l
  rw [h] at hr
  have := getV_text hr.1 hr.2
  rw [hb, h] at this
  exact (congrArg Prod.fst this).symm
theorem getV_num {n : Int} (h : n.natAbs ≤ 9223372036854775808) : getV (numText n) = (0, false) := by
  refine getV_pre ?_
  intro hh
  have h0 : (numText n).getD 0 0 = 48 ∧ (numText n).getD 1 0 = 102 ∧ 2 ≤ (numText n).length := by
    rcases hl : numText n with _ | ⟨a, _ | ⟨b, l⟩⟩
    · rw [hl] at hh; cases hh
    · rw [hl] at hh; cases hh
    · rw [hl] at hh
      simp at hh
      simp [hh.1, hh.2]
  have := numText_dig (n := n) rfl (i := 1) (by omega) (.inl (by omega))
  rw [h0.2.1] at this
  revert this
  decide

/-- what is written is read as it was -/
theorem getA_put {K n : Int} {l : List UInt8} (hr : -9223372036854775808 ≤ n ∧ n ≤ 9223372036854775807) (h : rightV K l n = true) : getA (putV K l n) = (K, l, n, true) := by
  have hn : n.natAbs ≤ 9223372036854775808 := by omega
  have hp : putV K l n = (if K = 2 then numText n else if K = 3 then hexText (pb n) else if K = 4 then tNull else if K = 5 then 35 :: numText n else l) := by
    unfold putV; rw [if_neg (by rw [h]; decide)]
  rw [hp]
  clear hp
  rcases rightV_kind h with rfl | rfl | rfl | rfl | rfl
  · have h' : (nameB l && decide (n = 0)) = true := h
    simp only [Bool.and_eq_true, decide_eq_true_eq] at h'
    obtain ⟨hb, rfl⟩ := h'
    show getA l = _
    have hl : 0 < l.length := by unfold nameB at hb; simp at hb; omega
    have hk : (l == tNull) = false := by
      unfold nameB keptL at hb
      simp only [Bool.and_eq_true, Bool.not_eq_true', Bool.or_eq_false_iff] at hb
      exact hb.2.1.1
    unfold getA
    rw [if_neg (by rw [nonempty_of hl]; decide), if_neg (by rw [hk]; decide), if_pos hb]
  · have h' : l.isEmpty = true := h
    obtain rfl := List.isEmpty_iff.1 h'
    show getA (numText n) = _
    have hl : 0 < (numText n).length := (numText_length hn).1
    have hh := hd_num_lo hn
    unfold getA
    rw [if_neg (by rw [nonempty_of hl]; decide), if_neg (by rw [null_head (by omega)]; decide), if_neg (by rw [name_head hl (by omega)]; decide), if_neg (by intro e; rw [e] at hh; revert hh; decide)]
    unfold numberV
    rw [getV_num hn, if_neg (by decide), getN_text hn hr.2, if_pos rfl]
  · have h' : (l.isEmpty && decide (plainV n = n)) = true := h
    simp only [Bool.and_eq_true, decide_eq_true_eq] at h'
    obtain ⟨h1, h2⟩ := h'
    obtain rfl := List.isEmpty_iff.1 h1
    show getA (hexText (pb n)) = _
    have hl : 0 < (hexText (pb n)).length := by rw [hexText_length]; decide
    have hh := hd_hex (pb n)
    unfold getA
    rw [if_neg (by rw [nonempty_of hl]; decide), if_neg (by rw [null_head (by rw [hh]; decide)]; decide), if_neg (by rw [name_head hl (by rw [hh]; decide)]; decide), if_neg (by rw [hh]; decide)]
    unfold numberV
    rw [getV_text hr.1 hr.2, if_pos rfl, h2]
  · have h' : (l.isEmpty && decide (n = 0)) = true := h
    simp only [Bool.and_eq_true, decide_eq_true_eq] at h'
    obtain ⟨h1, rfl⟩ := h'
    obtain rfl := List.isEmpty_iff.1 h1
    rfl
  · have h' : (l.isEmpty && decide (0 ≤ n) && decide (n ≤ 999)) = true := h
    simp only [Bool.and_eq_true, decide_eq_true_eq] at h'
    obtain ⟨⟨h1, h2⟩, h3⟩ := h'
    obtain rfl := List.isEmpty_iff.1 h1
    show getA (35 :: numText n) = _
    unfold getA
    rw [if_neg (by simp), if_neg (by rw [null_head (by show (35 : UInt8).toNat < 65; decide)]; decide), if_neg (by rw [name_head (by simp) (by show (35 : UInt8).toNat < 65; decide)]; decide), if_pos (by rfl)]
    show (if (getN (numText n)).2 = true ∧ 0 ≤ (getN (numText n)).1 ∧ (getN (numText n)).1 ≤ 999 then _ else _) = _
    rw [getN_text hn hr.2, if_pos ⟨rfl, h2, h3⟩]
    show (5, ([] : List UInt8), (getN (numText n)).1, true) = _
    rw [getN_text hn hr.2]

/-- what is read is right, and is written as it stood -/
theorem getA_back {K n : Int} {l t : List UInt8} (h : getA l = (K, t, n, true)) : rightV K t n = true ∧ putV K t n = l := by
  suffices hs : rightV K t n = true ∧ (if K = 2 then numText n else if K = 3 then hexText (pb n) else if K = 4 then tNull else if K = 5 then 35 :: numText n else t) = l by
    refine ⟨hs.1, ?_⟩
    unfold putV
    rw [if_neg (by rw [hs.1]; decide)]
    exact hs.2
  unfold getA at h
  split at h
  · cases h
  rename_i h1
  split at h
  · rename_i h2
    cases h
    exact ⟨rfl, (eq_of_beq h2).symm⟩
  rename_i h2
  split at h
  · rename_i h3
    cases h
    exact ⟨by show (nameB _ && decide ((0 : Int) = 0)) = true; rw [h3]; rfl, rfl⟩
  rename_i h3
  split at h
  · rename_i h4
    split at h
    · rename_i h5
      cases h
      refine ⟨?_, ?_⟩
      · show (([] : List UInt8).isEmpty && decide (0 ≤ (getN l.tail).1) && decide ((getN l.tail).1 ≤ 999)) = true
        simp [h5.2.1, h5.2.2]
      · show 35 :: numText (getN l.tail).1 = l
        rw [getN_back (l := l.tail) (k := (getN l.tail).1) (by rw [← h5.1])]
        cases l with
        | nil => exact absurd rfl h1
        | cons x l => have h4' : x = 35 := h4
                      rw [h4']; rfl
    · cases h
  · rcases hv : getV l with ⟨k, b⟩
    unfold numberV at h
    rw [hv] at h
    cases b
    · rcases hn : getN l with ⟨k2, b2⟩
      rw [hn] at h
      cases b2
      · cases h
      · cases h
        exact ⟨rfl, getN_back hn⟩
    · cases h
      refine ⟨?_, getV_back hv⟩
      show (([] : List UInt8).isEmpty && decide (plainV k = k)) = true
      rw [getV_fix hv]
      simp
theorem getA_no {K n : Int} {l t : List UInt8} (h : getA l = (K, t, n, false)) : K = 0 ∧ t = [] ∧ n = 0 := by
  unfold getA at h
  split at h
  · cases h; exact ⟨rfl, rfl, rfl⟩
  split at h
  · cases h
  split at h
  · cases h
  split at h
  · split at h
    · cases h
    · cases h; exact ⟨rfl, rfl, rfl⟩
  · unfold numberV at h
    split at h
    · cases h
    · split at h
      · cases h
      · cases h; exact ⟨rfl, rfl, rfl⟩

theorem getA_cand {K n : Int} {l t : List UInt8} (h : getA l = (K, t, n, true)) : ∃ j, j < 5 ∧ cand l j = (K, t, n) := by
  unfold getA at h
  split at h
  · cases h
  split at h
  · cases h; exact ⟨3, by decide, rfl⟩
  split at h
  · cases h; exact ⟨0, by decide, rfl⟩
  split at h
  · split at h
    · cases h; exact ⟨4, by decide, rfl⟩
    · cases h
  · unfold numberV at h
    split at h
    · cases h; exact ⟨2, by decide, rfl⟩
    · split at h
      · cases h; exact ⟨1, by decide, rfl⟩
      · cases h

theorem cand_range (l : List UInt8) (j : Nat) : -9223372036854775808 ≤ (cand l j).2.2 ∧ (cand l j).2.2 ≤ 9223372036854775807 := by
  unfold cand
  split
  · exact ⟨by show (_ : Int) ≤ 0; decide, by show (0 : Int) ≤ _; decide⟩
  split
  · exact getN_range l
  split
  · exact getV_range l
  split
  · exact ⟨by decide, by decide⟩
  · exact getN_range _

theorem refA_getA (l : List UInt8) : refA l = getA l := by
  cases hf : (List.range 5).find? (hit l) with
  | some j =>
    have hh : hit l j = true := List.find?_some hf
    have hr : refA l = ((cand l j).1, (cand l j).2.1, (cand l j).2.2, true) := by unfold refA; rw [hf]
    rw [hr]
    unfold hit at hh
    rw [Bool.and_eq_true, beq_iff_eq] at hh
    have := getA_put (cand_range l j) hh.1
    rw [hh.2] at this
    exact this.symm
  | none =>
    have hr : refA l = (0, [], 0, false) := by unfold refA; rw [hf]
    rw [hr]
    rw [List.find?_range_eq_none] at hf
    rcases hg : getA l with ⟨K, t, n, b⟩
    cases b
    · obtain ⟨rfl, rfl, rfl⟩ := getA_no hg; rfl
    · exfalso
      obtain ⟨h1, h2⟩ := getA_back hg
      obtain ⟨j, hj, hc⟩ := getA_cand hg
      have := hf j hj
      unfold hit at this
      rw [hc, h1, h2] at this
      simp at this

end Go.Proofs.Ytafigegbjcbdoaa
