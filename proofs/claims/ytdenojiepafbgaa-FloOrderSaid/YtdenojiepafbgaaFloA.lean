/- Plain laws of floats: writing what was read, scaling, order, sums and products. -/
import Derived.Test.YtdenojiepafbgaaFloI
namespace Go.Proofs.Ytdenojiepafbgaa.Flo
open Go.RowKit Ieee

theorem log2_eq {n k : Nat} (h1 : 2 ^ k ≤ n) (h2 : n < 2 ^ (k + 1)) : n.log2 = k := by
  have hn : n ≠ 0 := by have := Nat.two_pow_pos k; omega
  have a := (Nat.le_log2 hn).2 h1
  have b := (Nat.log2_lt hn).2 h2
  omega

theorem log2_mul (n k : Nat) (h : n ≠ 0) : (n * 2 ^ k).log2 = n.log2 + k := by
  have h1 := Nat.log2_self_le h
  have h2 : n < 2 ^ (n.log2 + 1) := Nat.lt_log2_self
  have hp : 0 < 2 ^ k := Nat.two_pow_pos k
  apply log2_eq
  · rw [Nat.pow_add]; exact Nat.mul_le_mul_right _ h1
  · rw [show n.log2 + k + 1 = n.log2 + 1 + k from by omega, Nat.pow_add]; exact Nat.mul_lt_mul_of_pos_right h2 hp

theorem cut_even_zero (s : Bool) (n : Nat) : Toward.cut .even s n 0 = n := by
  have e1 : n % 1 = 0 := Nat.mod_one n
  have h : (1 : Nat) <<< min 0 (n.log2 + 2) = 1 := by simp
  simp only [Toward.cut, h]
  simp [e1]

/-- a number and what is dropped of it, both with k digits more -/
theorem cut_scale (s : Bool) (n drop k : Nat) (hn : n ≠ 0) : Toward.cut .even s (n * 2 ^ k) (drop + k) = Toward.cut .even s n drop := by
  have hl := log2_mul n k hn
  have hp : 0 < 2 ^ k := Nat.two_pow_pos k
  simp only [Toward.cut, hl, Nat.shiftLeft_eq, Nat.one_mul]
  have hm : min (drop + k) (n.log2 + k + 2) = min drop (n.log2 + 2) + k := by omega
  rw [hm, Nat.pow_add]
  generalize 2 ^ min drop (n.log2 + 2) = g
  rw [Nat.mul_div_mul_right _ _ hp, Nat.mul_mod_mul_right]
  have a1 : decide (g * 2 ^ k < 2 * (n % g * 2 ^ k)) = decide (g < 2 * (n % g)) := by
    rw [← Nat.mul_assoc]
    exact decide_eq_decide.2 (Nat.mul_lt_mul_right hp)
  have a2 : (g * 2 ^ k == 2 * (n % g * 2 ^ k)) = (g == 2 * (n % g)) := by
    rw [← Nat.mul_assoc, Bool.eq_iff_iff]
    simp only [beq_iff_eq]
    exact Nat.mul_left_inj (by omega)
  simp only [a1, a2]

theorem nearest_scale (f : Format) (s : Bool) (m k : Nat) (p : Int) : f.nearest s (m * 2 ^ k) (p - k) = f.nearest s m p := by
  by_cases hm : m = 0
  · subst hm; simp [Format.nearest]
  · have hp : 0 < 2 ^ k := Nat.two_pow_pos k
    have hnz : m * 2 ^ k ≠ 0 := Nat.mul_ne_zero hm (by omega)
    have hl := log2_mul m k hm
    have e1 : (p - (k : Int) + ((m.log2 + k : Nat) : Int) - f.fractionBits) = p + m.log2 - f.fractionBits := by omega
    simp only [Format.nearest, hm, hnz, if_false, hl, e1]
    generalize max (p + (m.log2 : Int) - f.fractionBits) f.leastPlace = last
    have key : Toward.cut .even s ((m * 2 ^ k) <<< (p - k - last).toNat) (last - (p - k)).toNat = Toward.cut .even s (m <<< (p - last).toNat) (last - p).toNat := by
      simp only [Nat.shiftLeft_eq]
      by_cases h1 : (k : Int) ≤ p - last
      · have t1 : (p - k - last).toNat + k = (p - last).toNat := by omega
        have t2 : (last - (p - k)).toNat = 0 := by omega
        have t3 : (last - p).toNat = 0 := by omega
        rw [t2, t3, ← t1, Nat.mul_assoc, ← Nat.pow_add, Nat.add_comm]
      · by_cases h2 : 0 ≤ p - last
        · have t1 : (p - k - last).toNat = 0 := by omega
          have t2 : (last - (p - k)).toNat = 0 + (k - (p - last).toNat) := by omega
          have t3 : (last - p).toNat = 0 := by omega
          have t4 : k = (p - last).toNat + (k - (p - last).toNat) := by omega
          have hp2 : 0 < 2 ^ (p - last).toNat := Nat.two_pow_pos _
          have hz2 : m * 2 ^ (p - last).toNat ≠ 0 := Nat.mul_ne_zero hm (by omega)
          rw [t1, t2, t3, Nat.pow_zero, Nat.mul_one]
          have t5 : m * 2 ^ k = m * 2 ^ (p - last).toNat * 2 ^ (k - (p - last).toNat) := by
            rw [Nat.mul_assoc, ← Nat.pow_add, ← t4]
          rw [t5]
          exact cut_scale s _ 0 _ hz2
        · have t1 : (p - k - last).toNat = 0 := by omega
          have t2 : (last - (p - k)).toNat = (last - p).toNat + k := by omega
          have t3 : (p - last).toNat = 0 := by omega
          rw [t1, t2, t3, Nat.pow_zero, Nat.mul_one, Nat.mul_one]
          exact cut_scale s _ _ _ hm
    rw [key]

theorem double_word (s : Bool) (v : Nat) : double.word s v = if s then 9223372036854775808 + v else v := by
  have e1 : double.signWeight = 9223372036854775808 := by decide
  unfold Format.word
  rw [e1]

/-- what is written of a number whose last digit stands where it stands in the format -/
theorem nearest_exact (s : Bool) (m : Nat) (i : Int) (hm : m ≠ 0) (hi : max (i + (m.log2 : Int) - 52) (-1074) = i) (hv : (i + 1074).toNat * 4503599627370496 + m ≤ 9218868437227405312) :
    double.nearest s m i = double.word s ((i + 1074).toNat * 4503599627370496 + m) := by
  have e2 : double.binade = 4503599627370496 := by decide
  have e3 : double.infRung = 9218868437227405312 := by decide
  have e4 : double.leastPlace = -1074 := by decide
  have e5 : (double.fractionBits : Int) = 52 := by decide
  have t0 : (i - i).toNat = 0 := by omega
  have t1 : i - -1074 = i + 1074 := by omega
  simp only [Format.nearest, hm, if_false, e2, e3, e4, e5, hi, t0, Nat.shiftLeft_zero, cut_even_zero, t1]
  rw [Nat.min_eq_left hv]

/-- WRITING WHAT WAS READ -/
theorem write_read {x : Nat} (h : x < 18446744073709551616) (hn : isNanN x = false) : double.write (double.read x) = x := by
  have e3 : double.infRung = 9218868437227405312 := by decide
  have hv : ¬ 9218868437227405312 < x % 9223372036854775808 := by simpa [isNanN] using hn
  have back : ∀ v, v = x % 9223372036854775808 → double.word (x / 9223372036854775808 % 2 == 1) v = x := by
    intro v hv
    rw [double_word]
    split
    · rename_i h1; simp only [beq_iff_eq] at h1; omega
    · rename_i h1; simp only [beq_iff_eq] at h1; omega
  by_cases hi : x % 9223372036854775808 = 9218868437227405312
  · rw [read_inf hi]
    show double.word _ double.infRung = x
    rw [e3]; exact back _ hi.symm
  · obtain ⟨m, i, hr, hmi⟩ := read_num hn hi
    rw [hr]
    show double.nearest _ m i = x
    rcases hmi with ⟨h1, hm, rfl⟩ | ⟨h1, hm, hii⟩
    · by_cases h0 : m = 0
      · subst h0
        have : double.nearest (x / 9223372036854775808 % 2 == 1) 0 (-1074) = double.word (x / 9223372036854775808 % 2 == 1) 0 := by simp [Format.nearest]
        rw [this]; exact back _ hm
      · have hl : m.log2 < 52 := (Nat.log2_lt h0).2 (by omega)
        rw [nearest_exact _ m (-1074) h0 (by omega) (by omega)]
        exact back _ (by omega)
    · have hl : m.log2 = 52 := log2_eq (by omega) (by omega)
      rw [nearest_exact _ m i (by omega) (by omega) (by omega)]
      exact back _ (by omega)

theorem word_not_nan (s : Bool) {v : Nat} (h : v ≤ 9218868437227405312) : isNanN (double.word s v) = false := by
  rw [double_word]
  unfold isNanN
  simp only [decide_eq_false_iff_not]
  split <;> omega
theorem write_not_nan {d : Datum} (h : d.isNaN = false) : isNanN (double.write d) = false := by
  have e3 : double.infRung = 9218868437227405312 := by decide
  cases d with
  | nan s f => simp [Datum.isNaN] at h
  | infinity s => exact word_not_nan s (by rw [e3]; omega)
  | number s m p =>
    show isNanN (double.nearest s m p) = false
    unfold Format.nearest
    split
    · exact word_not_nan s (by omega)
    · exact word_not_nan s (by rw [← e3]; exact Nat.min_le_right _ _)

/-! order -/
theorem int_swap (a b : Int) : compare b a = (compare a b).swap := by
  rcases Int.lt_trichotomy a b with h | h | h
  · rw [cmp_lt h, cmp_gt h]; rfl
  · rw [cmp_eq h, cmp_eq h.symm]; rfl
  · rw [cmp_gt h, cmp_lt h]; rfl
theorem order_num {a b : Datum} (ha : a.isNaN = false) (hb : b.isNaN = false) : ∃ o : Ordering, a.order b = some o ∧ b.order a = some o.swap := by
  cases a with
  | nan s f => simp [Datum.isNaN] at ha
  | infinity s =>
    cases b with
    | nan s f => simp [Datum.isNaN] at hb
    | infinity t => cases s <;> cases t <;> exact ⟨_, rfl, rfl⟩
    | number t n j => cases s <;> exact ⟨_, rfl, rfl⟩
  | number s m i =>
    cases b with
    | nan s f => simp [Datum.isNaN] at hb
    | infinity t => cases t <;> exact ⟨_, rfl, rfl⟩
    | number t n j =>
      refine ⟨_, rfl, ?_⟩
      simp only [Datum.order]
      rw [Int.min_comm j i]
      exact congrArg some (int_swap _ _)
theorem ord_num {a b : Int} (ha : isNanN (u64 a) = false) (hb : isNanN (u64 b) = false) : ∃ o : Ordering, ordV (pb a) (pb b) = some o ∧ ordV (pb b) (pb a) = some o.swap :=
  order_num (a := double.read (pb a)) (b := double.read (pb b)) (by rw [read_nan (pb_lt a), isNanN_pb]; exact ha) (by rw [read_nan (pb_lt b), isNanN_pb]; exact hb)

end Go.Proofs.Ytdenojiepafbgaa.Flo
