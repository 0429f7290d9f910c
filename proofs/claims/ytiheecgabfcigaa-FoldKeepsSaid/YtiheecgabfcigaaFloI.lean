/- Plain facts: what a float is as a whole number, told by its bits. -/
import Derived.Test.YtiheecgabfcigaaFlo
namespace Go.Proofs.Ytiheecgabfcigaa.Flo
open Go.RowKit Ieee

/-- a word that is a number, read -/
theorem read_num {x : Nat} (h : isNanN x = false) (hi : x % 9223372036854775808 ≠ 9218868437227405312) :
    ∃ m i, double.read x = .number (x / 9223372036854775808 % 2 == 1) m i ∧
      ((x % 9223372036854775808 < 4503599627370496 ∧ m = x % 9223372036854775808 ∧ i = -1074) ∨
       (4503599627370496 ≤ x % 9223372036854775808 ∧ m = 4503599627370496 + x % 4503599627370496 ∧ i = ((x % 9223372036854775808 / 4503599627370496 : Nat) : Int) - 1075)) := by
  have e1 : double.signWeight = 9223372036854775808 := by decide
  have e2 : double.binade = 4503599627370496 := by decide
  have e3 : double.infRung = 9218868437227405312 := by decide
  have e4 : double.leastPlace = -1074 := by decide
  have hn : ¬ 9218868437227405312 < x % 9223372036854775808 := by simpa [isNanN] using h
  unfold Format.read
  simp only [e1, e2, e3, e4]
  by_cases h1 : x % 9223372036854775808 < 4503599627370496
  · exact ⟨_, _, by rw [if_pos h1], .inl ⟨h1, rfl, rfl⟩⟩
  · refine ⟨_, _, by rw [if_neg h1, if_pos (by omega)], .inr ⟨by omega, ?_, ?_⟩⟩
    · omega
    · omega
theorem read_inf {x : Nat} (hi : x % 9223372036854775808 = 9218868437227405312) : double.read x = .infinity (x / 9223372036854775808 % 2 == 1) := by
  have e1 : double.signWeight = 9223372036854775808 := by decide
  have e2 : double.binade = 4503599627370496 := by decide
  have e3 : double.infRung = 9218868437227405312 := by decide
  unfold Format.read
  simp only [e1, e2, e3, hi]
  simp

theorem sign_of (n : Int) (h1 : -9223372036854775808 ≤ n) (h2 : n ≤ 9223372036854775807) : (u64 n / 9223372036854775808 % 2 == 1) = decide (n < 0) := by
  unfold u64
  by_cases h : n < 0
  · simp only [h, decide_true, beq_iff_eq]; omega
  · simp only [h, decide_false, beq_eq_false_iff_ne]; omega

/-- the whole part of a number, cut towards 0 -/
theorem cut_zero (s : Bool) (n drop : Nat) : Toward.cut .zero s n drop = n / 2 ^ drop := by
  unfold Toward.cut
  simp only [Bool.toNat_false, Nat.add_zero]
  rw [Nat.shiftLeft_eq, Nat.one_mul]
  by_cases h : drop ≤ n.log2 + 2
  · rw [Nat.min_eq_left h]
  · rw [Nat.min_eq_right (by omega)]
    have hl : n < 2 ^ (n.log2 + 1) := Nat.lt_log2_self
    have h1 : n < 2 ^ (n.log2 + 2) := Nat.lt_of_lt_of_le hl (Nat.pow_le_pow_right (by omega) (by omega))
    have h2 : n < 2 ^ drop := Nat.lt_of_lt_of_le hl (Nat.pow_le_pow_right (by omega) (by omega))
    rw [Nat.div_eq_of_lt h1, Nat.div_eq_of_lt h2]

theorem toInt_num (s : Bool) (m : Nat) (i : Int) : (Datum.number s m i).toInt .zero = some (signed s (m * 2 ^ i.toNat / 2 ^ (-i).toNat) 0) := by
  simp only [Datum.toInt, Datum.integral, cut_zero, Nat.shiftLeft_eq]

def expo (n : Int) : Nat := u64 n % 9223372036854775808 / 4503599627370496
def mant (n : Int) : Nat := u64 n % 9223372036854775808 % 4503599627370496 + 4503599627370496
def magV (n : Int) : Nat := mant n * 2 ^ (expo n - 1075) / 2 ^ (1075 - expo n)

/-- a float as a whole number -/
def toIntV (n : Int) : Int :=
  if isNanN (u64 n) then 0
  else if 1086 ≤ expo n then (if n < 0 then -9223372036854775808 else 9223372036854775807)
  else if expo n < 1023 then 0
  else if n < 0 then -(magV n : Int) else magV n

theorem pow_split {a b : Nat} (h : a ≤ b) : 2 ^ b = 2 ^ a * 2 ^ (b - a) := by rw [← Nat.pow_add]; congr 1; omega

theorem mant_lt (n : Int) : mant n < 9007199254740992 := by unfold mant; omega
theorem mant_ge (n : Int) : 4503599627370496 ≤ mant n := by unfold mant; omega

theorem magV_lt {n : Int} (h : expo n < 1086) : magV n < 9223372036854775808 := by
  unfold magV
  have h1 : mant n * 2 ^ (expo n - 1075) / 2 ^ (1075 - expo n) ≤ mant n * 2 ^ (expo n - 1075) := Nat.div_le_self _ _
  have h2 : 2 ^ (expo n - 1075) ≤ 2 ^ 10 := Nat.pow_le_pow_right (by omega) (by omega)
  have h3 := mant_lt n
  have h4 : mant n * 2 ^ (expo n - 1075) ≤ 9007199254740991 * 2 ^ 10 := Nat.mul_le_mul (by omega) h2
  omega

def E63 : Nat := 4890909195324358656
def N63 : Nat := 14114281232179134464
theorem read_E63 : double.read E63 = .number false 4503599627370496 11 := by decide
theorem read_N63 : double.read N63 = .number true 4503599627370496 11 := by decide

/-- how a number stands to 2^63 and to -2^63 -/
theorem order_big (s : Bool) (m : Nat) (i : Int) (t : Bool) (_hm : 4503599627370496 ≤ m) (hi : 11 ≤ i) :
    Datum.order (.number s m i) (.number t 4503599627370496 11) = some (compare (signed s (m * 2 ^ (i - 11).toNat) 0) (signed t 4503599627370496 0)) := by
  have h : min i 11 = 11 := by omega
  simp only [Datum.order, h, signed, Nat.shiftLeft_eq]
  simp
theorem order_small (s : Bool) (m : Nat) (i : Int) (t : Bool) (hi : i ≤ 11) :
    Datum.order (.number s m i) (.number t 4503599627370496 11) = some (compare (signed s m 0) (signed t (4503599627370496 * 2 ^ (11 - i).toNat) 0)) := by
  have h : min i 11 = i := by omega
  simp only [Datum.order, h, signed, Nat.shiftLeft_eq]
  simp

theorem signed_pos (m : Nat) : signed false m 0 = m := by simp [signed]
theorem signed_neg (m : Nat) : signed true m 0 = -(m : Int) := by simp [signed]

theorem cmp_lt {a b : Int} (h : a < b) : compare a b = .lt := by simp [compare, compareOfLessAndEq, h]
theorem cmp_eq {a b : Int} (h : a = b) : compare a b = .eq := by subst h; simp [compare, compareOfLessAndEq]
theorem cmp_gt {a b : Int} (h : b < a) : compare a b = .gt := by
  have h1 : ¬ a < b := by omega
  have h2 : a ≠ b := by omega
  simp [compare, compareOfLessAndEq, h1, h2]

def c1V (x : Nat) : Bool := FloatKind.f64.format.order x E63 == some .gt || FloatKind.f64.format.order x E63 == some .eq
def c2V (x : Nat) : Bool := FloatKind.f64.format.order x N63 == some .lt

theorem c1_of {x : Nat} {o : Ordering} (h : (double.read x).order (.number false 4503599627370496 11) = some o) : c1V x = (o == .gt || o == .eq) := by
  unfold c1V
  show ((double.read x).order (double.read E63) == _ || (double.read x).order (double.read E63) == _) = _
  rw [read_E63, h]; cases o <;> rfl
theorem c2_of {x : Nat} {o : Ordering} (h : (double.read x).order (.number true 4503599627370496 11) = some o) : c2V x = (o == .lt) := by
  unfold c2V
  show ((double.read x).order (double.read N63) == _) = _
  rw [read_N63, h]; cases o <;> rfl

theorem val_of {x : Nat} {s : Bool} {m : Nat} {i : Int} (h : double.read x = .number s m i) (hb : m * 2 ^ i.toNat / 2 ^ (-i).toNat < 9223372036854775808 ∨ (s = true ∧ m * 2 ^ i.toNat / 2 ^ (-i).toNat = 9223372036854775808)) :
    floatToIntVal .f64 x .i64 = some (signed s (m * 2 ^ i.toNat / 2 ^ (-i).toNat) 0) := by
  unfold floatToIntVal
  have e : FloatKind.f64.decode x = .number s m i := h
  rw [e, toInt_num]
  generalize m * 2 ^ i.toNat / 2 ^ (-i).toNat = q at *
  simp only
  rw [if_pos]
  have e1 : IntKind.i64.min = -9223372036854775808 := rfl
  have e2 : IntKind.i64.max = 9223372036854775807 := rfl
  rw [e1, e2]
  cases s
  · rw [signed_pos]; simp at hb; omega
  · rw [signed_neg]; simp at hb; omega

theorem q_zero {m a b : Nat} (hm : m < 9007199254740992) (ha : a = 0) (hb : 53 ≤ b) : m * 2 ^ a / 2 ^ b = 0 := by
  subst ha
  rw [Nat.pow_zero, Nat.mul_one]
  apply Nat.div_eq_of_lt
  have : 2 ^ 53 ≤ 2 ^ b := Nat.pow_le_pow_right (by omega) hb
  omega
theorem lt_shift {m k : Nat} (hm : m < 9007199254740992) (hk : 1 ≤ k) : m < 4503599627370496 * 2 ^ k := by
  have h : 2 ^ 1 ≤ 2 ^ k := Nat.pow_le_pow_right (by omega) hk
  have := Nat.mul_le_mul (Nat.le_refl 4503599627370496) h
  omega
theorem cmp_small (s : Bool) {M K : Nat} (h : M < K) : compare (signed s M 0) (signed false K 0) = .lt := by
  apply cmp_lt
  cases s
  · rw [signed_pos, signed_pos]; omega
  · rw [signed_pos, signed_neg]; omega
theorem cmp_small' (s : Bool) {M K : Nat} (h : M < K) : compare (signed s M 0) (signed true K 0) = .gt := by
  apply cmp_gt
  cases s
  · rw [signed_pos, signed_neg]; omega
  · rw [signed_neg, signed_neg]; omega

/-- the ways of ToInt -/
theorem toint_ways (n : Int) (h1 : -9223372036854775808 ≤ n) (h2 : n ≤ 9223372036854775807) (hn : isNanN (u64 n) = false) :
    (c1V (u64 n) = true ∧ toIntV n = 9223372036854775807) ∨
    (c1V (u64 n) = false ∧ c2V (u64 n) = true ∧ toIntV n = -9223372036854775808) ∨
    (c1V (u64 n) = false ∧ c2V (u64 n) = false ∧ floatToIntVal .f64 (u64 n) .i64 = some (toIntV n)) := by
  have hs := sign_of n h1 h2
  by_cases hi : u64 n % 9223372036854775808 = 9218868437227405312
  · have hr := read_inf hi
    rw [hs] at hr
    have he : 1086 ≤ expo n := by unfold expo; omega
    by_cases hneg : n < 0
    · right; left
      rw [decide_eq_true hneg] at hr
      refine ⟨?_, ?_, by simp [toIntV, hn, he, hneg]⟩
      · rw [c1_of (o := .lt) (by rw [hr]; rfl)]; rfl
      · rw [c2_of (o := .lt) (by rw [hr]; rfl)]; rfl
    · left
      rw [decide_eq_false hneg] at hr
      exact ⟨by rw [c1_of (o := .gt) (by rw [hr]; rfl)]; rfl, by simp [toIntV, hn, he, hneg]⟩
  · obtain ⟨m, i, hr, hmi⟩ := read_num hn hi
    rw [hs] at hr
    rcases hmi with ⟨hsub, hm, hii⟩ | ⟨hnor, hm, hii⟩
    · -- subnormal
      have he0 : expo n = 0 := by unfold expo; omega
      have hv : toIntV n = 0 := by simp [toIntV, hn, he0]
      subst hii
      have hq : m * 2 ^ (-1074 : Int).toNat / 2 ^ (-(-1074 : Int)).toNat = 0 := q_zero (by omega) rfl (by decide)
      have hlt : m < 4503599627370496 * 2 ^ (11 - (-1074 : Int)).toNat := lt_shift (by omega) (by decide)
      right; right
      refine ⟨?_, ?_, ?_⟩
      · rw [c1_of (o := .lt)]
        · rfl
        · rw [hr, order_small _ _ _ _ (by omega), cmp_small _ hlt]
      · rw [c2_of (o := .gt)]
        · rfl
        · rw [hr, order_small _ _ _ _ (by omega), cmp_small' _ hlt]
      · rw [val_of hr (by rw [hq]; left; omega), hq, hv]
        cases decide (n < 0) <;> simp [signed]
    · have hme : mant n = m := by unfold mant; omega
      have hie : i = (expo n : Int) - 1075 := by unfold expo; omega
      have hmg : m * 2 ^ i.toNat / 2 ^ (-i).toNat = magV n := by
        unfold magV
        rw [hme]
        have e1 : i.toNat = expo n - 1075 := by omega
        have e2 : (-i).toNat = 1075 - expo n := by omega
        rw [e1, e2]
      have hml := mant_lt n
      have hmge := mant_ge n
      by_cases hbig : 1086 ≤ expo n
      · have hi11 : 11 ≤ i := by omega
        have hp : 1 ≤ 2 ^ (i - 11).toNat := Nat.one_le_two_pow
        have hge : 4503599627370496 ≤ m * 2 ^ (i - 11).toNat := by
          have := Nat.mul_le_mul (show 4503599627370496 ≤ m by omega) hp
          omega
        by_cases hneg : n < 0
        · rw [decide_eq_true hneg] at hr
          have hc1 : c1V (u64 n) = false := by
            rw [c1_of (o := .lt)]
            · rfl
            · rw [hr, order_big _ _ _ _ (by omega) hi11]
              congr 1; apply cmp_lt
              rw [signed_pos, signed_neg]; omega
          have htv : toIntV n = -9223372036854775808 := by simp [toIntV, hn, hbig, hneg]
          by_cases hx : m * 2 ^ (i - 11).toNat = 4503599627370496
          · right; right
            have hi' : i = 11 := by
              have : ¬ 12 ≤ i := by
                intro h12
                have hp2 : 2 ^ 1 ≤ 2 ^ (i - 11).toNat := Nat.pow_le_pow_right (by omega) (by omega)
                have := Nat.mul_le_mul (show 4503599627370496 ≤ m by omega) hp2
                omega
              omega
            subst hi'
            have hm52 : m = 4503599627370496 := by simpa using hx
            refine ⟨hc1, ?_, ?_⟩
            · rw [c2_of (o := .eq)]
              · rfl
              · rw [hr, order_big _ _ _ _ (by omega) hi11, hx]
                rw [cmp_eq rfl]
            · have hq : m * 2 ^ (11 : Int).toNat / 2 ^ (-(11 : Int)).toNat = 9223372036854775808 := by rw [hm52]; rfl
              rw [val_of hr (by rw [hq]; right; exact ⟨rfl, rfl⟩), hq, htv, signed_neg]; rfl
          · right; left
            refine ⟨hc1, ?_, htv⟩
            rw [c2_of (o := .lt)]
            · rfl
            · rw [hr, order_big _ _ _ _ (by omega) hi11]
              congr 1; apply cmp_lt
              rw [signed_neg, signed_neg]; omega
        · left
          rw [decide_eq_false hneg] at hr
          refine ⟨?_, by simp [toIntV, hn, hbig, hneg]⟩
          by_cases hx : m * 2 ^ (i - 11).toNat = 4503599627370496
          · rw [c1_of (o := .eq)]
            · rfl
            · rw [hr, order_big _ _ _ _ (by omega) hi11]
              exact congrArg some (cmp_eq (by rw [hx]))
          · rw [c1_of (o := .gt)]
            · rfl
            · rw [hr, order_big _ _ _ _ (by omega) hi11]
              exact congrArg some (cmp_gt (by rw [signed_pos, signed_pos]; omega))
      · right; right
        have hlt : m < 4503599627370496 * 2 ^ (11 - i).toNat := lt_shift (by omega) (by omega)
        have hmv := magV_lt (show expo n < 1086 by omega)
        refine ⟨?_, ?_, ?_⟩
        · rw [c1_of (o := .lt)]
          · rfl
          · rw [hr, order_small _ _ _ _ (by omega), cmp_small _ hlt]
        · rw [c2_of (o := .gt)]
          · rfl
          · rw [hr, order_small _ _ _ _ (by omega), cmp_small' _ hlt]
        · rw [val_of hr (by rw [hmg]; left; exact hmv), hmg]
          congr 1
          have h0 : expo n < 1023 → magV n = 0 := by
            intro h
            unfold magV
            have e1 : expo n - 1075 = 0 := by omega
            rw [e1, Nat.pow_zero, Nat.mul_one]
            apply Nat.div_eq_of_lt
            have : 2 ^ 53 ≤ 2 ^ (1075 - expo n) := Nat.pow_le_pow_right (by omega) (by omega)
            omega
          unfold toIntV
          rw [hn, if_neg (by simp), if_neg hbig]
          by_cases hs : expo n < 1023
          · rw [if_pos hs, h0 hs]; cases decide (n < 0) <;> simp [signed]
          · rw [if_neg hs]
            by_cases hneg : n < 0
            · rw [decide_eq_true hneg, if_pos hneg, signed_neg]
            · rw [decide_eq_false hneg, if_neg hneg, signed_pos]

theorem tmod63 (n : Int) : (IntKind.u64.wrap n).tmod 9223372036854775808 = ((u64 n % 9223372036854775808 : Nat) : Int) := by
  rw [IntKind.wrap_u64, tmod_of_emod]
  unfold u64
  omega
theorem half_step (a j : Nat) : a / 2 ^ j / 2 = a / 2 ^ (j + 1) := by rw [Nat.div_div_eq_div_mul, Nat.pow_succ]
theorem mag_end (m e : Nat) : m / 2 ^ (1075 - e) * 2 ^ (e - 1075) = m * 2 ^ (e - 1075) / 2 ^ (1075 - e) := by
  by_cases h : e ≤ 1075
  · have e1 : e - 1075 = 0 := by omega
    rw [e1, Nat.pow_zero, Nat.mul_one, Nat.mul_one]
  · have e1 : 1075 - e = 0 := by omega
    rw [e1, Nat.pow_zero, Nat.div_one, Nat.div_one]
theorem grow_lt {m e j : Nat} (hm : m < 9007199254740992) (he : e < 1086) (hj : 1075 + j ≤ max e 1075) : m / 2 ^ (1075 - e) * 2 ^ j < 9223372036854775808 := by
  have h1 : m / 2 ^ (1075 - e) ≤ m := Nat.div_le_self _ _
  have h2 : 2 ^ j ≤ 2 ^ 10 := Nat.pow_le_pow_right (by omega) (by omega)
  have h3 : m / 2 ^ (1075 - e) * 2 ^ j ≤ 9007199254740991 * 2 ^ 10 := Nat.mul_le_mul (by omega) h2
  omega

theorem neg_back {y : Nat} (h : y < 9223372036854775808) : wrap64 (IntKind.u64.wrap (-(y : Int))) = -(y : Int) := by
  rw [IntKind.wrap_u64]
  unfold wrap64
  omega

end Go.Proofs.Ytiheecgabfcigaa.Flo
