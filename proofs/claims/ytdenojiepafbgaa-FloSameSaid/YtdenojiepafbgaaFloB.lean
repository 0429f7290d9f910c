/- Plain laws of floats: what leaves a float as it is; sums and products turned round; whole numbers as floats. -/
import Derived.Test.YtdenojiepafbgaaFloA
namespace Go.Proofs.Ytdenojiepafbgaa.Flo
open Go.RowKit Ieee

theorem sum_comm (a b : Datum) : a.sum b = b.sum a := by
  cases a with
  | nan s f => cases b <;> rfl
  | infinity s =>
    cases b with
    | nan t f => rfl
    | infinity t => cases s <;> cases t <;> rfl
    | number t n j => rfl
  | number s m i =>
    cases b with
    | nan t f => rfl
    | infinity t => rfl
    | number t n j =>
      simp only [Datum.sum]
      rw [Int.min_comm j i, Int.add_comm (signed t n _), Bool.and_comm t s]
theorem product_comm (a b : Datum) : a.product b = b.product a := by
  cases a with
  | nan s f => cases b <;> rfl
  | infinity s =>
    cases b with
    | nan t f => rfl
    | infinity t => cases s <;> cases t <;> rfl
    | number t n j => simp only [Datum.product]
  | number s m i =>
    cases b with
    | nan t f => rfl
    | infinity t => simp only [Datum.product]
    | number t n j =>
      simp only [Datum.product]
      rw [Bool.xor_comm s t, Nat.mul_comm m n, Int.add_comm i j]
theorem add_comm' (x y : Nat) : arithV .add x y = arithV .add y x := by
  have : floatBits .add .f64 x y = floatBits .add .f64 y x := by
    show ((double.read x).sum (double.read y)).map double.write = ((double.read y).sum (double.read x)).map double.write
    rw [sum_comm]
  simp only [arithV, this]
theorem mul_comm' (x y : Nat) : arithV .mul x y = arithV .mul y x := by
  have : floatBits .mul .f64 x y = floatBits .mul .f64 y x := by
    show ((double.read x).product (double.read y)).map double.write = ((double.read y).product (double.read x)).map double.write
    rw [product_comm]
  simp only [arithV, this]

theorem signed_zero (s : Bool) (k : Nat) : signed s 0 k = 0 := by cases s <;> simp [signed]
theorem signed_natAbs (s : Bool) (m k : Nat) : (signed s m k).natAbs = m * 2 ^ k := by
  unfold signed
  rw [Nat.shiftLeft_eq]
  generalize m * 2 ^ k = x
  cases s <;> simp
theorem signed_lt (s : Bool) (m k : Nat) (h : m ≠ 0) : decide (signed s m k < 0) = s := by
  have hp : 0 < m * 2 ^ k := Nat.mul_pos (by omega) (Nat.two_pow_pos k)
  unfold signed
  rw [Nat.shiftLeft_eq]
  generalize m * 2 ^ k = x at *
  cases s <;> simp <;> omega

/-- to add -0 -/
theorem sum_neg0 {d : Datum} (h : d.isNaN = false) : (d.sum (.number true 0 (-1074))).map double.write = some (double.write d) := by
  cases d with
  | nan s f => simp [Datum.isNaN] at h
  | infinity s => rfl
  | number s m i =>
    have key : Datum.sum (.number s m i) (.number true 0 (-1074)) = some (.number s (m * 2 ^ (i - min i (-1074)).toNat) (min i (-1074))) := by
      simp only [Datum.sum, signed_zero, Int.add_zero, signed_natAbs]
      by_cases hm : m = 0
      · subst hm
        simp only [signed_zero, if_true, Bool.and_true]
      · have hz : signed s m (i - min i (-1074)).toNat ≠ 0 := by
          intro h0
          have := signed_natAbs s m (i - min i (-1074)).toNat
          rw [h0] at this
          have hp : 0 < m * 2 ^ (i - min i (-1074)).toNat := Nat.mul_pos (by omega) (Nat.two_pow_pos _)
          simp at this
          omega
        rw [if_neg hz, signed_lt s m _ hm]
    rw [key]
    show some (double.nearest _ _ _) = some (double.nearest _ _ _)
    have e : min i (-1074) = i - ((i - min i (-1074)).toNat : Nat) := by omega
    have := nearest_scale double s m (i - min i (-1074)).toNat i
    rw [← e] at this
    rw [this]

theorem product_one {d : Datum} (h : d.isNaN = false) : (d.product (.number false 4503599627370496 (-52))).map double.write = some (double.write d) := by
  cases d with
  | nan s f => simp [Datum.isNaN] at h
  | infinity s => cases s <;> rfl
  | number s m i =>
    show some (double.nearest (s ^^ false) (m * 4503599627370496) (i + -52)) = some (double.nearest s m i)
    have := nearest_scale double s m 52 i
    rw [Bool.xor_false, ← this]
    rfl

theorem quotient_one {d : Datum} (h : d.isNaN = false) (hm : ∀ s m i, d = .number s m i → m < 9007199254740992) : (d.quotient 54 (.number false 4503599627370496 (-52))).map double.write = some (double.write d) := by
  cases d with
  | nan s f => simp [Datum.isNaN] at h
  | infinity s => cases s <;> rfl
  | number s m i =>
    have hml := hm s m i rfl
    have hl : m.log2 ≤ 52 := by
      by_cases h0 : m = 0
      · subst h0; decide
      · have := (Nat.log2_lt h0).2 (show m < 2 ^ 53 by omega); omega
    have e0 : (4503599627370496 : Nat).log2 = 52 := by decide
    have e1 : (m <<< (54 + 52 - m.log2)) = (m * 2 ^ (54 - m.log2)) * 4503599627370496 := by
      rw [Nat.shiftLeft_eq, show 54 + 52 - m.log2 = (54 - m.log2) + 52 from by omega, Nat.pow_add, ← Nat.mul_assoc]
    have key : Datum.quotient 54 (.number s m i) (.number false 4503599627370496 (-52)) = some (.number s (m * 2 ^ (55 - m.log2)) (i - (55 - m.log2 : Nat))) := by
      simp only [Datum.quotient, e0]
      rw [if_neg (by decide), e1, Nat.mul_div_cancel _ (by decide), Nat.mul_mod_left, Bool.xor_false]
      have e2 : 2 * (m * 2 ^ (54 - m.log2)) + ((0 : Nat) != 0).toNat = m * 2 ^ (55 - m.log2) := by
        rw [show 55 - m.log2 = (54 - m.log2) + 1 from by omega, Nat.pow_succ, ← Nat.mul_assoc m]
        exact Nat.mul_comm _ _
      rw [e2]
      congr 2
      omega
    rw [key]
    show some (double.nearest _ _ _) = some (double.nearest _ _ _)
    rw [nearest_scale]

theorem read_mant {x : Nat} (h : isNanN x = false) {s : Bool} {m : Nat} {i : Int} (hr : double.read x = .number s m i) : m < 9007199254740992 := by
  by_cases hi : x % 9223372036854775808 = 9218868437227405312
  · rw [read_inf hi] at hr; cases hr
  · obtain ⟨m', i', hr', hmi⟩ := read_num h hi
    rw [hr'] at hr
    cases hr
    omega

theorem stays {a : Int} (h1 : -9223372036854775808 ≤ a) (h2 : a ≤ 9223372036854775807) (op : BinOp) (y : Nat) (hy : y < 18446744073709551616)
    (h : isNanN (u64 a) = false → floatBits op .f64 (u64 a) y = some (double.write (double.read (u64 a)))) : arithV op (pb a) y = plainV a := by
  cases hn : isNanN (u64 a)
  · rw [pb_of_num hn, arithV, h hn, write_read (u64_lt a) hn, plain_num hn]
    show plainV (wrap64 (u64 a : Int)) = a
    rw [u64_i64 a h1 h2, plain_num hn]
  · rw [arith_nan (pb_lt a) hy (.inl (by rw [isNanN_pb]; exact hn))]
    simp [plainV, hn]
theorem pb_neg0 : pb (-9223372036854775808) = 9223372036854775808 := by decide
theorem pb_zero : pb 0 = 0 := by decide
theorem pb_one : pb 4607182418800017408 = 4607182418800017408 := by decide
theorem read_neg0 : double.read 9223372036854775808 = .number true 0 (-1074) := by decide
theorem read_zero : double.read 0 = .number false 0 (-1074) := by decide
theorem read_one : double.read 4607182418800017408 = .number false 4503599627370496 (-52) := by decide
theorem num_of {a : Int} (h : isNanN (u64 a) = false) : (double.read (u64 a)).isNaN = false := by rw [read_nan (u64_lt a)]; exact h

section
variable {a : Int} (h1 : -9223372036854775808 ≤ a) (h2 : a ≤ 9223372036854775807)
include h1 h2
theorem add_neg0 : arithV .add (pb a) (pb (-9223372036854775808)) = plainV a := by
  rw [pb_neg0]
  refine stays h1 h2 _ _ (by omega) fun hn => ?_
  show ((double.read (u64 a)).sum (double.read 9223372036854775808)).map double.write = _
  rw [read_neg0, sum_neg0 (num_of hn)]
theorem sub_zero' : arithV .sub (pb a) (pb 0) = plainV a := by
  rw [pb_zero]
  refine stays h1 h2 _ _ (by omega) fun hn => ?_
  show ((double.read (u64 a)).sum (double.read 0).opposite).map double.write = _
  rw [read_zero]
  show ((double.read (u64 a)).sum (.number true 0 (-1074))).map double.write = _
  rw [sum_neg0 (num_of hn)]
theorem mul_one' : arithV .mul (pb a) (pb 4607182418800017408) = plainV a := by
  rw [pb_one]
  refine stays h1 h2 _ _ (by omega) fun hn => ?_
  show ((double.read (u64 a)).product (double.read 4607182418800017408)).map double.write = _
  rw [read_one, product_one (num_of hn)]
theorem div_one' : arithV .quo (pb a) (pb 4607182418800017408) = plainV a := by
  rw [pb_one]
  refine stays h1 h2 _ _ (by omega) fun hn => ?_
  show ((double.read (u64 a)).quotient 54 (double.read 4607182418800017408)).map double.write = _
  rw [read_one, quotient_one (num_of hn) (fun s m i hr => read_mant hn hr)]
end

/-! whole numbers as floats -/
def bitsOf (z : Int) : Nat := double.nearest (decide (z < 0)) z.natAbs 0
theorem ofInt_bits (z : Int) : floatOfInt .f64 z = bitsOf z := rfl

theorem whole_word (z : Int) (hz : z ≠ 0) (hb : z.natAbs ≤ 9007199254740992) :
    ∃ (m : Nat) (i : Int), 4503599627370496 ≤ m ∧ m < 9007199254740992 ∧ -52 ≤ i ∧ i ≤ 1 ∧ (z.natAbs ≤ 4503599627370496 → i ≤ 0) ∧ m * 2 ^ i.toNat = z.natAbs * 2 ^ (-i).toNat ∧ bitsOf z = double.word (decide (z < 0)) ((i + 1074).toNat * 4503599627370496 + m) := by
  have hn : z.natAbs ≠ 0 := by omega
  unfold bitsOf
  generalize decide (z < 0) = s
  generalize z.natAbs = n at *
  by_cases h53 : n = 9007199254740992
  · subst h53
    refine ⟨4503599627370496, 1, by omega, by omega, by omega, by omega, by omega, by decide, ?_⟩
    have h := nearest_scale double s 4503599627370496 1 1
    have h2 := nearest_exact s 4503599627370496 1 (by omega) (by decide) (by decide)
    exact h.trans h2
  · have hl : n.log2 ≤ 52 := by
      have := (Nat.log2_lt hn).2 (show n < 2 ^ 53 by omega); omega
    have h1 := Nat.log2_self_le hn
    have h2 : n < 2 ^ (n.log2 + 1) := Nat.lt_log2_self
    have hp : 0 < 2 ^ (52 - n.log2) := Nat.two_pow_pos _
    have hm1 : 4503599627370496 ≤ n * 2 ^ (52 - n.log2) := by
      have := Nat.mul_le_mul_right (2 ^ (52 - n.log2)) h1
      rw [← Nat.pow_add, show n.log2 + (52 - n.log2) = 52 from by omega] at this
      exact this
    have hm2 : n * 2 ^ (52 - n.log2) < 9007199254740992 := by
      have := Nat.mul_lt_mul_of_pos_right h2 hp
      rw [← Nat.pow_add, show n.log2 + 1 + (52 - n.log2) = 53 from by omega] at this
      exact this
    have hlm := log2_eq (n := n * 2 ^ (52 - n.log2)) (k := 52) (by omega) (by omega)
    have hsc := nearest_scale double s n (52 - n.log2) 0
    refine ⟨n * 2 ^ (52 - n.log2), 0 - ((52 - n.log2 : Nat) : Int), hm1, hm2, by omega, by omega, fun _ => by omega, ?_, ?_⟩
    · have e1 : (0 - ((52 - n.log2 : Nat) : Int)).toNat = 0 := by omega
      have e2 : (-(0 - ((52 - n.log2 : Nat) : Int))).toNat = 52 - n.log2 := by omega
      rw [e1, e2, Nat.pow_zero, Nat.mul_one]
    · rw [← hsc]
      exact nearest_exact s _ _ (by omega) (by omega) (by omega)

theorem word_lt64 (s : Bool) {v : Nat} (h : v < 9223372036854775808) : double.word s v < 18446744073709551616 := by
  rw [double_word]; split <;> omega
theorem word_mod (s : Bool) {v : Nat} (h : v < 9223372036854775808) : double.word s v % 9223372036854775808 = v := by
  rw [double_word]; split <;> omega
theorem bits_lt (z : Int) : bitsOf z < 18446744073709551616 := double.nearest_lt _ _ _
theorem bits_num (z : Int) : isNanN (bitsOf z) = false := write_not_nan (d := .number (decide (z < 0)) z.natAbs 0) rfl
theorem ofIntV_eq (z : Int) : ofIntV z = wrap64 (bitsOf z) := by
  unfold ofIntV
  rw [ofInt_bits]
  exact plain_num (by rw [u64_wrap64 _ (bits_lt z)]; exact bits_num z)
theorem u64_ofInt (z : Int) : u64 (ofIntV z) = bitsOf z := by rw [ofIntV_eq, u64_wrap64 _ (bits_lt z)]
theorem pb_ofInt (z : Int) : pb (ofIntV z) = bitsOf z := by
  rw [pb_of_num (by rw [u64_ofInt]; exact bits_num z), u64_ofInt]

theorem toInt_ofInt (z : Int) (hb : z.natAbs ≤ 9007199254740992) : toIntV (ofIntV z) = z := by
  by_cases hz : z = 0
  · subst hz; decide +kernel
  · obtain ⟨m, i, h1, h2, h3, h4, _, h5, h6⟩ := whole_word z hz hb
    have hv : (i + 1074).toNat * 4503599627370496 + m < 9223372036854775808 := by omega
    have hu : u64 (ofIntV z) % 9223372036854775808 = (i + 1074).toNat * 4503599627370496 + m := by rw [u64_ofInt, h6, word_mod _ hv]
    have he : (expo (ofIntV z) : Int) = i + 1075 := by unfold expo; rw [hu]; omega
    have hm : mant (ofIntV z) = m := by unfold mant; rw [hu]; omega
    have hg : magV (ofIntV z) = z.natAbs := by
      unfold magV
      rw [hm, show expo (ofIntV z) - 1075 = i.toNat from by omega, show 1075 - expo (ofIntV z) = (-i).toNat from by omega, h5]
      exact Nat.mul_div_cancel _ (Nat.two_pow_pos _)
    have hs : (ofIntV z < 0) ↔ z < 0 := by
      rw [ofIntV_eq, h6, double_word, wrap64_eq']
      by_cases hneg : z < 0
      · simp only [hneg, decide_true, if_true]
        constructor
        · intro _; trivial
        · intro _; split <;> omega
      · simp only [hneg, decide_false, Bool.false_eq_true, if_false]
        constructor
        · intro h; split at h <;> omega
        · intro h; exact h.elim
    unfold toIntV
    rw [u64_ofInt, bits_num, if_neg (by decide), if_neg (by omega), if_neg (by omega), hg]
    by_cases hneg : z < 0
    · rw [if_pos (hs.2 hneg)]; omega
    · rw [if_neg (fun h => hneg (hs.1 h))]; omega

def IsInt (d : Datum) (z : Int) : Prop := ∃ m i, d = .number (decide (z < 0)) m i ∧ i ≤ 0 ∧ m = z.natAbs * 2 ^ (-i).toNat
theorem read_whole (z : Int) (hb : z.natAbs ≤ 4503599627370496) : IsInt (double.read (bitsOf z)) z := by
  by_cases hz : z = 0
  · subst hz
    exact ⟨0, -1074, by decide, by omega, by rw [Int.natAbs_zero, Nat.zero_mul]⟩
  · obtain ⟨m, i, h1, h2, h3, h4, h0, h5, h6⟩ := whole_word z hz (by omega)
    have hi := h0 hb
    have hv : (i + 1074).toNat * 4503599627370496 + m < 9223372036854775808 := by omega
    have hmod : bitsOf z % 9223372036854775808 = (i + 1074).toNat * 4503599627370496 + m := by rw [h6, word_mod _ hv]
    obtain ⟨m', i', hr, hmi⟩ := read_num (bits_num z) (by rw [hmod]; omega)
    have hsg : (bitsOf z / 9223372036854775808 % 2 == 1) = decide (z < 0) := by
      rw [h6, double_word]
      by_cases hneg : z < 0
      · simp only [hneg, decide_true, if_true, beq_iff_eq]; omega
      · simp only [hneg, decide_false, Bool.false_eq_true, if_false, beq_eq_false_iff_ne]; omega
    rw [hsg] at hr
    refine ⟨m', i', hr, ?_, ?_⟩
    · omega
    · have e1 : m' = m := by omega
      have e2 : i' = i := by omega
      rw [e1, e2, ← h5, show i.toNat = 0 from by omega, Nat.pow_zero, Nat.mul_one]

theorem signed_int {z : Int} {m k q : Nat} (h : m * 2 ^ k = z.natAbs * 2 ^ q) : signed (decide (z < 0)) m k = z * ((2 ^ q : Nat) : Int) := by
  unfold signed
  rw [Nat.shiftLeft_eq, h]
  generalize 2 ^ q = P
  by_cases hn : z < 0
  · simp only [hn, decide_true, if_true]
    rw [Int.natCast_mul, Int.ofNat_natAbs_of_nonpos (by omega)]
    rw [Int.neg_mul, Int.neg_neg]
  · simp only [hn, decide_false, Bool.false_eq_true, if_false]
    rw [Int.natCast_mul, Int.natAbs_of_nonneg (by omega)]
theorem signed_int' {z : Int} {m k q : Nat} (h : m * 2 ^ k = z.natAbs * 2 ^ q) : signed (!decide (z < 0)) m k = -(z * ((2 ^ q : Nat) : Int)) := by
  rw [← signed_int h]
  unfold signed
  by_cases hn : z < 0 <;> simp [hn]

theorem align {z : Int} {m : Nat} {i base : Int} (hi : i ≤ 0) (hb : base ≤ i) (hm : m = z.natAbs * 2 ^ (-i).toNat) : m * 2 ^ (i - base).toNat = z.natAbs * 2 ^ (-base).toNat := by
  rw [hm, Nat.mul_assoc, ← Nat.pow_add]
  congr 2
  omega

theorem mul_lt_zero {z P : Int} (hP : 0 < P) : z * P < 0 ↔ z < 0 := by
  constructor
  · intro h
    apply Classical.byContradiction
    intro hn
    have := Int.mul_nonneg (show 0 ≤ z by omega) (Int.le_of_lt hP)
    omega
  · intro h; exact Int.mul_neg_of_neg_of_pos h hP

theorem sum_int_aux (s : Bool) (z : Int) (q : Nat) (hs : z = 0 → s = false) (base : Int) (hb : base = 0 - (q : Int)) :
    double.nearest (if z * ((2 ^ q : Nat) : Int) = 0 then s else decide (z * ((2 ^ q : Nat) : Int) < 0)) (z * ((2 ^ q : Nat) : Int)).natAbs base = bitsOf z := by
  have hP : (0 : Int) < ((2 ^ q : Nat) : Int) := by have := Nat.two_pow_pos q; omega
  have e1 : (z * ((2 ^ q : Nat) : Int)).natAbs = z.natAbs * 2 ^ q := by rw [Int.natAbs_mul, Int.natAbs_natCast]
  rw [e1, hb, nearest_scale]
  unfold bitsOf
  by_cases hz : z = 0
  · rw [hs hz]; subst hz; simp
  · have : z * ((2 ^ q : Nat) : Int) ≠ 0 := Int.mul_ne_zero hz (by omega)
    rw [if_neg this, decide_eq_decide.2 (mul_lt_zero hP)]

theorem sum_int {d e : Datum} {z w : Int} (hd : IsInt d z) (he : IsInt e w) : (d.sum e).map double.write = some (bitsOf (z + w)) := by
  obtain ⟨m, i, rfl, hi, hm⟩ := hd
  obtain ⟨n, j, rfl, hj, hn⟩ := he
  have b0 : min i j ≤ 0 := by omega
  have s1 := signed_int (align hi (show min i j ≤ i by omega) hm)
  have s2 := signed_int (align hj (show min i j ≤ j by omega) hn)
  simp only [Datum.sum, s1, s2, Option.map_some]
  rw [← Int.add_mul]
  exact congrArg some (sum_int_aux _ (z + w) (-min i j).toNat (fun h => by by_cases h1 : z < 0 <;> by_cases h2 : w < 0 <;> simp [h1, h2]; omega) _ (by omega))
theorem diff_int {d e : Datum} {z w : Int} (hd : IsInt d z) (he : IsInt e w) : (d.sum e.opposite).map double.write = some (bitsOf (z - w)) := by
  obtain ⟨m, i, rfl, hi, hm⟩ := hd
  obtain ⟨n, j, rfl, hj, hn⟩ := he
  have b0 : min i j ≤ 0 := by omega
  have s1 := signed_int (align hi (show min i j ≤ i by omega) hm)
  have s2 := signed_int' (align hj (show min i j ≤ j by omega) hn)
  simp only [Datum.opposite, Datum.sum, s1, s2, Option.map_some]
  rw [← Int.sub_eq_add_neg, ← Int.sub_mul]
  exact congrArg some (sum_int_aux _ (z - w) (-min i j).toNat (fun h => by by_cases h1 : z < 0 <;> by_cases h2 : w < 0 <;> simp [h1, h2]; omega) _ (by omega))

theorem cmp_mul {z w P : Int} (hP : 0 < P) : compare (z * P) (w * P) = compare z w := by
  rcases Int.lt_trichotomy z w with h | h | h
  · rw [cmp_lt h, cmp_lt (Int.mul_lt_mul_of_pos_right h hP)]
  · rw [cmp_eq h, cmp_eq (by rw [h])]
  · rw [cmp_gt h, cmp_gt (Int.mul_lt_mul_of_pos_right h hP)]
theorem order_int {d e : Datum} {z w : Int} (hd : IsInt d z) (he : IsInt e w) : d.order e = some (compare z w) := by
  obtain ⟨m, i, rfl, hi, hm⟩ := hd
  obtain ⟨n, j, rfl, hj, hn⟩ := he
  have s1 := signed_int (align hi (show min i j ≤ i by omega) hm)
  have s2 := signed_int (align hj (show min i j ≤ j by omega) hn)
  simp only [Datum.order, s1, s2]
  rw [cmp_mul (by have := Nat.two_pow_pos (-min i j).toNat; omega)]

section
variable {a b : Int} (ha : a.natAbs ≤ 4503599627370496) (hb : b.natAbs ≤ 4503599627370496)
include ha hb
theorem add_whole : (doV 15 (ofIntV a) (ofIntV b)).1 = ofIntV (a + b) := by
  have h : floatBits .add .f64 (bitsOf a) (bitsOf b) = some (bitsOf (a + b)) := sum_int (read_whole a ha) (read_whole b hb)
  show arithV .add (pb (ofIntV a)) (pb (ofIntV b)) = _
  rw [pb_ofInt, pb_ofInt, arithV, h]
  rfl
theorem sub_whole : (doV 16 (ofIntV a) (ofIntV b)).1 = ofIntV (a - b) := by
  have h : floatBits .sub .f64 (bitsOf a) (bitsOf b) = some (bitsOf (a - b)) := diff_int (read_whole a ha) (read_whole b hb)
  show arithV .sub (pb (ofIntV a)) (pb (ofIntV b)) = _
  rw [pb_ofInt, pb_ofInt, arithV, h]
  rfl
theorem lt_whole : (doV 20 (ofIntV a) (ofIntV b)).1 = tr (decide (a < b)) := by
  have h : ordV (bitsOf a) (bitsOf b) = some (compare a b) := order_int (read_whole a ha) (read_whole b hb)
  show tr (ordV (pb (ofIntV a)) (pb (ofIntV b)) == some .lt) = _
  rw [pb_ofInt, pb_ofInt, h]
  congr 1
  by_cases hlt : a < b
  · rw [cmp_lt hlt]; simp [hlt]
  · by_cases heq : a = b
    · rw [cmp_eq heq]; simp [hlt]
    · rw [cmp_gt (by omega)]; simp [hlt]
end

/-! what the statements ask -/
theorem arith_plain (op : BinOp) (x y : Nat) : plainV (arithV op x y) = arithV op x y := by
  unfold arithV
  split
  · exact plain_plain _
  · decide
theorem tr_plain (b : Bool) : plainV (tr b) = tr b := by cases b <;> decide
theorem do_plain (op a b : Int) : plainV (doV op a b).1 = (doV op a b).1 := by
  by_cases h : op < 15 ∨ 21 < op
  · rw [doV_out h]; decide
  · have h' : op = 15 ∨ op = 16 ∨ op = 17 ∨ op = 18 ∨ op = 19 ∨ op = 20 ∨ op = 21 := by omega
    rcases h' with rfl | rfl | rfl | rfl | rfl | rfl | rfl
    · exact arith_plain .add _ _
    · exact arith_plain .sub _ _
    · exact arith_plain .mul _ _
    · exact arith_plain .quo _ _
    · exact tr_plain (ordV (pb a) (pb b) == some .eq)
    · exact tr_plain (ordV (pb a) (pb b) == some .lt)
    · exact tr_plain (ordV (pb a) (pb b) == some .lt || ordV (pb a) (pb b) == some .eq)
theorem pb_plain (a : Int) : pb (plainV a) = pb a := by unfold pb; rw [plain_plain]
theorem do_of_plain (op a b : Int) : doV op (plainV a) (plainV b) = doV op a b := by unfold doV; rw [pb_plain, pb_plain]
theorem plain_is_nan {a : Int} (h : plainV a = nanC) : isNanN (u64 a) = true := by
  cases hn : isNanN (u64 a)
  · rw [plain_num hn] at h; rw [h, nanC_nan] at hn; cases hn
  · rfl
theorem plain_not_nan {a : Int} (h : plainV a ≠ nanC) : isNanN (u64 a) = false := by
  cases hn : isNanN (u64 a)
  · rfl
  · exact absurd (by simp [plainV, hn]) h
theorem do_ok {op a b : Int} (h : (doV op a b).2 = true) : 15 ≤ op ∧ op ≤ 21 := by
  apply Classical.byContradiction
  intro hn
  rw [doV_out (by omega)] at h
  cases h

theorem plain_range {a : Int} (h1 : -9223372036854775808 ≤ a) (h2 : a ≤ 9223372036854775807) : -9223372036854775808 ≤ plainV a ∧ plainV a ≤ 9223372036854775807 := by
  unfold plainV nanC
  split <;> omega
theorem get_text {n : Int} (h1 : -9223372036854775808 ≤ n) (h2 : n ≤ 9223372036854775807) : getV (hexText (pb n)) = (plainV n, true) := by
  have hr := plain_range h1 h2
  have e1 : decTo (hexText (pb n)) 16 = pb n := by
    have := decTo_hexText (pb n) 16 (pb_lt n) (by omega)
    rwa [Nat.sub_self, Nat.pow_zero, Nat.div_one] at this
  have e2 : wrap64 (pb n : Int) = plainV n := u64_i64 _ hr.1 hr.2
  unfold getV
  rw [e1, e2, pb_plain, if_pos ⟨hexText_length _, rfl⟩]
theorem get_back {l : List UInt8} {k : Int} (h : getV l = (k, true)) : hexText (pb k) = l := by
  unfold getV at h
  split at h
  · rename_i hh
    cases h
    exact hh.2
  · cases h

end Go.Proofs.Ytdenojiepafbgaa.Flo
