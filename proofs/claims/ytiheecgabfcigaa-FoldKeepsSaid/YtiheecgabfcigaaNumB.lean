/- Plain laws of whole numbers of 64 bits: as numbers without a sign, bit by bit, shifted. -/
import Derived.Test.YtiheecgabfcigaaNum
namespace Go.Proofs.Ytiheecgabfcigaa.Num
open Go.RowKit

theorem u_add (a b : Int) : wrap64 (IntKind.u64.wrap (IntKind.u64.wrap a + IntKind.u64.wrap b)) = wrap64 (a + b) := by
  simp only [IntKind.wrap_u64]; unfold wrap64; omega
theorem u_sub (a b : Int) : wrap64 (IntKind.u64.wrap (IntKind.u64.wrap a - IntKind.u64.wrap b)) = wrap64 (a - b) := by
  simp only [IntKind.wrap_u64]; unfold wrap64; omega
theorem wrap64_congr {x y : Int} (h : x % 18446744073709551616 = y % 18446744073709551616) : wrap64 x = wrap64 y := by unfold wrap64; omega
theorem u_mul (a b : Int) : wrap64 (IntKind.u64.wrap (IntKind.u64.wrap a * IntKind.u64.wrap b)) = wrap64 (a * b) := by
  apply wrap64_congr
  simp only [IntKind.wrap_u64]
  rw [Int.emod_emod_of_dvd _ (Int.dvd_refl _), ← Int.mul_emod]

theorem tdiv_abs (a b : Int) : a.tdiv b = if (decide (a < 0) != decide (b < 0)) then -((a.natAbs / b.natAbs : Nat) : Int) else ((a.natAbs / b.natAbs : Nat) : Int) := by
  obtain ⟨A, rfl | rfl⟩ := Int.eq_nat_or_neg a
  · obtain ⟨B, rfl | rfl⟩ := Int.eq_nat_or_neg b
    · have h1 : ¬ ((A : Int) < 0) := by omega
      have h2 : ¬ ((B : Int) < 0) := by omega
      simp only [h1, h2, decide_false, bne_self_eq_false, Bool.false_eq_true, if_false, Int.natAbs_natCast]
      rfl
    · by_cases hB : B = 0
      · subst hB; simp
      · have h1 : ¬ ((A : Int) < 0) := by omega
        have h2 : (-(B : Int) < 0) := by omega
        simp only [h1, h2, decide_false, decide_true, Bool.false_bne, if_true, Int.natAbs_natCast, Int.natAbs_neg, Int.tdiv_neg]
        rfl
  · by_cases hA : A = 0
    · subst hA; simp
    · have h1 : (-(A : Int) < 0) := by omega
      obtain ⟨B, rfl | rfl⟩ := Int.eq_nat_or_neg b
      · have h2 : ¬ ((B : Int) < 0) := by omega
        simp only [h1, h2, decide_false, decide_true, Bool.true_bne, Bool.not_false, if_true, Int.natAbs_natCast, Int.natAbs_neg, Int.neg_tdiv]
        rfl
      · by_cases hB : B = 0
        · subst hB; simp
        · have h2 : (-(B : Int) < 0) := by omega
          simp only [h1, h2, decide_true, bne_self_eq_false, Bool.false_eq_true, if_false, Int.natAbs_natCast, Int.natAbs_neg, Int.neg_tdiv, Int.tdiv_neg, Int.neg_neg]
          rfl
theorem tmod_abs (a b : Int) : a.tmod b = if a < 0 then -((a.natAbs % b.natAbs : Nat) : Int) else ((a.natAbs % b.natAbs : Nat) : Int) := by
  obtain ⟨A, rfl | rfl⟩ := Int.eq_nat_or_neg a
  · have h1 : ¬ ((A : Int) < 0) := by omega
    obtain ⟨B, rfl | rfl⟩ := Int.eq_nat_or_neg b
    · simp only [h1, if_false, Int.natAbs_natCast]; rfl
    · simp only [h1, if_false, Int.natAbs_natCast, Int.natAbs_neg, Int.tmod_neg]; rfl
  · by_cases hA : A = 0
    · subst hA; simp
    · have h1 : (-(A : Int) < 0) := by omega
      obtain ⟨B, rfl | rfl⟩ := Int.eq_nat_or_neg b
      · simp only [h1, if_true, Int.natAbs_natCast, Int.natAbs_neg, Int.neg_tmod]; rfl
      · simp only [h1, if_true, Int.natAbs_natCast, Int.natAbs_neg, Int.neg_tmod, Int.tmod_neg]; rfl

/-! shifting -/
theorem shl_step {x z : Int} (hx : x = IntKind.u64.wrap z) : IntKind.u64.wrap (x * 2) = IntKind.u64.wrap (z * 2) := by
  subst hx; simp only [IntKind.wrap_u64]; omega
theorem shr_pos {x z : Int} (hx : x = IntKind.u64.wrap z) (h0 : 0 ≤ z) (h1 : z ≤ 9223372036854775807) : IntKind.u64.wrap (x.tdiv 2) = IntKind.u64.wrap (z / 2) := by
  subst hx; simp only [IntKind.wrap_u64]
  rw [Int.tdiv_eq_ediv_of_nonneg (by omega)]; omega
theorem shr_neg {x z : Int} (hx : x = IntKind.u64.wrap z) (h0 : z < 0) (h1 : -9223372036854775808 ≤ z) : IntKind.u64.wrap (IntKind.u64.wrap (x.tdiv 2) + 9223372036854775808) = IntKind.u64.wrap (z / 2) := by
  subst hx; simp only [IntKind.wrap_u64]
  rw [Int.tdiv_eq_ediv_of_nonneg (by omega)]; omega
theorem shr_next (a : Int) (k : Nat) : a / 2 ^ k / 2 = a / 2 ^ (k + 1) := by
  have hp : (0 : Int) < 2 ^ k := Int.pow_pos (by decide)
  rw [Int.ediv_ediv, if_neg (by omega), Int.sub_zero, Int.pow_succ]
theorem shr_range (a : Int) (k : Nat) (h1 : -9223372036854775808 ≤ a) (h2 : a ≤ 9223372036854775807) : (a < 0 → a / 2 ^ k < 0 ∧ -9223372036854775808 ≤ a / 2 ^ k) ∧ (0 ≤ a → 0 ≤ a / 2 ^ k ∧ a / 2 ^ k ≤ 9223372036854775807) := by
  have hp : (0 : Int) < 2 ^ k := Int.pow_pos (by decide)
  have hp1 : (1 : Int) ≤ 2 ^ k := by omega
  refine ⟨fun h => ⟨Int.ediv_neg_of_neg_of_pos h hp, ?_⟩, fun h => ⟨Int.ediv_nonneg h (by omega), ?_⟩⟩
  · refine (Int.le_ediv_iff_mul_le hp).2 ?_
    have h3 := Int.mul_le_mul_of_nonneg_right hp1 (show (0 : Int) ≤ 9223372036854775808 by decide)
    have e : (-9223372036854775808 : Int) * 2 ^ k = -(2 ^ k * 9223372036854775808) := by rw [Int.mul_comm, ← Int.mul_neg]
    rw [e]; omega
  · exact Int.le_trans (Int.ediv_le_self _ h) h2
theorem shr_same (a : Int) (k : Nat) (h1 : -9223372036854775808 ≤ a) (h2 : a ≤ 9223372036854775807) : wrap64 (a / 2 ^ k) = a / 2 ^ k := by
  have := shr_range a k h1 h2
  unfold wrap64; omega
theorem u64_rem64 (b : Int) : (IntKind.u64.wrap b).tmod 64 = ((sh b : Nat) : Int) := by
  rw [IntKind.wrap_u64, Int.tmod_eq_emod_of_nonneg (by omega)]
  unfold sh; omega

/-! bit by bit -/
def bit (n i : Nat) : Nat := n / 2 ^ i % 2
/-- what the first i bits of two numbers make, by a table of four -/
def tab (t : Nat → Nat) (x y : Nat) : Nat → Nat
  | 0 => 0
  | i + 1 => tab t x y i + 2 ^ i * t (2 * bit x i + bit y i)
theorem bit_lt (n i : Nat) : bit n i < 2 := Nat.mod_lt _ (by omega)
theorem tab_eq (t : Nat → Nat) (x y z : Nat) (h : ∀ i, t (2 * bit x i + bit y i) = bit z i) (i : Nat) : tab t x y i = z % 2 ^ i := by
  induction i with
  | zero => simp [tab, Nat.mod_one]
  | succ i ih =>
    rw [tab, ih, h, bit, Nat.pow_succ, Nat.mod_mul]
theorem bit_testBit (n i : Nat) : bit n i = (n.testBit i).toNat := by
  rw [Nat.toNat_testBit]; rfl
theorem tab_and (x y i : Nat) : tab (fun j => if j = 3 then 1 else 0) x y i = (x &&& y) % 2 ^ i := by
  apply tab_eq
  intro i
  simp only [bit_testBit, Nat.testBit_and]
  cases x.testBit i <;> cases y.testBit i <;> rfl
theorem tab_or (x y i : Nat) : tab (fun j => if j = 0 then 0 else 1) x y i = (x ||| y) % 2 ^ i := by
  apply tab_eq
  intro i
  simp only [bit_testBit, Nat.testBit_or]
  cases x.testBit i <;> cases y.testBit i <;> rfl
theorem tab_xor (x y i : Nat) : tab (fun j => if j = 1 ∨ j = 2 then 1 else 0) x y i = (x ^^^ y) % 2 ^ i := by
  apply tab_eq
  intro i
  simp only [bit_testBit, Nat.testBit_xor]
  cases x.testBit i <;> cases y.testBit i <;> rfl
theorem tab_lt (t : Nat → Nat) (ht : ∀ j, t j ≤ 1) (x y i : Nat) : tab t x y i < 2 ^ i := by
  induction i with
  | zero => simp [tab]
  | succ i ih =>
    have h1 := ht (2 * bit x i + bit y i)
    have h2 : 2 ^ i * t (2 * bit x i + bit y i) ≤ 2 ^ i * 1 := Nat.mul_le_mul_left _ h1
    rw [tab, Nat.pow_succ]; omega
theorem mod_64 {z : Nat} (h : z < 18446744073709551616) : z % 2 ^ 64 = z := Nat.mod_eq_of_lt h
theorem u64_cast (a : Int) : IntKind.u64.wrap a = ((u64n a : Nat) : Int) := by rw [IntKind.wrap_u64]; unfold u64n; omega

theorem u_wrap (x : Int) : wrap64 (IntKind.u64.wrap x) = wrap64 x := by
  simp only [IntKind.wrap_u64]; unfold wrap64; omega
theorem u_neg_wrap (x : Int) : wrap64 (-(IntKind.u64.wrap x)) = wrap64 (-x) := by
  simp only [IntKind.wrap_u64]; unfold wrap64; omega
theorem u_wrap_neg (x : Int) : wrap64 (IntKind.u64.wrap (-(IntKind.u64.wrap x))) = wrap64 (-x) := by
  simp only [IntKind.wrap_u64]; unfold wrap64; omega
theorem div_val {a b : Int} {A B : Nat} (hb : b ≠ 0) (hA : a.natAbs = A) (hB : b.natAbs = B) {X : Int} (hX : X = wrap64 (if (decide (a < 0) != decide (b < 0)) then -((A : Int) / (B : Int)) else (A : Int) / (B : Int))) : doN 4 a b = (X, true) := by
  rw [div_at hb, tdiv_abs, hA, hB, hX]
  simp only [Int.natCast_ediv]
theorem rem_val {a b : Int} {A B : Nat} (hb : b ≠ 0) (ha : -9223372036854775808 ≤ a ∧ a ≤ 9223372036854775807) (hA : a.natAbs = A) (hB : b.natAbs = B) {X : Int} (hX : X = wrap64 (if a < 0 then -((A : Int) % (B : Int)) else (A : Int) % (B : Int))) : doN 5 a b = (X, true) := by
  rw [rem_at hb, tmod_abs, hA, hB, hX]
  simp only [Int.natCast_emod]
  have h1 : (A : Int) % (B : Int) ≤ A := by
    have := Nat.mod_le A B
    omega
  have h2 : 0 ≤ (A : Int) % (B : Int) := Int.emod_nonneg _ (by omega)
  generalize (A : Int) % (B : Int) = r at *
  by_cases hn : a < 0
  · rw [if_pos hn]; congr 1; unfold wrap64; omega
  · rw [if_neg hn]; congr 1; unfold wrap64; omega

/-! what the statements ask -/
theorem mulmod_l (a b : Int) : wrap64 (wrap64 a * b) = wrap64 (a * b) := by
  apply wrap64_congr
  have h : wrap64 a % 18446744073709551616 = a % 18446744073709551616 := by unfold wrap64; omega
  rw [Int.mul_emod, h, ← Int.mul_emod]
theorem mulmod_r (a b : Int) : wrap64 (a * wrap64 b) = wrap64 (a * b) := by rw [Int.mul_comm, mulmod_l, Int.mul_comm]
theorem addmod_l (a b : Int) : wrap64 (wrap64 a + b) = wrap64 (a + b) := by unfold wrap64; omega
theorem addmod_r (a b : Int) : wrap64 (a + wrap64 b) = wrap64 (a + b) := by unfold wrap64; omega
theorem wrap64_id {a : Int} (h1 : -9223372036854775808 ≤ a) (h2 : a ≤ 9223372036854775807) : wrap64 a = a := by unfold wrap64; omega
theorem ring_sum (a b c : Int) : wrap64 (wrap64 (a + b) + c) = wrap64 (a + wrap64 (c + b)) := by
  rw [addmod_l, addmod_r]; congr 1; omega
theorem ring_prod (a b c : Int) : wrap64 (wrap64 (a * b) * c) = wrap64 (a * wrap64 (c * b)) := by
  rw [mulmod_l, mulmod_r, Int.mul_assoc, Int.mul_comm c b]
theorem ring_spread (a b c : Int) : wrap64 (a * wrap64 (b + c)) = wrap64 (wrap64 (a * b) + wrap64 (a * c)) := by
  rw [mulmod_r, addmod_l, addmod_r, Int.mul_add]
theorem ring_sub {a b : Int} (h1 : -9223372036854775808 ≤ a) (h2 : a ≤ 9223372036854775807) : wrap64 (wrap64 (a - b) + b) = a := by
  rw [addmod_l, Int.sub_add_cancel, wrap64_id h1 h2]

theorem and_xor_or (x y : Nat) (i : Nat) : (x &&& y) % 2 ^ i + (x ^^^ y) % 2 ^ i = (x ||| y) % 2 ^ i := by
  rw [← tab_and, ← tab_xor, ← tab_or]
  induction i with
  | zero => rfl
  | succ i ih =>
    rw [tab, tab, tab, ← ih]
    have a := bit_lt x i
    have b := bit_lt y i
    have : 2 * bit x i + bit y i = 0 ∨ 2 * bit x i + bit y i = 1 ∨ 2 * bit x i + bit y i = 2 ∨ 2 * bit x i + bit y i = 3 := by omega
    rcases this with e | e | e | e <;> rw [e] <;> simp <;> omega
theorem and_lt64 (a b : Int) : u64n a &&& u64n b < 18446744073709551616 := Nat.and_lt_two_pow (n := 64) _ (u64n_lt b)
theorem or_lt64 (a b : Int) : u64n a ||| u64n b < 18446744073709551616 := Nat.or_lt_two_pow (n := 64) (u64n_lt a) (u64n_lt b)
theorem xor_lt64 (a b : Int) : u64n a ^^^ u64n b < 18446744073709551616 := Nat.xor_lt_two_pow (n := 64) (u64n_lt a) (u64n_lt b)
theorem bits_sum (a b : Int) : wrap64 (bits .and .i64 a b + bits .xor .i64 a b) = bits .or .i64 a b := by
  have h := and_xor_or (u64n a) (u64n b) 64
  rw [mod_64 (and_lt64 a b), mod_64 (xor_lt64 a b), mod_64 (or_lt64 a b)] at h
  rw [and_i64, xor_i64, or_i64, addmod_l, addmod_r, ← h]
  congr 1
theorem u64n_wrap (z : Nat) (h : z < 18446744073709551616) : u64n (wrap64 (z : Int)) = z := by unfold u64n wrap64; omega
theorem bits_none (a b : Int) : bits .and .i64 (bits .and .i64 a b) (bits .xor .i64 a b) = 0 := by
  rw [and_i64 (bits .and .i64 a b), and_i64 a b, xor_i64, u64n_wrap _ (and_lt64 a b), u64n_wrap _ (xor_lt64 a b)]
  have : (u64n a &&& u64n b) &&& (u64n a ^^^ u64n b) = 0 := by
    apply Nat.eq_of_testBit_eq
    intro i
    simp only [Nat.testBit_and, Nat.testBit_xor, Nat.zero_testBit]
    cases (u64n a).testBit i <;> cases (u64n b).testBit i <;> rfl
  rw [this]
  exact wrap64_zero.symm
theorem sh_sh (b : Int) : sh ((sh b : Nat) : Int) = sh b := by
  have := sh_lt b
  have e : sh ((sh b : Nat) : Int) = sh b % 64 := by unfold sh; omega
  rw [e]; omega
theorem half_rest {a : Int} (_ : -9223372036854775808 ≤ a) (_ : a ≤ 9223372036854775807) : wrap64 (a - wrap64 (a / 2 ^ 1 + a / 2 ^ 1)) = a % 2 := by
  have e : a / 2 ^ 1 = a / 2 := by rw [Int.pow_one]
  rw [e]; unfold wrap64; omega

theorem whole_back {a b : Int} (h1 : -9223372036854775808 ≤ a) (h2 : a ≤ 9223372036854775807) : wrap64 (wrap64 (wrap64 (a.tdiv b) * b) + a.tmod b) = a := by
  rw [addmod_l, ← addmod_l, mulmod_l, addmod_l]
  have := Int.mul_tdiv_add_tmod a b
  rw [Int.mul_comm, this, wrap64_id h1 h2]
theorem whole_near {a b : Int} (hb : b ≠ 0) : (a.tmod b).natAbs < b.natAbs ∧ (a.tmod b = 0 ∨ (a < 0 ∧ a.tmod b < 0) ∨ (¬ a < 0 ∧ ¬ a.tmod b < 0)) := by
  rw [tmod_abs]
  have hlt : a.natAbs % b.natAbs < b.natAbs := Nat.mod_lt _ (by omega)
  by_cases h : a < 0
  · rw [if_pos h]; omega
  · rw [if_neg h]; omega

theorem getN_text {n : Int} (h : n.natAbs ≤ 9223372036854775808) (h2 : n ≤ 9223372036854775807) : getN (numText n) = (n, true) := by
  have key : valN (numText n) = n := by
    have hnd := nd_le h
    have hz := (nd_spec h).1
    have hsign : (numText n).getD 0 0 = 45 ↔ n < 0 := by
      unfold numText sign
      by_cases hn : n < 0
      · simp [hn]
      · have h0 := isDig_lowD n.natAbs (nd n.natAbs) 0 (nd_pos _)
        simp only [hn, if_false, List.nil_append, iff_false]
        intro e
        rw [e] at h0
        exact absurd h0 (by decide)
    have hacc : ∀ k, k ≤ nd n.natAbs → accI (numText n) (if n < 0 then k + 1 else k) = ((n.natAbs / 10 ^ (nd n.natAbs - k) : Nat) : Int) := by
      intro k
      induction k with
      | zero =>
        intro _
        rw [Nat.sub_zero, hz]
        by_cases hn : n < 0
        · rw [if_pos hn, accI_skip (hsign.2 hn)]; rfl
        · rw [if_neg hn]; rfl
      | succ k ih =>
        intro hk
        have ih' := ih (by omega)
        have hc : ((numText n).getD (if n < 0 then k + 1 else k) 0) = dig (n.natAbs / 10 ^ (nd n.natAbs - 1 - k) % 10) := by
          unfold numText sign
          by_cases hn : n < 0
          · simp only [hn, if_true, List.cons_append, List.nil_append, List.getD_cons_succ]
            exact lowD_at _ _ _ (by omega)
          · simp only [hn, if_false, List.nil_append]
            exact lowD_at _ _ _ (by omega)
        have hd : n.natAbs / 10 ^ (nd n.natAbs - 1 - k) % 10 < 10 := Nat.mod_lt _ (by omega)
        have hstep : accI (numText n) ((if n < 0 then k + 1 else k) + 1) = accI (numText n) (if n < 0 then k + 1 else k) * 10 + (((numText n).getD (if n < 0 then k + 1 else k) 0).toNat : Int) - 48 := by
          apply accI_step
          by_cases hn : n < 0
          · left; rw [if_pos hn]; omega
          · right; intro e; exact hn (hsign.1 e)
        have e1 : (if n < 0 then k + 1 + 1 else k + 1) = (if n < 0 then k + 1 else k) + 1 := by split <;> rfl
        rw [e1, hstep, ih', hc, dig_toNat hd]
        have e2 : nd n.natAbs - k = (nd n.natAbs - 1 - k) + 1 := by omega
        have e3 : nd n.natAbs - (k + 1) = nd n.natAbs - 1 - k := by omega
        rw [e2, e3, Nat.pow_succ, ← Nat.div_div_eq_div_mul]
        omega
    have hlen : (numText n).length = (if n < 0 then nd n.natAbs + 1 else nd n.natAbs) := by
      unfold numText sign
      split <;> simp [lowD_length]
    have hm : min (numText n).length 30 = (if n < 0 then nd n.natAbs + 1 else nd n.natAbs) := by
      rw [hlen]; split <;> omega
    have hfin := hacc (nd n.natAbs) (Nat.le_refl _)
    rw [Nat.sub_self, Nat.pow_zero, Nat.div_one] at hfin
    unfold valN
    rw [hm, hfin]
    by_cases hn : n < 0
    · rw [if_pos (hsign.2 hn)]; unfold wrap64; omega
    · rw [if_neg (fun e => hn (hsign.1 e))]; unfold wrap64; omega
  unfold getN
  rw [key, if_pos rfl]
theorem getN_back {l : List UInt8} {k : Int} (h : getN l = (k, true)) : numText k = l := by
  unfold getN at h
  split at h
  · rename_i hh; cases h; exact hh
  · cases h
theorem getN_abs {l : List UInt8} {k : Int} {b : Bool} (h : getN l = (k, b)) : k.natAbs ≤ 9223372036854775808 ∧ k ≤ 9223372036854775807 := by
  unfold getN at h
  have := wrap64_range (if l.getD 0 0 = 45 then -(accI l (min l.length 30)) else accI l (min l.length 30))
  split at h
  · cases h; unfold valN; omega
  · cases h; omega

end Go.Proofs.Ytiheecgabfcigaa.Num
