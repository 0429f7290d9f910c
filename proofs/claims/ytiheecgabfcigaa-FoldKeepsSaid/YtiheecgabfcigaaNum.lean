/- Plain facts on whole numbers of 64 bits: what is done with two of them; their digits. -/
import Derived.WalkKit
import Derived.WalkLawsBesides
import Derived.Laws.BitsAllLaws
namespace Go.Proofs.Ytiheecgabfcigaa.Num
open Go.RowKit

def trN (b : Bool) : Int := if b then 1 else 0
def sh (b : Int) : Nat := (b % 64).toNat

/-- what is done with two whole numbers -/
def doN (op a b : Int) : Int × Bool :=
  if op = 1 then (wrap64 (a + b), true)
  else if op = 2 then (wrap64 (a - b), true)
  else if op = 3 then (wrap64 (a * b), true)
  else if op = 4 then (if b = 0 then (0, false) else (wrap64 (a.tdiv b), true))
  else if op = 5 then (if b = 0 then (0, false) else (a.tmod b, true))
  else if op = 6 then (bits .and .i64 a b, true)
  else if op = 7 then (bits .or .i64 a b, true)
  else if op = 8 then (bits .xor .i64 a b, true)
  else if op = 9 then (wrap64 (a * 2 ^ sh b), true)
  else if op = 10 then (a / 2 ^ sh b, true)
  else if op = 11 then (trN (a == b), true)
  else if op = 12 then (trN (a != b), true)
  else if op = 13 then (trN (decide (a < b)), true)
  else if op = 14 then (trN (decide (a ≤ b)), true)
  else (0, false)

theorem doN_out {op a b : Int} (h : op < 1 ∨ 14 < op) : doN op a b = (0, false) := by
  unfold doN
  repeat rw [if_neg (by omega)]

def u64n (n : Int) : Nat := (n % 18446744073709551616).toNat
theorem u64n_lt (n : Int) : u64n n < 18446744073709551616 := by unfold u64n; omega
theorem toNat_ofInt64 (n : Int) : (BitVec.ofInt 64 n).toNat = u64n n := by simp [u64n]
theorem wrap64_iff (n : Int) : wrap64 n = if n % 18446744073709551616 ≥ 9223372036854775808 then n % 18446744073709551616 - 18446744073709551616 else n % 18446744073709551616 := by
  unfold wrap64
  split <;> omega
theorem i64_wrap (n : Int) : IntKind.i64.wrap n = wrap64 n := by
  rw [wrap64_iff]
  simp only [IntKind.wrap, IntKind.bits, IntKind.signed]
  simp
theorem wrap64_u64n (n : Int) : wrap64 (u64n n : Int) = wrap64 n := by
  unfold wrap64 u64n; omega
theorem and_i64 (a b : Int) : bits .and .i64 a b = wrap64 ((u64n a &&& u64n b : Nat) : Int) := by
  unfold bits
  simp only [BitVec.toNat_and]
  show IntKind.i64.wrap (((BitVec.ofInt 64 a).toNat &&& (BitVec.ofInt 64 b).toNat : Nat) : Int) = _
  rw [toNat_ofInt64, toNat_ofInt64, i64_wrap]
theorem or_i64 (a b : Int) : bits .or .i64 a b = wrap64 ((u64n a ||| u64n b : Nat) : Int) := by
  unfold bits
  simp only [BitVec.toNat_or]
  show IntKind.i64.wrap (((BitVec.ofInt 64 a).toNat ||| (BitVec.ofInt 64 b).toNat : Nat) : Int) = _
  rw [toNat_ofInt64, toNat_ofInt64, i64_wrap]
theorem xor_i64 (a b : Int) : bits .xor .i64 a b = wrap64 ((u64n a ^^^ u64n b : Nat) : Int) := by
  unfold bits
  simp only [BitVec.toNat_xor]
  show IntKind.i64.wrap (((BitVec.ofInt 64 a).toNat ^^^ (BitVec.ofInt 64 b).toNat : Nat) : Int) = _
  rw [toNat_ofInt64, toNat_ofInt64, i64_wrap]
theorem and_63 (b : Int) : bits .and .i64 b 63 = ((sh b : Nat) : Int) := by
  rw [and_i64]
  have e : u64n 63 = 63 := by decide
  have m : u64n b &&& 63 = u64n b % 64 := Nat.and_two_pow_sub_one_eq_mod (u64n b) 6
  rw [e, m]
  unfold wrap64 u64n sh
  omega
theorem sh_lt (b : Int) : sh b < 64 := by unfold sh; omega

/-! digits -/
def dig (d : Nat) : UInt8 := UInt8.ofNat (48 + d)
/-- the last k digits of a number -/
def lowD (m : Nat) : Nat → List UInt8
  | 0 => []
  | k + 1 => dig (m / 10 ^ k % 10) :: lowD m k
/-- how many digits a number has -/
def ndF : Nat → Nat → Nat
  | 0, _ => 1
  | f + 1, m => if m < 10 then 1 else ndF f (m / 10) + 1
def nd (m : Nat) : Nat := ndF 20 m
def sign (n : Int) : List UInt8 := if n < 0 then [45] else []
/-- a number's text -/
def numText (n : Int) : List UInt8 := sign n ++ lowD n.natAbs (nd n.natAbs)

theorem lowD_length (m k : Nat) : (lowD m k).length = k := by
  induction k with
  | zero => rfl
  | succ k ih => simp [lowD, ih]
theorem ndF_pos (f m : Nat) : 1 ≤ ndF f m := by cases f <;> simp [ndF]; split <;> omega
theorem ndF_spec (f m : Nat) (h : m < 10 ^ (f + 1)) : m / 10 ^ (ndF f m) = 0 ∧ ∀ k, 1 ≤ k → k < ndF f m → m / 10 ^ k ≠ 0 := by
  induction f generalizing m with
  | zero =>
    refine ⟨?_, fun k h1 h2 => ?_⟩
    · simp [ndF]; omega
    · simp [ndF] at h2; omega
  | succ f ih =>
    unfold ndF
    by_cases hm : m < 10
    · rw [if_pos hm]
      exact ⟨by simp; omega, fun k h1 h2 => by omega⟩
    · rw [if_neg hm]
      have hd : m / 10 < 10 ^ (f + 1) := by
        rw [Nat.pow_succ] at h; omega
      obtain ⟨i1, i2⟩ := ih (m / 10) hd
      refine ⟨?_, fun k h1 h2 => ?_⟩
      · rw [Nat.pow_succ, Nat.mul_comm, ← Nat.div_div_eq_div_mul]; exact i1
      · by_cases hk : k = 1
        · subst hk; simp; omega
        · have := i2 (k - 1) (by omega) (by omega)
          rw [show k = (k - 1) + 1 from by omega, Nat.pow_succ, Nat.mul_comm, ← Nat.div_div_eq_div_mul]
          exact this
theorem nd_spec {m : Nat} (h : m ≤ 9223372036854775808) : m / 10 ^ (nd m) = 0 ∧ ∀ k, 1 ≤ k → k < nd m → m / 10 ^ k ≠ 0 :=
  ndF_spec 20 m (by omega)
theorem nd_pos (m : Nat) : 1 ≤ nd m := ndF_pos 20 m
theorem nd_le {m : Nat} (h : m ≤ 9223372036854775808) : nd m ≤ 19 := by
  apply Classical.byContradiction
  intro hn
  have := (nd_spec h).2 19 (by omega) (by omega)
  apply this
  exact Nat.div_eq_of_lt (by omega)
/-- the count of digits is the first at which nothing is left -/
theorem nd_eq {m k : Nat} (h : m ≤ 9223372036854775808) (hk : 1 ≤ k) (h0 : m / 10 ^ k = 0) (hb : ∀ j, 1 ≤ j → j < k → m / 10 ^ j ≠ 0) : nd m = k := by
  obtain ⟨a, b⟩ := nd_spec h
  have h1 := nd_pos m
  rcases Nat.lt_trichotomy (nd m) k with h2 | h2 | h2
  · exact absurd a (hb _ h1 h2)
  · exact h2
  · exact absurd h0 (b _ hk h2)

theorem div_m1 (a : Int) : doN 4 a (-1) = (wrap64 (-a), true) := by
  show (wrap64 (a.tdiv (-1)), true) = _
  rw [Int.tdiv_neg, Int.tdiv_one]
theorem rem_m1 (a : Int) : doN 5 a (-1) = (0, true) := by
  show (a.tmod (-1), true) = _
  rw [Int.tmod_neg, Int.tmod_one]
theorem div_at {a b : Int} (h : b ≠ 0) : doN 4 a b = (wrap64 (a.tdiv b), true) := by
  show (if b = 0 then ((0 : Int), false) else (wrap64 (a.tdiv b), true)) = _
  rw [if_neg h]
theorem rem_at {a b : Int} (h : b ≠ 0) : doN 5 a b = (a.tmod b, true) := by
  show (if b = 0 then ((0 : Int), false) else (a.tmod b, true)) = _
  rw [if_neg h]

theorem natAbs_tmod (x : Int) : (x.tmod 10).natAbs = x.natAbs % 10 := by
  rw [Int.natAbs_tmod]; rfl
theorem natAbs_tdiv (x : Int) : (x.tdiv 10).natAbs = x.natAbs / 10 := by
  rw [Int.natAbs_tdiv]; rfl
theorem natAbs_next {r : Int} {m k : Nat} (hr : r.natAbs = m / 10 ^ k) (hm : m ≤ 9223372036854775808) : (wrap64 (r.tdiv 10)).natAbs = m / 10 ^ (k + 1) := by
  have h1 := natAbs_tdiv r
  have h2 : m / 10 ^ k ≤ m := Nat.div_le_self _ _
  have e : wrap64 (r.tdiv 10) = r.tdiv 10 := by unfold wrap64; omega
  rw [e, h1, hr, Nat.div_div_eq_div_mul, Nat.pow_succ]
theorem dig_toNat {d : Nat} (h : d < 10) : ((dig d).toNat : Int) = 48 + d := by
  simp only [dig, UInt8.toNat_ofNat']; omega
theorem lowD_at (m k : Nat) : ∀ j, j < k → (lowD m k).getD j 0 = dig (m / 10 ^ (k - 1 - j) % 10) := by
  induction k with
  | zero => intro j hj; omega
  | succ k ih =>
    intro j hj
    cases j with
    | zero => simp [lowD]
    | succ j =>
      rw [lowD, List.getD_cons_succ, ih j (by omega)]
      congr 4
      omega

/-- what the first k bytes of a text make -/
def accI (l : List UInt8) : Nat → Int
  | 0 => 0
  | k + 1 => if k = 0 ∧ l.getD 0 0 = 45 then accI l k else accI l k * 10 + ((l.getD k 0).toNat : Int) - 48
def valN (l : List UInt8) : Int := wrap64 (if l.getD 0 0 = 45 then -(accI l (min l.length 30)) else accI l (min l.length 30))
/-- the number that a text is -/
def getN (l : List UInt8) : Int × Bool := if numText (valN l) = l then (valN l, true) else (0, false)

def isDig (c : UInt8) : Bool := 48 ≤ c && c ≤ 57
theorem isDig_dig : ∀ d : Fin 10, isDig (dig d.val) = true := by decide
theorem isDig_lowD (m k j : Nat) (h : j < k) : isDig ((lowD m k).getD j 0) = true := by
  rw [lowD_at m k j h]
  exact isDig_dig ⟨m / 10 ^ (k - 1 - j) % 10, Nat.mod_lt _ (by omega)⟩
theorem wrap64_range (n : Int) : -9223372036854775808 ≤ wrap64 n ∧ wrap64 n ≤ 9223372036854775807 := by unfold wrap64; omega
theorem valN_abs (l : List UInt8) : (valN l).natAbs ≤ 9223372036854775808 := by
  have := wrap64_range (if l.getD 0 0 = 45 then -(accI l (min l.length 30)) else accI l (min l.length 30))
  unfold valN; omega
theorem numText_length {n : Int} (h : n.natAbs ≤ 9223372036854775808) : 1 ≤ (numText n).length ∧ (numText n).length ≤ 20 := by
  have h1 := nd_pos n.natAbs
  have h2 := nd_le h
  unfold numText sign
  split <;> simp [lowD_length] <;> omega
theorem getN_size {l : List UInt8} (h : l.length = 0 ∨ 20 < l.length) : getN l = (0, false) := by
  unfold getN
  rw [if_neg]
  intro e
  have := numText_length (valN_abs l)
  rw [e] at this
  omega
theorem numText_dig {n : Int} {l : List UInt8} (e : numText n = l) {i : Nat} (hi : i < l.length) (h1 : 1 ≤ i ∨ l.getD 0 0 ≠ 45) : isDig (l.getD i 0) = true := by
  subst e
  unfold numText sign at *
  by_cases hn : n < 0
  · simp only [hn, if_true] at *
    cases i with
    | zero => simp at h1
    | succ i =>
      simp only [List.cons_append, List.nil_append, List.getD_cons_succ]
      exact isDig_lowD _ _ _ (by simpa [lowD_length] using hi)
  · simp only [hn, if_false, List.nil_append] at *
    exact isDig_lowD _ _ _ (by simpa [lowD_length] using hi)
theorem getN_bad {l : List UInt8} {i : Nat} (hi : i < l.length) (h1 : 1 ≤ i ∨ l.getD 0 0 ≠ 45) (h : isDig (l.getD i 0) = false) : getN l = (0, false) := by
  unfold getN
  rw [if_neg]
  intro e
  rw [numText_dig e hi h1] at h
  cases h
theorem getN_no {s : ByteArray} {x : Int} (hx : x = valN s.data.toList) (h : (!numText x == s.toList) = true) : getN s.data.toList = (0, false) := by
  subst hx
  rw [ByteArray.toList_eq] at h
  simp only [Bool.not_eq_true', beq_eq_false_iff_ne] at h
  unfold getN
  rw [if_neg h]
theorem getN_yes {s : ByteArray} {x : Int} (hx : x = valN s.data.toList) (h : (!numText x == s.toList) = false) : getN s.data.toList = (x, true) := by
  subst hx
  rw [ByteArray.toList_eq] at h
  simp only [Bool.not_eq_false', beq_iff_eq] at h
  unfold getN
  rw [if_pos h]
theorem getD_atN {s : ByteArray} {k : Nat} (h : k < s.size) : s.data.toList.getD k 0 = s[k] := by
  rw [List.getD_eq_getElem?_getD, List.getElem?_eq_getElem (by simpa using h)]; rfl

theorem size_data (s : ByteArray) : s.data.toList.length = s.size := by simp
theorem ne_empty {s : ByteArray} (h : 1 ≤ s.size) : s.toList.isEmpty = false := by
  rw [ByteArray.toList_eq, List.isEmpty_eq_false_iff]
  intro e
  have := size_data s
  rw [e] at this
  simp at this
  omega
theorem accI_step {l : List UInt8} {k : Nat} (h : 1 ≤ k ∨ l.getD 0 0 ≠ 45) : accI l (k + 1) = accI l k * 10 + ((l.getD k 0).toNat : Int) - 48 := by
  rw [accI, if_neg]
  rintro ⟨h1, h2⟩
  rcases h with h | h
  · omega
  · exact h h2
theorem accI_skip {l : List UInt8} (h : l.getD 0 0 = 45) : accI l 1 = 0 := by
  rw [accI, if_pos ⟨rfl, h⟩]; rfl
theorem isDig_iff (c : UInt8) : isDig c = true ↔ 48 ≤ c.toNat ∧ c.toNat ≤ 57 := by
  unfold isDig
  simp [UInt8.le_iff_toNat_le]
/-- a step of package num's, which counts below 0 -/
theorem step_down {x a : Int} {c : Nat} (hx : x = wrap64 (-a)) (_ : 48 ≤ c) (_ : c ≤ 57) : wrap64 (wrap64 (x * 10) - ((c : Int) - 48)) = wrap64 (-(a * 10 + (c : Int) - 48)) := by
  subst hx; unfold wrap64; omega

theorem wrap64_zero : (0 : Int) = wrap64 (-0) := by unfold wrap64; omega

end Go.Proofs.Ytiheecgabfcigaa.Num
