/- Plain facts on the bits of floats: what is no number, and how it is told in one way. -/
import Derived.WalkKit
import Derived.WalkLawsBesides
import Derived.Laws.BitsAllLaws
namespace Go.Proofs.Ytiheecgabfcigaa.Flo
open Go.RowKit Ieee

def u64 (n : Int) : Nat := (n % 18446744073709551616).toNat
def isNanN (u : Nat) : Bool := decide (9218868437227405312 < u % 9223372036854775808)
def nanC : Int := 9221120237041090560
def plainV (n : Int) : Int := if isNanN (u64 n) then nanC else n

theorem u64_lt (n : Int) : u64 n < 18446744073709551616 := by unfold u64; omega

theorem wrap_i64_small (n : Nat) (h : n < 9223372036854775808) : IntKind.i64.wrap (n : Int) = n := by
  simp only [IntKind.wrap, IntKind.bits, IntKind.signed]
  simp
  omega

theorem wrap64_eq (n : Int) : IntKind.i64.wrap n = if n % 18446744073709551616 ≥ 9223372036854775808 then n % 18446744073709551616 - 18446744073709551616 else n % 18446744073709551616 := by
  simp only [IntKind.wrap, IntKind.bits, IntKind.signed]
  simp

theorem toNat_ofInt64 (n : Int) : (BitVec.ofInt 64 n).toNat = u64 n := by
  simp [u64]

theorem and_expo (n : Int) : bits .and .i64 n 9218868437227405312 = ((u64 n % 9223372036854775808 / 4503599627370496 * 4503599627370496 : Nat) : Int) := by
  unfold bits
  simp only [BitVec.toNat_and]
  show IntKind.i64.wrap (((BitVec.ofInt 64 n).toNat &&& (BitVec.ofInt 64 9218868437227405312).toNat : Nat) : Int) = _
  rw [toNat_ofInt64]
  have e : (BitVec.ofInt 64 9218868437227405312).toNat = 9218868437227405312 := by decide
  have m : u64 n &&& 9218868437227405312 = u64 n % 9223372036854775808 / 4503599627370496 * 4503599627370496 := nat_midmask 63 52 (u64 n) (by decide)
  rw [e, m, wrap_i64_small]
  omega

theorem and_frac (n : Int) : bits .and .i64 n 4503599627370495 = ((u64 n % 4503599627370496 : Nat) : Int) := by
  unfold bits
  simp only [BitVec.toNat_and]
  show IntKind.i64.wrap (((BitVec.ofInt 64 n).toNat &&& (BitVec.ofInt 64 4503599627370495).toNat : Nat) : Int) = _
  rw [toNat_ofInt64]
  have e : (BitVec.ofInt 64 4503599627370495).toNat = 4503599627370495 := by decide
  rw [e, nat_mask52, wrap_i64_small]
  omega

theorem plain_yes {n : Int} (h1 : bits .and .i64 n 9218868437227405312 = 9218868437227405312) (h2 : (bits .and .i64 n 4503599627370495 != 0) = true) : plainV n = nanC := by
  rw [and_expo] at h1
  rw [and_frac] at h2
  have h3 : u64 n % 4503599627370496 ≠ 0 := by
    intro h; rw [h] at h2; simp at h2
  have : isNanN (u64 n) = true := by
    unfold isNanN; simp; omega
  simp [plainV, this]

theorem plain_no1 {n : Int} (h1 : ¬ bits .and .i64 n 9218868437227405312 = 9218868437227405312) : plainV n = n := by
  rw [and_expo] at h1
  have : isNanN (u64 n) = false := by
    unfold isNanN; simp
    omega
  simp [plainV, this]

theorem plain_no2 {n : Int} (h2 : (bits .and .i64 n 4503599627370495 != 0) = false) : plainV n = n := by
  rw [and_frac] at h2
  have h3 : u64 n % 4503599627370496 = 0 := by
    have := bne_eq_false_iff_eq.1 h2; omega
  have : isNanN (u64 n) = false := by
    unfold isNanN; simp
    omega
  simp [plainV, this]

/-- the bits of a float that is made of a number -/
def pb (n : Int) : Nat := u64 (plainV n)
/-- 1 or 0 -/
def tr (b : Bool) : Int := if b then 1 else 0

theorem isnan_eq (n : Int) : decide (9218868437227405312 < (IntKind.u64.wrap n).tmod 9223372036854775808) = isNanN (u64 n) := by
  rw [IntKind.wrap_u64, tmod_of_emod]
  unfold isNanN u64
  congr 1
  apply propext
  constructor <;> intro h <;> omega

theorem wrap64_eq' (n : Int) : wrap64 n = if n % 18446744073709551616 ≥ 9223372036854775808 then n % 18446744073709551616 - 18446744073709551616 else n % 18446744073709551616 := by
  unfold wrap64
  split <;> omega
theorem u64_wrap64 (r : Nat) (h : r < 18446744073709551616) : u64 (wrap64 r) = r := by
  rw [wrap64_eq']
  unfold u64
  split <;> omega

theorem plain_nan (r : Nat) (h : r < 18446744073709551616) (hn : isNanN r = true) : plainV (wrap64 r) = nanC := by
  unfold plainV; rw [u64_wrap64 r h, hn]; rfl

theorem nan_cut (x y t : Nat) : (Question.nanBits .f64 x y).cut t < 18446744073709551616 ∧ isNanN ((Question.nanBits .f64 x y).cut t) = true := by
  have e : (Question.nanBits .f64 x y).cut t = (t % 2) * 9223372036854775808 + 9218868437227405312 + 1 + (t / 2) % 4503599627370495 := rfl
  rw [e]
  refine ⟨by omega, ?_⟩
  unfold isNanN
  simp only [decide_eq_true_eq]
  rcases Nat.mod_two_eq_zero_or_one t with h | h <;> rw [h] <;> omega
theorem nan_forced (x y : Nat) : (Question.nanBits .f64 x y).forced = false := rfl

def arithV (op : BinOp) (x y : Nat) : Int := match floatBits op .f64 x y with
  | some r => plainV (wrap64 r)
  | none => nanC

theorem arith_run {P : Program} (op : BinOp) (hop : op = .add ∨ op = .sub ∨ op = .mul ∨ op = .quo) (t : TypeId) (x y : Nat) (w : World) :
    ∃ r w1, (binOp op t (.float .f64 x) (.float .f64 y)).run P w = .ok (.float .f64 r) w1 ∧ Below w.heap.size w w1 ∧ r < 18446744073709551616 ∧ plainV (wrap64 r) = arithV op x y := by
  cases h : floatBits op .f64 x y with
  | some r =>
    refine ⟨r, w, run_float_arith w op t .f64 x y r h, Below.refl _ _, ?_, by simp [arithV, h]⟩
    have := floatBits_wf h
    simp [Lit.wf] at this
    exact this
  | none =>
    obtain ⟨h1, h2⟩ := nan_cut x y (w.tape w.drawn (Question.nanBits .f64 x y))
    refine ⟨_, w.drew, ?_, (Below.refl _ _).drew, h1, by rw [plain_nan _ h1 h2]; simp [arithV, h]⟩
    rcases hop with rfl | rfl | rfl | rfl <;> simp only [floatBits] at h <;> simp [binOp, Op.floatArith, h, nan_forced]


theorem u64_i64 (n : Int) (h1 : -9223372036854775808 ≤ n) (h2 : n ≤ 9223372036854775807) : wrap64 (u64 n : Int) = n := by
  rw [wrap64_eq']; unfold u64; split <;> omega
theorem nanC_nan : isNanN (u64 nanC) = true := by decide
theorem isNanN_pb (n : Int) : isNanN (pb n) = isNanN (u64 n) := by
  unfold pb plainV
  cases h : isNanN (u64 n)
  · simp [h]
  · simp [nanC_nan]
theorem pb_of_num {n : Int} (h : isNanN (u64 n) = false) : pb n = u64 n := by simp [pb, plainV, h]
theorem pb_lt (n : Int) : pb n < 18446744073709551616 := u64_lt _
theorem plain_num {n : Int} (h : isNanN (u64 n) = false) : plainV n = n := by simp [plainV, h]
theorem plain_plain (n : Int) : plainV (plainV n) = plainV n := by
  cases h : isNanN (u64 n)
  · simp [plainV, h]
  · have : plainV n = nanC := by simp [plainV, h]
    rw [this]; simp [plainV, nanC_nan]

/-- what a word reads as -/
theorem read_nan {x : Nat} (_h : x < 18446744073709551616) : (double.read x).isNaN = isNanN x := by
  unfold Format.read
  have e1 : double.signWeight = 9223372036854775808 := by decide
  have e2 : double.binade = 4503599627370496 := by decide
  have e3 : double.infRung = 9218868437227405312 := by decide
  simp only [e1, e2, e3]
  unfold isNanN
  split
  · simp [Datum.isNaN]; omega
  · split
    · simp [Datum.isNaN]; omega
    · split
      · simp [Datum.isNaN]; omega
      · simp [Datum.isNaN]; omega

theorem order_nan {a b : Datum} (h : a.isNaN = true ∨ b.isNaN = true) : a.order b = none := by
  rcases h with h | h
  · cases a <;> simp [Datum.isNaN] at h; simp [Datum.order]
  · cases a <;> cases b <;> simp [Datum.isNaN] at h <;> simp [Datum.order]
theorem order_self {a : Datum} (h : a.isNaN = false) : a.order a = some .eq := by
  cases a with
  | number s m p => simp [Datum.order, Std.ReflCmp.compare_self]
  | infinity s => simp [Datum.order, Std.ReflCmp.compare_self]
  | nan s f => simp [Datum.isNaN] at h
theorem order_self_word {x : Nat} (h : x < 18446744073709551616) : (FloatKind.f64.format.order x x != some .eq) = isNanN x := by
  show ((double.read x).order (double.read x) != some .eq) = _
  rw [← read_nan h]
  cases hn : (double.read x).isNaN
  · rw [order_self hn]; rfl
  · rw [order_nan (.inl hn)]; rfl

theorem made_eq {x : Nat} (h : x < 18446744073709551616) : plainV (wrap64 x) = if (FloatKind.f64.format.order x x != some .eq) then nanC else wrap64 x := by
  rw [order_self_word h, plainV, u64_wrap64 x h]

theorem made_yes {x : Nat} (hx : x < 18446744073709551616) (h : (FloatKind.f64.format.order x x != some .eq) = true) : plainV (wrap64 x) = nanC := by
  rw [made_eq hx, if_pos h]
theorem made_no {x : Nat} (hx : x < 18446744073709551616) (h : (FloatKind.f64.format.order x x != some .eq) = false) : plainV (wrap64 x) = wrap64 x := by
  rw [made_eq hx, if_neg (by rw [h]; exact Bool.false_ne_true)]

theorem sum_nan {a b : Datum} (h : a.isNaN = true ∨ b.isNaN = true) : a.sum b = none := by
  rcases h with h | h
  · cases a <;> simp [Datum.isNaN] at h; simp [Datum.sum]
  · cases a <;> cases b <;> simp [Datum.isNaN] at h <;> simp [Datum.sum]
theorem product_nan {a b : Datum} (h : a.isNaN = true ∨ b.isNaN = true) : a.product b = none := by
  rcases h with h | h
  · cases a <;> simp [Datum.isNaN] at h; simp [Datum.product]
  · cases a <;> cases b <;> simp [Datum.isNaN] at h <;> simp [Datum.product]
theorem quotient_nan {n : Nat} {a b : Datum} (h : a.isNaN = true ∨ b.isNaN = true) : a.quotient n b = none := by
  rcases h with h | h
  · cases a <;> simp [Datum.isNaN] at h; simp [Datum.quotient]
  · cases a <;> cases b <;> simp [Datum.isNaN] at h <;> simp [Datum.quotient]
theorem opposite_nan (a : Datum) : a.opposite.isNaN = a.isNaN := by cases a <;> rfl

theorem arith_nan {op : BinOp} {x y : Nat} (hx : x < 18446744073709551616) (hy : y < 18446744073709551616) (h : isNanN x = true ∨ isNanN y = true) : arithV op x y = nanC := by
  have h' : (double.read x).isNaN = true ∨ (double.read y).isNaN = true := by rw [read_nan hx, read_nan hy]; exact h
  have e : floatBits op .f64 x y = none := by
    unfold floatBits
    split
    · show ((double.read x).sum (double.read y)).map _ = none
      rw [sum_nan h']; rfl
    · show ((double.read x).sum (double.read y).opposite).map _ = none
      rw [sum_nan (by rw [opposite_nan]; exact h')]; rfl
    · show ((double.read x).product (double.read y)).map _ = none
      rw [product_nan h']; rfl
    · show ((double.read x).quotient _ (double.read y)).map _ = none
      rw [quotient_nan h']; rfl
    · rfl
  simp [arithV, e]
theorem order_word_nan {x y : Nat} (hx : x < 18446744073709551616) (hy : y < 18446744073709551616) (h : isNanN x = true ∨ isNanN y = true) : FloatKind.f64.format.order x y = none :=
  order_nan (a := double.read x) (b := double.read y) (by rw [read_nan hx, read_nan hy]; exact h)

def ordV (x y : Nat) : Option Ordering := FloatKind.f64.format.order x y

/-- what is done with two floats -/
def doV (op a b : Int) : Int × Bool :=
  if op = 15 then (arithV .add (pb a) (pb b), true)
  else if op = 16 then (arithV .sub (pb a) (pb b), true)
  else if op = 17 then (arithV .mul (pb a) (pb b), true)
  else if op = 18 then (arithV .quo (pb a) (pb b), true)
  else if op = 19 then (tr (ordV (pb a) (pb b) == some .eq), true)
  else if op = 20 then (tr (ordV (pb a) (pb b) == some .lt), true)
  else if op = 21 then (tr (ordV (pb a) (pb b) == some .lt || ordV (pb a) (pb b) == some .eq), true)
  else (0, false)

theorem doV_nan1 {op a b : Int} (h1 : 15 ≤ op) (h2 : op ≤ 18) (h : isNanN (u64 a) = true ∨ isNanN (u64 b) = true) : doV op a b = (nanC, true) := by
  have h' : isNanN (pb a) = true ∨ isNanN (pb b) = true := by rw [isNanN_pb, isNanN_pb]; exact h
  have : op = 15 ∨ op = 16 ∨ op = 17 ∨ op = 18 := by omega
  rcases this with rfl | rfl | rfl | rfl <;> simp [doV, arith_nan (pb_lt a) (pb_lt b) h']
theorem doV_nan2 {op a b : Int} (h1 : 18 < op) (h2 : op ≤ 21) (h : isNanN (u64 a) = true ∨ isNanN (u64 b) = true) : doV op a b = (0, true) := by
  have h' : isNanN (pb a) = true ∨ isNanN (pb b) = true := by rw [isNanN_pb, isNanN_pb]; exact h
  have e := order_word_nan (pb_lt a) (pb_lt b) h'
  have : op = 19 ∨ op = 20 ∨ op = 21 := by omega
  rcases this with rfl | rfl | rfl <;> simp [doV, ordV, e, tr]
theorem doV_out {op a b : Int} (h : op < 15 ∨ 21 < op) : doV op a b = (0, false) := by
  unfold doV
  repeat rw [if_neg (by omega)]

section
variable {op a b : Int}
theorem doV_add {x : Int} (h : (op == 15) = true) (hx : x = arithV .add (pb a) (pb b)) : doV op a b = (x, true) := by
  have : op = 15 := by simpa using h
  subst this; subst hx; rfl
theorem doV_sub {x : Int} (h : (op == 16) = true) (hx : x = arithV .sub (pb a) (pb b)) : doV op a b = (x, true) := by
  have : op = 16 := by simpa using h
  subst this; subst hx; rfl
theorem doV_mul {x : Int} (h : (op == 17) = true) (hx : x = arithV .mul (pb a) (pb b)) : doV op a b = (x, true) := by
  have : op = 17 := by simpa using h
  subst this; subst hx; rfl
theorem doV_quo {x : Int} (h : (op == 18) = true) (hx : x = arithV .quo (pb a) (pb b)) : doV op a b = (x, true) := by
  have : op = 18 := by simpa using h
  subst this; subst hx; rfl
theorem doV_eql (h : (op == 19) = true) : doV op a b = (tr (FloatKind.f64.format.order (pb a) (pb b) == some .eq), true) := by
  have : op = 19 := by simpa using h
  subst this; rfl
theorem doV_lss (h : (op == 20) = true) : doV op a b = (tr (FloatKind.f64.format.order (pb a) (pb b) == some .lt), true) := by
  have : op = 20 := by simpa using h
  subst this; rfl
theorem doV_leq (h : (op == 21) = true) : doV op a b = (tr (FloatKind.f64.format.order (pb a) (pb b) == some .lt || FloatKind.f64.format.order (pb a) (pb b) == some .eq), true) := by
  have : op = 21 := by simpa using h
  subst this; rfl
theorem doV_none (h1 : (op == 15) = false) (h2 : (op == 16) = false) (h3 : (op == 17) = false) (h4 : (op == 18) = false) (h5 : (op == 19) = false) (h6 : (op == 20) = false) (h7 : (op == 21) = false) : doV op a b = (0, false) := by
  simp only [beq_eq_false_iff_ne] at *
  simp [doV, *]
end

def ofIntV (n : Int) : Int := plainV (wrap64 (floatOfInt .f64 n))
theorem ofInt_lt (n : Int) : floatOfInt .f64 n < 18446744073709551616 := by
  have := floatOfInt_wf .f64 n
  simp [Lit.wf] at this
  exact this

/-- a digit of sixteen -/
def hexd (d : Nat) : UInt8 := if d < 10 then UInt8.ofNat (48 + d) else UInt8.ofNat (87 + d)
/-- the first k digits of sixteen -/
def hexTo (u k : Nat) : List UInt8 := [48, 102] ++ (List.range k).map fun i => hexd (u / 16 ^ (15 - i) % 16)
def hexText (u : Nat) : List UInt8 := hexTo u 16
theorem hexTo_succ (u k : Nat) : hexTo u (k + 1) = hexTo u k ++ [hexd (u / 16 ^ (15 - k) % 16)] := by
  simp [hexTo, List.range_succ]

theorem nib_eq (u k : Nat) (hu : u < 18446744073709551616) (hk : k < 16) : bits .and .u64 ((u : Int) / 2 ^ (60 - 4 * k)) 15 = ((u / 16 ^ (15 - k) % 16 : Nat) : Int) := by
  have e1 : ((u : Int) / 2 ^ (60 - 4 * k)) = ((u / 16 ^ (15 - k) : Nat) : Int) := by
    have : (16 : Nat) ^ (15 - k) = 2 ^ (60 - 4 * k) := by
      rw [show 60 - 4 * k = 4 * (15 - k) from by omega, Nat.pow_mul]
    rw [this]; simp
  have h : u / 16 ^ (15 - k) < 18446744073709551616 := Nat.lt_of_le_of_lt (Nat.div_le_self _ _) hu
  have h2 := u64_and_nat (u / 16 ^ (15 - k)) 15 h (by omega)
  rw [e1]
  show bits .and .u64 _ ((15 : Nat) : Int) = _
  rw [h2, Nat.and_two_pow_sub_one_eq_mod _ 4]

def hexStr : ByteArray := { data := #[48, 49, 50, 51, 52, 53, 54, 55, 56, 57, 97, 98, 99, 100, 101, 102] }
theorem hexStr_at : ∀ d : Fin 16, hexStr[d.val]'(d.isLt) = hexd d := by decide
theorem hexStr_val (d : Nat) (h : d < 16) (h' : d < hexStr.size) : Value.int .u8 ((hexStr[d]'h').toNat : Int) = .int .u8 ((hexd d).toNat : Int) := by
  exact congrArg (fun b : UInt8 => Value.int .u8 (b.toNat : Int)) (hexStr_at ⟨d, h⟩)

/-- the last k digits of sixteen -/
def hexEnd (u : Nat) : Nat → List UInt8
  | 0 => []
  | k + 1 => hexd (u / 16 ^ k % 16) :: hexEnd u k
theorem hexEnd_length (u k : Nat) : (hexEnd u k).length = k := by
  induction k with
  | zero => rfl
  | succ k ih => simp [hexEnd, ih]
theorem hexEnd_text (u : Nat) : [48, 102] ++ hexEnd u 16 = hexText u := rfl
theorem hexd_lo {d : Nat} (h : d < 10) : ((hexd d).toNat : Int) = d + 48 := by
  simp only [hexd, h, if_true, UInt8.toNat_ofNat']
  omega
theorem hexd_hi {d : Nat} (h : ¬ d < 10) (h2 : d < 16) : ((hexd d).toNat : Int) = d + 87 := by
  simp only [hexd, h, if_false, UInt8.toNat_ofNat']
  omega

/-- four bits of a digit, whatever byte it is -/
def nibR (c : Nat) : Nat := if 97 ≤ c then (c + 9) % 16 else c % 16
/-- what the first k digits behind the first two bytes make -/
def decTo (l : List UInt8) : Nat → Nat
  | 0 => 0
  | k + 1 => decTo l k * 16 + nibR (l.getD (2 + k) 0).toNat
theorem nibR_lt (c : Nat) : nibR c < 16 := by unfold nibR; split <;> omega
theorem decTo_lt (l : List UInt8) (k : Nat) : decTo l k < 16 ^ k := by
  induction k with
  | zero => simp [decTo]
  | succ k ih => have := nibR_lt (l.getD (2 + k) 0).toNat; rw [Nat.pow_succ, decTo]; omega
/-- the float that a text is -/
def getV (l : List UInt8) : Int × Bool :=
  if l.length = 18 ∧ hexText (pb (wrap64 (decTo l 16))) = l then (wrap64 (decTo l 16), true) else (0, false)

theorem nibR_hexd : ∀ d : Fin 16, nibR (hexd d.val).toNat = d.val := by decide
theorem hexText_length (u : Nat) : (hexText u).length = 18 := by simp [hexText, hexTo]
theorem hexText_at (u k : Nat) (h : k < 16) : (hexText u).getD (2 + k) 0 = hexd (u / 16 ^ (15 - k) % 16) := by
  have e : (hexText u) = [48, 102] ++ (List.range 16).map fun i => hexd (u / 16 ^ (15 - i) % 16) := rfl
  rw [e, List.getD_eq_getElem?_getD, List.getElem?_append_right (by simp)]
  simp [h]
theorem decTo_hexText (u k : Nat) (hu : u < 18446744073709551616) (hk : k ≤ 16) : decTo (hexText u) k = u / 16 ^ (16 - k) := by
  induction k with
  | zero =>
    have e : (16 : Nat) ^ (16 - 0) = 18446744073709551616 := by decide
    rw [e, Nat.div_eq_of_lt hu]; rfl
  | succ k ih =>
    rw [decTo, ih (by omega), hexText_at u k (by omega)]
    have h1 := nibR_hexd ⟨u / 16 ^ (15 - k) % 16, Nat.mod_lt _ (by omega)⟩
    simp only at h1
    rw [h1]
    have e : 16 - (k + 1) = 15 - k := by omega
    have e2 : (16 : Nat) ^ (16 - k) = 16 ^ (15 - k) * 16 := by rw [← Nat.pow_succ]; congr 1; omega
    rw [e, e2, ← Nat.div_div_eq_div_mul]
    omega

/-- a byte of sixteen digits -/
def isHex (c : UInt8) : Bool := (48 ≤ c && c ≤ 57) || (97 ≤ c && c ≤ 102)
theorem hexd_nibR : ∀ c : Fin 256, isHex (UInt8.ofNat c.val) = true → hexd (nibR c.val) = UInt8.ofNat c.val := by decide +kernel
theorem isHex_hexd : ∀ d : Fin 16, isHex (hexd d.val) = true := by decide
theorem firstIdx_hex : ∀ c : Fin 256, firstIdx hexStr (UInt8.ofNat c.val) = if isHex (UInt8.ofNat c.val) then ((nibR c.val : Nat) : Int) else -1 := by decide +kernel
theorem firstIdx_at (c : UInt8) : firstIdx hexStr c = if isHex c then ((nibR c.toNat : Nat) : Int) else -1 := by
  have := firstIdx_hex ⟨c.toNat, c.toNat_lt⟩
  simpa using this
theorem hexd_at {c : UInt8} (h : isHex c = true) : hexd (nibR c.toNat) = c := by
  have := hexd_nibR ⟨c.toNat, c.toNat_lt⟩
  simpa [h] using this

theorem nib_hi {x c : Nat} (hx : x < 1152921504606846976) (hc : c < 256) (h : 97 ≤ IntKind.u64.wrap (c : Int)) :
    IntKind.u64.wrap (IntKind.u64.wrap ((x : Int) * 16) + (IntKind.u64.wrap (IntKind.u64.wrap (c : Int) - 87)).tmod 16) = ((x * 16 + nibR c : Nat) : Int) := by
  simp only [IntKind.wrap_u64, tmod_of_emod] at *
  have : 97 ≤ c := by omega
  simp only [nibR, this, if_true]
  omega
theorem nib_lo {x c : Nat} (hx : x < 1152921504606846976) (hc : c < 256) (h : IntKind.u64.wrap (c : Int) < 97) :
    IntKind.u64.wrap (IntKind.u64.wrap ((x : Int) * 16) + (IntKind.u64.wrap (IntKind.u64.wrap (c : Int) - 48)).tmod 16) = ((x * 16 + nibR c : Nat) : Int) := by
  simp only [IntKind.wrap_u64, tmod_of_emod] at *
  have : ¬ 97 ≤ c := by omega
  simp only [nibR, this, if_false]
  omega
theorem decTo_lt60 (l : List UInt8) {k : Nat} (h : k < 16) : decTo l k < 1152921504606846976 := by
  have h1 := decTo_lt l k
  have h2 : 16 ^ k ≤ 16 ^ 15 := Nat.pow_le_pow_right (by omega) (by omega)
  omega
theorem decTo_lt64 (l : List UInt8) : decTo l 16 < 18446744073709551616 := decTo_lt l 16
theorem getD_at {s : ByteArray} {k : Nat} (h : k < s.size) : s.data.toList.getD k 0 = s[k] := by
  rw [List.getD_eq_getElem?_getD, List.getElem?_eq_getElem (by simpa using h)]; rfl

theorem getV_no {s : ByteArray} {x : Nat} (hx : x = decTo s.data.toList 16) (h : (!hexText (pb (wrap64 x)) == s.toList) = true) : getV s.data.toList = (0, false) := by
  subst hx
  rw [ByteArray.toList_eq] at h
  simp only [Bool.not_eq_true', beq_eq_false_iff_ne] at h
  unfold getV
  rw [if_neg (fun k => h k.2)]
theorem getV_yes {s : ByteArray} {x : Nat} (hs : s.size = 18) (hx : x = decTo s.data.toList 16) (h : (!hexText (pb (wrap64 x)) == s.toList) = false) : getV s.data.toList = (wrap64 x, true) := by
  subst hx
  rw [ByteArray.toList_eq] at h
  simp only [Bool.not_eq_false', beq_iff_eq] at h
  unfold getV
  rw [if_pos ⟨by simpa using hs, h⟩]

theorem hexText_take (u : Nat) : (hexText u).take 2 = [48, 102] := rfl
theorem getV_pre {l : List UInt8} (h : l.take 2 ≠ [48, 102]) : getV l = (0, false) := by
  unfold getV
  rw [if_neg]
  rintro ⟨_, h2⟩
  exact h (by rw [← h2]; rfl)
theorem getV_hex {l : List UInt8} {k : Nat} (hk : k < 16) (h : isHex (l.getD (2 + k) 0) = false) : getV l = (0, false) := by
  unfold getV
  rw [if_neg]
  rintro ⟨_, h2⟩
  rw [← h2, hexText_at _ _ hk] at h
  have := isHex_hexd ⟨pb (wrap64 (decTo l 16)) / 16 ^ (15 - k) % 16, Nat.mod_lt _ (by omega)⟩
  simp only at this
  rw [this] at h
  cases h
/-- a text of sixteen right digits is that of the number that they make -/
theorem text_of_dec {l : List UInt8} (hl : l.length = 18) (hp : l.take 2 = [48, 102]) (hx : ∀ j, j < 16 → isHex (l.getD (2 + j) 0) = true) : hexText (decTo l 16) = l := by
  have hd : ∀ k, k ≤ 16 → ∀ j, j < k → decTo l k / 16 ^ (k - 1 - j) % 16 = nibR (l.getD (2 + j) 0).toNat := by
    intro k
    induction k with
    | zero => intro _ j hj; omega
    | succ k ih =>
      intro hk j hj
      rw [decTo]
      by_cases e : j = k
      · subst e
        have := nibR_lt (l.getD (2 + j) 0).toNat
        rw [show j + 1 - 1 - j = 0 from by omega, Nat.pow_zero, Nat.div_one]; omega
      · have h1 := ih (by omega) j (by omega)
        have := nibR_lt (l.getD (2 + k) 0).toNat
        rw [show k + 1 - 1 - j = (k - 1 - j) + 1 from by omega, Nat.pow_succ, Nat.mul_comm (16 ^ (k - 1 - j)) 16, ← Nat.div_div_eq_div_mul]
        rw [show (decTo l k * 16 + nibR (l.getD (2 + k) 0).toNat) / 16 = decTo l k from by omega]
        exact h1
  apply List.ext_getElem
  · rw [hexText_length, hl]
  · intro i h1 h2
    have e : l[i] = l.getD i 0 := by rw [List.getD_eq_getElem?_getD, List.getElem?_eq_getElem h2]; rfl
    have e' : (hexText (decTo l 16))[i] = (hexText (decTo l 16)).getD i 0 := by rw [List.getD_eq_getElem?_getD, List.getElem?_eq_getElem h1]; rfl
    rw [e, e']
    by_cases hi : i < 2
    · have t1 : ∀ m : List UInt8, m.take 2 = [48, 102] → m.getD i 0 = ([48, 102] : List UInt8).getD i 0 := by
        intro m hm
        rw [← hm, List.getD_eq_getElem?_getD, List.getD_eq_getElem?_getD, List.getElem?_take_of_lt hi]
      rw [t1 _ (hexText_take _), t1 _ hp]
    · obtain ⟨j, rfl⟩ : ∃ j, i = 2 + j := ⟨i - 2, by omega⟩
      rw [hexText_at _ j (by omega), show 15 - j = 16 - 1 - j from by omega, hd 16 (by omega) j (by omega)]
      exact hexd_at (hx j (by omega))
theorem hexText_inj {u v : Nat} (hu : u < 18446744073709551616) (hv : v < 18446744073709551616) (h : hexText u = hexText v) : u = v := by
  have h1 := decTo_hexText u 16 hu (by omega)
  have h2 := decTo_hexText v 16 hv (by omega)
  have h3 := h1.symm.trans ((congrArg (decTo · 16) h).trans h2)
  simpa only [Nat.sub_self, Nat.pow_zero, Nat.div_one] using h3
theorem getV_plain {l : List UInt8} {x : Nat} (hl : l.length = 18) (hp : l.take 2 = [48, 102]) (hx : ∀ j, j < 16 → isHex (l.getD (2 + j) 0) = true) (he : x = decTo l 16) (h : (plainV (wrap64 x) != wrap64 x) = false) : getV l = (wrap64 x, true) := by
  subst he
  have h' : plainV (wrap64 (decTo l 16)) = wrap64 (decTo l 16) := by simpa using h
  have h2 : hexText (pb (wrap64 (decTo l 16))) = l := by
    unfold pb
    rw [h', u64_wrap64 _ (decTo_lt64 l), text_of_dec hl hp hx]
  unfold getV
  rw [if_pos ⟨hl, h2⟩]
theorem getV_unplain {l : List UInt8} {x : Nat} (hl : l.length = 18) (hp : l.take 2 = [48, 102]) (hx : ∀ j, j < 16 → isHex (l.getD (2 + j) 0) = true) (he : x = decTo l 16) (h : (plainV (wrap64 x) != wrap64 x) = true) : getV l = (0, false) := by
  subst he
  have h' : plainV (wrap64 (decTo l 16)) ≠ wrap64 (decTo l 16) := by simpa using h
  unfold getV
  rw [if_neg]
  rintro ⟨_, h2⟩
  apply h'
  have h3 : hexText (pb (wrap64 (decTo l 16))) = hexText (decTo l 16) := by rw [h2, text_of_dec hl hp hx]
  have h4 := hexText_inj (pb_lt _) (decTo_lt64 l) h3
  cases hn : isNanN (u64 (wrap64 (decTo l 16)))
  · exact plain_num hn
  · have h5 : pb (wrap64 (decTo l 16)) = u64 nanC := by simp [pb, plainV, hn]
    have h6 : plainV (wrap64 (decTo l 16)) = nanC := by simp [plainV, hn]
    rw [h6, ← h4, h5]
    exact (u64_i64 nanC (by decide) (by decide)).symm
theorem or_nib {x d : Nat} (hx : x < 1152921504606846976) (hd : d < 16) : bits .or .u64 (IntKind.u64.wrap ((x : Int) * 16)) (d : Int) = ((x * 16 + d : Nat) : Int) := by
  have e : IntKind.u64.wrap ((x : Int) * 16) = ((x * 16 : Nat) : Int) := by rw [IntKind.wrap_u64]; omega
  rw [e, u64_or_nat _ _ (by omega) (by omega), nat_join4 _ _ (by omega) hd]

end Go.Proofs.Ytiheecgabfcigaa.Flo
