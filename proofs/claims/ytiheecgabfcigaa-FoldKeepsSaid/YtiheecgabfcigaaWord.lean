/- Plain facts on names and arguments as words. -/
import Derived.Test.YtiheecgabfcigaaFlo
import Derived.Test.YtiheecgabfcigaaNum
namespace Go.Proofs.Ytiheecgabfcigaa.Word
open Go.RowKit Flo Num

def letN (c : Nat) : Bool := (decide (97 ≤ c) && decide (c ≤ 122)) || (decide (65 ≤ c) && decide (c ≤ 90)) || decide (c = 95)
def digN (c : Nat) : Bool := decide (48 ≤ c) && decide (c ≤ 57)
def tNull : List UInt8 := [110, 117, 108, 108]
def tInt : List UInt8 := [105, 110, 116]
def tFloat : List UInt8 := [102, 108, 111, 97, 116]
def keptL (l : List UInt8) : Bool := l == tNull || l == tInt || l == tFloat
/-- whether a byte may stand at a place of a name -/
def okAt (l : List UInt8) (i : Nat) : Bool := (digN (l.getD i 0).toNat && decide (0 < i)) || letN (l.getD i 0).toNat
def okAll (l : List UInt8) : Nat → Bool
  | 0 => true
  | k + 1 => okAll l k && okAt l k
def nameB (l : List UInt8) : Bool := decide (1 ≤ l.length) && decide (l.length ≤ 16) && okAll l l.length && !keptL l

theorem okAll_false {l : List UInt8} {k n : Nat} (hk : k < n) (h : okAt l k = false) : okAll l n = false := by
  induction n with
  | zero => omega
  | succ n ih =>
    rw [okAll]
    by_cases e : k = n
    · subst e; simp [h]
    · rw [ih (by omega)]; rfl
theorem nameB_bad {l : List UInt8} {k : Nat} (hk : k < l.length) (h : okAt l k = false) : nameB l = false := by
  unfold nameB; rw [okAll_false hk h]; simp
theorem nameB_all {l : List UInt8} (h : okAll l l.length = true) : nameB l = (decide (1 ≤ l.length) && decide (l.length ≤ 16) && !keptL l) := by
  unfold nameB; rw [h]; simp
theorem okAt_zero (l : List UInt8) : okAt l 0 = letN (l.getD 0 0).toNat := by simp [okAt]
theorem okAt_pos {l : List UInt8} {i : Nat} (h : 0 < i) : okAt l i = (letN (l.getD i 0).toNat || digN (l.getD i 0).toNat) := by simp [okAt, h, Bool.or_comm]

/-! arguments -/
def rightV (K : Int) (l : List UInt8) (n : Int) : Bool :=
  if K = 1 then nameB l && decide (n = 0)
  else if K = 2 then l.isEmpty
  else if K = 3 then l.isEmpty && decide (plainV n = n)
  else if K = 4 then l.isEmpty && decide (n = 0)
  else if K = 5 then l.isEmpty && decide (0 ≤ n) && decide (n ≤ 999)
  else false
def putV (K : Int) (l : List UInt8) (n : Int) : List UInt8 :=
  if rightV K l n = false then []
  else if K = 2 then numText n
  else if K = 3 then hexText (pb n)
  else if K = 4 then tNull
  else if K = 5 then 35 :: numText n
  else l
theorem rightV_out {K : Int} {l : List UInt8} {n : Int} (h : K < 1 ∨ 5 < K) : rightV K l n = false := by
  unfold rightV
  repeat rw [if_neg (by omega)]

end Go.Proofs.Ytiheecgabfcigaa.Word
