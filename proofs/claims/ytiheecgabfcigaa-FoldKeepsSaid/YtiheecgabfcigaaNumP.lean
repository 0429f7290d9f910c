/- The walk of Put of package num: a number's text. -/
import Derived.Test.YtiheecgabfcigaaRows
import Derived.Test.YtiheecgabfcigaaNum
import Derived.Test.YtiheecgabfcigaaKit
namespace Go.Proofs.Ytiheecgabfcigaa
open Go.RowKit Num

/-- the last k of the twenty bytes are a number's last digits -/
def Filled (wr : World) (B k m : Nat) : Prop := (∀ i, i < 20 → (wr.cell? ⟨B, i, none⟩).isSome = true ∧ wr.frozen? ⟨B, i, none⟩ = false) ∧ ∀ j, j < k → wr.cell? ⟨B, 20 - k + j, none⟩ = some (byteV ((lowD m k).getD j 0))
theorem filled_step {wr : World} {B k m : Nat} (h : Filled wr B k m) (hk : k < 20) : Filled (wr.setCell ⟨B, 20 - k - 1, none⟩ (.int .u8 ((dig (m / 10 ^ k % 10)).toNat : Int))) B (k + 1) m := by
  refine ⟨fun i hi => ?_, fun j hj => ?_⟩
  · by_cases e : i = 20 - k - 1
    · subst e
      refine ⟨?_, by rw [World.frozen?_setCell]; exact (h.1 _ hi).2⟩
      rw [World.cell?_setCell_same' _ _ _ (h.1 _ hi).1]; rfl
    · refine ⟨?_, by rw [World.frozen?_setCell]; exact (h.1 _ hi).2⟩
      rw [World.cell?_setCell_other _ _ _ _ (addr_off (by omega))]; exact (h.1 _ hi).1
  · cases j with
    | zero =>
      show (wr.setCell ⟨B, 20 - k - 1, none⟩ _).cell? ⟨B, 20 - k - 1, none⟩ = _
      rw [World.cell?_setCell_same' _ _ _ (h.1 _ (by omega)).1]
      rfl
    | succ j =>
      rw [World.cell?_setCell_other _ _ _ _ (addr_off (by omega))]
      rw [lowD, List.getD_cons_succ, ← h.2 j (by omega)]
      congr 2
      omega

theorem numText_pos {n : Int} {k : Nat} (hneg : ¬ n < 0) (hk : nd n.natAbs = k) : numText n = lowD n.natAbs k := by
  unfold numText sign
  rw [if_neg hneg, hk]; rfl
theorem numText_neg {n : Int} {k : Nat} (hneg : n < 0) (hk : nd n.natAbs = k) : numText n = 45 :: lowD n.natAbs k := by
  unfold numText sign
  rw [if_pos hneg, hk]; rfl
theorem nd_here {m k : Nat} (hm : m ≤ 9223372036854775808) (hk : k < nd m) (h0 : m / 10 ^ (k + 1) = 0) : nd m = k + 1 := by
  apply Classical.byContradiction
  intro h
  exact (nd_spec hm).2 (k + 1) (by omega) (by omega) h0
theorem nd_more {m k : Nat} (hm : m ≤ 9223372036854775808) (hk : k < nd m) (h0 : m / 10 ^ (k + 1) ≠ 0) : k + 1 < nd m := by
  apply Classical.byContradiction
  intro h
  have e : nd m = k + 1 := by omega
  exact h0 (e ▸ (nd_spec hm).1)
theorem filled_neg {wr : World} {B k m : Nat} (q : Nat) (hq : q + (k + 1) = 20) (h : Filled wr B k m) : ∀ j, j < (45 :: lowD m k).length → (wr.setCell ⟨B, q, none⟩ (.int .u8 45)).cell? ⟨B, q + j, none⟩ = some (byteV ((45 :: lowD m k).getD j 0)) := by
  intro j hj
  rw [List.length_cons, lowD_length] at hj
  cases j with
  | zero =>
    show (wr.setCell ⟨B, q, none⟩ _).cell? ⟨B, q, none⟩ = _
    rw [World.cell?_setCell_same' _ _ _ (h.1 _ (by omega)).1]
    rfl
  | succ j =>
    rw [World.cell?_setCell_other _ _ _ _ (addr_off (by omega)), List.getD_cons_succ, ← h.2 j (by omega)]
    congr 2
    omega

end Go.Proofs.Ytiheecgabfcigaa
