/- FoldInstrs: whatever instruction there is, opened; folded by both; the walk of the law. -/
import Derived.Test.YtiheecgabfcigaaFoldT
import Derived.Test.YtiheecgabfcigaaFoldH
import Derived.Test.YtiheecgabfcigaaWordB
namespace Go.Proofs.Ytiheecgabfcigaa
open Go.RowKit Num Flo Word

/-- the arguments of an instruction, as they lie in memory -/
structure ArgsIn (w : World) (pa : Option Addr) (l : Nat) (el : Nat → Int × ByteArray × Int) : Prop where
  at' : 0 < l → ∃ B o, pa = some ⟨B, o, none⟩ ∧ B < w.heap.size ∧ ∀ i, i < l → w.cell? ⟨B, o + i * 3, none⟩ = some (.int .i64 (el i).1) ∧ w.cell? ⟨B, o + i * 3 + 1, none⟩ = some (.string (el i).2.1) ∧ w.cell? ⟨B, o + i * 3 + 2, none⟩ = some (.int .i64 (el i).2.2)
  r : ∀ i, i < l → -9223372036854775808 ≤ (el i).2.2 ∧ (el i).2.2 ≤ 9223372036854775807
  s : ∀ i, i < l → (el i).2.1.size ≤ 9223372036854775807
theorem ArgsIn.below {w w1 : World} {pa : Option Addr} {l : Nat} {el : Nat → Int × ByteArray × Int} (h : ArgsIn w pa l el) (hb : Below w.heap.size w w1) : ArgsIn w1 pa l el :=
  { at' := fun hl => by
      obtain ⟨B, o, e, hB, hc⟩ := h.at' hl
      refine ⟨B, o, e, Nat.lt_of_lt_of_le hB hb.size, fun i hi => ?_⟩
      rw [hb.cell hB, hb.cell hB, hb.cell hB]
      exact hc i hi
    r := h.r
    s := h.s }

def progV (op : Int) (l : Nat) (el : Nat → Int × ByteArray × Int) : Int × ByteArray × Int × Bool :=
  if l = 1 then singleV op (el 0).1 (el 0).2.1 (el 0).2.2
  else if l = 2 then Fold2 op (el 0).1 (el 0).2.1 (el 0).2.2 (el 1).1 (el 1).2.1 (el 1).2.2
  else (0, .empty, 0, false)
def docV (op : Int) (l : Nat) (el : Nat → Int × ByteArray × Int) : Int × ByteArray × Int × Bool :=
  if l = 1 then singleV op (el 0).1 (el 0).2.1 (el 0).2.2
  else if l = 2 then refV op (el 0).1 (el 0).2.1 (el 0).2.2 (el 1).1 (el 1).2.1 (el 1).2.2
  else (0, .empty, 0, false)

theorem prog_any (op : Int) (d nm : ByteArray) (pa pf po : Option Addr) (l cap lf kf lo ko : Nat) (el : Nat → Int × ByteArray × Int) (hl : l ≤ 9223372036854775807) (k : Int) (t : ByteArray) (j : Int) (b : Bool) (h : progV op l el = (k, t, j, b)) (w : World) (hA : ArgsIn w pa l el) :
    Calls Try.prog 8 #[.agg #[.int .i64 op, .string d, .string nm, .slice pa l cap, .slice pf lf kf, .slice po lo ko]] w fun e w' => e = .returned (.tuple #[.agg #[.int .i64 k, .string t, .int .i64 j], .bool b]) ∧ Below w.heap.size w w' := by
  unfold progV at h
  by_cases h1 : l = 1
  · subst h1
    rw [if_pos rfl] at h
    obtain ⟨B, o, rfl, hB, hc⟩ := hA.at' (by decide)
    obtain ⟨c0, c1, c2⟩ := hc 0 (by decide)
    simp only [Nat.zero_mul, Nat.add_zero] at c0 c1 c2
    exact instr1_val op d nm B o cap pf po lf kf lo ko _ _ _ (hA.r 0 (by decide)) k t j b h w hB c0 c1 c2
  rw [if_neg h1] at h
  by_cases h2 : l = 2
  · subst h2
    rw [if_pos rfl] at h
    obtain ⟨B, o, rfl, hB, hc⟩ := hA.at' (by decide)
    obtain ⟨c0, c1, c2⟩ := hc 0 (by decide)
    obtain ⟨c3, c4, c5⟩ := hc 1 (by decide)
    simp only [Nat.zero_mul, Nat.add_zero, Nat.one_mul] at c0 c1 c2 c3 c4 c5
    unfold Fold2 at h
    rcases hd : (decide (1 ≤ op) && decide (op ≤ 21) || op == 28) with _ | _
    · rw [if_neg (by rw [hd]; decide)] at h
      simp only [Prod.mk.injEq] at h
      obtain ⟨rfl, rfl, rfl, rfl⟩ := h
      exact instr2_not op d nm _ cap hd pf po lf kf lo ko w
    · rw [if_pos hd] at h
      exact instr2_val op d nm B o cap pf po lf kf lo ko _ _ _ _ _ _ hd k t j b h w hB c0 c1 c2 c3 c4 c5
  rw [if_neg h2] at h
  simp only [Prod.mk.injEq] at h
  obtain ⟨rfl, rfl, rfl, rfl⟩ := h
  exact instrN_val op d nm pa l cap h1 h2 hl pf po lf kf lo ko w

theorem right_A {K : Int} {s : ByteArray} {n : Int} (h : rightV K s.data.toList n = true) : RightA K s n := by
  have emp : s.data.toList.isEmpty = true → s = .empty := fun h => by
    have : s.data.toList = [] := by simpa using h
    cases s with
    | mk d => 
      have : d = #[] := by simpa using this
      rw [this]; rfl
  unfold rightV at h
  unfold RightA
  by_cases h1 : K = 1
  · rw [if_pos h1] at h
    simp only [Bool.and_eq_true] at h
    exact .inl ⟨h1, of_decide_eq_true h.2⟩
  · refine .inr ⟨h1, emp ?_⟩
    rw [if_neg h1] at h
    by_cases h2 : K = 2
    · rw [if_pos h2] at h; exact h
    rw [if_neg h2] at h
    by_cases h3 : K = 3
    · rw [if_pos h3] at h; simp only [Bool.and_eq_true] at h; exact h.1
    rw [if_neg h3] at h
    by_cases h4 : K = 4
    · rw [if_pos h4] at h; simp only [Bool.and_eq_true] at h; exact h.1
    rw [if_neg h4] at h
    by_cases h5 : K = 5
    · rw [if_pos h5] at h; simp only [Bool.and_eq_true] at h; exact h.1.1
    rw [if_neg h5] at h
    cases h

theorem prog_doc (op : Int) (l : Nat) (el : Nat → Int × ByteArray × Int) (h : ∀ i, i < l → rightV (el i).1 (el i).2.1.data.toList (el i).2.2 = true) : AlikeR (progV op l el) (docV op l el) := by
  unfold progV docV
  by_cases h1 : l = 1
  · rw [if_pos h1, if_pos h1]; exact ⟨rfl, fun _ => rfl⟩
  rw [if_neg h1, if_neg h1]
  by_cases h2 : l = 2
  · rw [if_pos h2, if_pos h2]
    exact fold2_ref op _ _ _ _ _ _ (right_A (h 0 (by omega))) (right_A (h 1 (by omega)))
  rw [if_neg h2, if_neg h2]
  exact ⟨rfl, fun _ => rfl⟩
end Go.Proofs.Ytiheecgabfcigaa
