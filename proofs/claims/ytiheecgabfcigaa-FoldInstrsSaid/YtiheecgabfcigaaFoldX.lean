/- The reference's Instr, whatever the instruction is. -/
import Derived.Test.YtiheecgabfcigaaFoldV
import Derived.Test.YtiheecgabfcigaaFoldU
import Derived.Test.YtiheecgabfcigaaFoldS1
import Derived.Test.YtiheecgabfcigaaFoldS2
import Derived.Test.YtiheecgabfcigaaFoldS3
import Derived.Test.YtiheecgabfcigaaFoldS4
import Derived.Test.YtiheecgabfcigaaFoldS5
import Derived.Test.YtiheecgabfcigaaFoldS6
namespace Go.Proofs.Ytiheecgabfcigaa
open Go.RowKit Num Flo Word

theorem doc_any (op : Int) (d nm : ByteArray) (pa pf po : Option Addr) (l cap lf kf lo ko : Nat) (el : Nat → Int × ByteArray × Int) (hl : l ≤ 9223372036854775807) (k : Int) (t : ByteArray) (j : Int) (b : Bool) (h : docV op l el = (k, t, j, b)) (w : World) (hA : ArgsIn w pa l el) :
    Calls Try.prog 9 #[.agg #[.int .i64 op, .string d, .string nm, .slice pa l cap, .slice pf lf kf, .slice po lo ko]] w fun e w' => e = .returned (.tuple #[.agg #[.int .i64 k, .string t, .int .i64 j], .bool b]) ∧ Below w.heap.size w w' := by
  unfold docV at h
  by_cases h1 : l = 1
  · subst h1
    rw [if_pos rfl] at h
    obtain ⟨B, o, rfl, hB, hc⟩ := hA.at' (by decide)
    obtain ⟨c0, c1, c2⟩ := hc 0 (by decide)
    simp only [Nat.zero_mul, Nat.add_zero] at c0 c1 c2
    exact refone_val op d nm B o cap pf po lf kf lo ko _ _ _ k t j b h w hB c0 c1 c2
  rw [if_neg h1] at h
  by_cases h2 : l = 2
  · subst h2
    rw [if_pos rfl] at h
    obtain ⟨B, o, rfl, hB, hc⟩ := hA.at' (by decide)
    obtain ⟨c0, c1, c2⟩ := hc 0 (by decide)
    obtain ⟨c3, c4, c5⟩ := hc 1 (by decide)
    simp only [Nat.zero_mul, Nat.add_zero, Nat.one_mul] at c0 c1 c2 c3 c4 c5
    have hn : Hid (-9223372036854775808 ≤ (el 0).2.2 ∧ (el 0).2.2 ≤ 9223372036854775807) := hA.r 0 (by decide)
    have hn2 : Hid (-9223372036854775808 ≤ (el 1).2.2 ∧ (el 1).2.2 ≤ 9223372036854775807) := hA.r 1 (by decide)
    by_cases hop : op < 1 ∨ (21 < op ∧ op ≠ 28)
    · exact refx_val op hop d nm B o cap pf po lf kf lo ko _ _ _ _ _ _ hn hn2 k t j b h w hB c0 c1 c2 c3 c4 c5
    · have hops : op = 1 ∨ op = 2 ∨ op = 3 ∨ op = 4 ∨ op = 5 ∨ op = 6 ∨ op = 7 ∨ op = 8 ∨ op = 9 ∨ op = 10 ∨ op = 11 ∨ op = 12 ∨ op = 13 ∨ op = 14 ∨ op = 15 ∨ op = 16 ∨ op = 17 ∨ op = 18 ∨ op = 19 ∨ op = 20 ∨ op = 21 ∨ op = 28 := by omega
      clear hop
      rcases hops with rfl | rfl | rfl | rfl | rfl | rfl | rfl | rfl | rfl | rfl | rfl | rfl | rfl | rfl | rfl | rfl | rfl | rfl | rfl | rfl | rfl | rfl
      · exact ref1_val d nm B o cap pf po lf kf lo ko _ _ _ _ _ _ hn hn2 k t j b h w hB c0 c1 c2 c3 c4 c5
      · exact ref2_val d nm B o cap pf po lf kf lo ko _ _ _ _ _ _ hn hn2 k t j b h w hB c0 c1 c2 c3 c4 c5
      · exact ref3_val d nm B o cap pf po lf kf lo ko _ _ _ _ _ _ hn hn2 k t j b h w hB c0 c1 c2 c3 c4 c5
      · exact ref4_val d nm B o cap pf po lf kf lo ko _ _ _ _ _ _ hn hn2 k t j b h w hB c0 c1 c2 c3 c4 c5
      · exact ref5_val d nm B o cap pf po lf kf lo ko _ _ _ _ _ _ hn hn2 k t j b h w hB c0 c1 c2 c3 c4 c5
      · exact ref6_val d nm B o cap pf po lf kf lo ko _ _ _ _ _ _ hn hn2 k t j b h w hB c0 c1 c2 c3 c4 c5
      · exact ref7_val d nm B o cap pf po lf kf lo ko _ _ _ _ _ _ hn hn2 k t j b h w hB c0 c1 c2 c3 c4 c5
      · exact ref8_val d nm B o cap pf po lf kf lo ko _ _ _ _ _ _ hn hn2 k t j b h w hB c0 c1 c2 c3 c4 c5
      · exact ref9_val d nm B o cap pf po lf kf lo ko _ _ _ _ _ _ hn hn2 k t j b h w hB c0 c1 c2 c3 c4 c5
      · exact ref10_val d nm B o cap pf po lf kf lo ko _ _ _ _ _ _ hn hn2 k t j b h w hB c0 c1 c2 c3 c4 c5
      · exact ref11_val d nm B o cap pf po lf kf lo ko _ _ _ _ _ _ hn hn2 k t j b h w hB c0 c1 c2 c3 c4 c5
      · exact ref12_val d nm B o cap pf po lf kf lo ko _ _ _ _ _ _ hn hn2 k t j b h w hB c0 c1 c2 c3 c4 c5
      · exact ref13_val d nm B o cap pf po lf kf lo ko _ _ _ _ _ _ hn hn2 k t j b h w hB c0 c1 c2 c3 c4 c5
      · exact ref14_val d nm B o cap pf po lf kf lo ko _ _ _ _ _ _ hn hn2 k t j b h w hB c0 c1 c2 c3 c4 c5
      · exact ref15_val d nm B o cap pf po lf kf lo ko _ _ _ _ _ _ hn hn2 k t j b h w hB c0 c1 c2 c3 c4 c5
      · exact ref16_val d nm B o cap pf po lf kf lo ko _ _ _ _ _ _ hn hn2 k t j b h w hB c0 c1 c2 c3 c4 c5
      · exact ref17_val d nm B o cap pf po lf kf lo ko _ _ _ _ _ _ hn hn2 k t j b h w hB c0 c1 c2 c3 c4 c5
      · exact ref18_val d nm B o cap pf po lf kf lo ko _ _ _ _ _ _ hn hn2 k t j b h w hB c0 c1 c2 c3 c4 c5
      · exact ref19_val d nm B o cap pf po lf kf lo ko _ _ _ _ _ _ hn hn2 k t j b h w hB c0 c1 c2 c3 c4 c5
      · exact ref20_val d nm B o cap pf po lf kf lo ko _ _ _ _ _ _ hn hn2 k t j b h w hB c0 c1 c2 c3 c4 c5
      · exact ref21_val d nm B o cap pf po lf kf lo ko _ _ _ _ _ _ hn hn2 k t j b h w hB c0 c1 c2 c3 c4 c5
      · exact ref28_val d nm B o cap pf po lf kf lo ko _ _ _ _ _ _ hn hn2 k t j b h w hB c0 c1 c2 c3 c4 c5
  rw [if_neg h2] at h
  simp only [Prod.mk.injEq] at h
  obtain ⟨rfl, rfl, rfl, rfl⟩ := h
  exact refmore_val op d nm pa l cap h1 h2 hl pf po lf kf lo ko w

end Go.Proofs.Ytiheecgabfcigaa
