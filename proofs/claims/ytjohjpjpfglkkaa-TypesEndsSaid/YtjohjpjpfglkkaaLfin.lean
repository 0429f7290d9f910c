/- The law of finding: the walk, over what the calls answer. -/
import Derived.Test.YtjohjpjpfglkkaaSao
import Derived.Test.YtjohjpjpfglkkaaViw
namespace Go.Proofs.Ytjohjpjpfglkkaa
open Go.RowKit

set_option maxHeartbeats 16000000 in
set_option maxRecDepth 100000 in
theorem finds_walk (w : World) (ssa : Bool) (u1 u2 u3 u4 : Value) (fn fr : ByteArray) (g1 g2 g3 : Value) (a b : ByteArray) (k : Int) (s : ByteArray) (n : Int) (nC nV tV nF rF nG tG nX tT : ByteArray) (lC l1 l2 l3 : Nat) (kX : Int) (bC bV bF bG bX bT bf : Bool) (Q : Value → Prop)
    (hAw : ∀ W, Calls Try.prog 8 #[] W fun e w' => e = .returned (.bool true) ∧ Below W.heap.size W w')
    (hFew : ∀ W, Below w.heap.size w W → Calls Try.prog 9 #[.agg #[.bool ssa, u1, u2, u3, u4], .agg #[.string fn, .string fr, g1, g2, g3]] W fun e w' => Below W.heap.size W w' ∧ ∃ c : Bool, e = .returned (.bool c))
    (hC1 : ∀ W, Below w.heap.size w W → Calls Try.prog 10 #[.agg #[.bool ssa, u1, u2, u3, u4], .string a] W fun e w' => Below W.heap.size W w' ∧ ∃ q c, e = .returned (.tuple #[.agg #[.string nC, .slice q lC c], .bool bC]))
    (hC2 : ∀ W, Below w.heap.size w W → Calls Try.prog 11 #[.agg #[.bool ssa, u1, u2, u3, u4], .string a] W fun e w' => Below W.heap.size W w' ∧ ∃ q c, e = .returned (.tuple #[.agg #[.string nC, .slice q lC c], .bool bC]))
    (hV1 : ∀ W, Below w.heap.size w W → Calls Try.prog 12 #[.agg #[.bool ssa, u1, u2, u3, u4], .string a, .string b] W fun e w' => Below W.heap.size W w' ∧ e = .returned (.tuple #[.agg #[.string nV, .string tV], .bool bV]))
    (hV2 : ∀ W, Below w.heap.size w W → Calls Try.prog 13 #[.agg #[.bool ssa, u1, u2, u3, u4], .string a, .string b] W fun e w' => Below W.heap.size W w' ∧ e = .returned (.tuple #[.agg #[.string nV, .string tV], .bool bV]))
    (hF1 : ∀ W, Below w.heap.size w W → Calls Try.prog 14 #[.agg #[.bool ssa, u1, u2, u3, u4], .string a] W fun e w' => Below W.heap.size W w' ∧ ∃ q c qq cc qqq ccc, e = .returned (.tuple #[.agg #[.string nF, .string rF, .slice q l1 c, .slice qq l2 cc, .slice qqq l3 ccc], .bool bF]) ∧ Q (.agg #[.string nF, .string rF, .slice q l1 c, .slice qq l2 cc, .slice qqq l3 ccc]))
    (hF2 : ∀ W, Below w.heap.size w W → Calls Try.prog 15 #[.agg #[.bool ssa, u1, u2, u3, u4], .string a] W fun e w' => Below W.heap.size W w' ∧ ∃ q c qq cc qqq ccc, e = .returned (.tuple #[.agg #[.string nF, .string rF, .slice q l1 c, .slice qq l2 cc, .slice qqq l3 ccc], .bool bF]) ∧ Q (.agg #[.string nF, .string rF, .slice q l1 c, .slice qq l2 cc, .slice qqq l3 ccc]))
    (hG1 : ∀ W, Below w.heap.size w W → Calls Try.prog 16 #[.agg #[.bool ssa, u1, u2, u3, u4], .string a] W fun e w' => Below W.heap.size W w' ∧ e = .returned (.tuple #[.agg #[.string nG, .string tG], .bool bG]))
    (hG2 : ∀ W, Below w.heap.size w W → Calls Try.prog 17 #[.agg #[.bool ssa, u1, u2, u3, u4], .string a] W fun e w' => Below W.heap.size W w' ∧ e = .returned (.tuple #[.agg #[.string nG, .string tG], .bool bG]))
    (hX1 : ∀ W, Below w.heap.size w W → Calls Try.prog 18 #[.agg #[.bool ssa, u1, u2, u3, u4], .string a] W fun e w' => Below W.heap.size W w' ∧ e = .returned (.tuple #[.agg #[.string nX, .int .i64 kX], .bool bX]))
    (hX2 : ∀ W, Below w.heap.size w W → Calls Try.prog 19 #[.agg #[.bool ssa, u1, u2, u3, u4], .string a] W fun e w' => Below W.heap.size W w' ∧ e = .returned (.tuple #[.agg #[.string nX, .int .i64 kX], .bool bX]))
    (hT1 : ∀ W, Below w.heap.size w W → Calls Try.prog 20 #[.agg #[.string fn, .string fr, g1, g2, g3], .agg #[.int .i64 k, .string s, .int .i64 n]] W fun e w' => Below W.heap.size W w' ∧ e = .returned (.tuple #[.string tT, .bool bT]))
    (hT2 : ∀ W, Below w.heap.size w W → Calls Try.prog 21 #[.agg #[.string fn, .string fr, g1, g2, g3], .agg #[.int .i64 k, .string s, .int .i64 n]] W fun e w' => Below W.heap.size W w' ∧ e = .returned (.tuple #[.string tT, .bool bT]))
    (hS : ∀ W, Below w.heap.size w W → ∀ v v', Q v → Q v' → Calls Try.prog 22 #[v, v'] W fun e w' => e = .returned (.bool true) ∧ Below W.heap.size W w')
    (hI1 : ∀ W, Calls Try.prog 23 #[.string a, .string b] W fun e w' => e = .returned (.bool bf) ∧ W = w')
    (hI2 : ∀ W, Calls Try.prog 24 #[.string a, .string b] W fun e w' => e = .returned (.bool bf) ∧ W = w') :
    Calls Try.prog 3 #[.agg #[.bool ssa, u1, u2, u3, u4], .agg #[.string fn, .string fr, g1, g2, g3], .string a, .string b, .agg #[.int .i64 k, .string s, .int .i64 n]] w fun e w' => e = .returned (.bool true) ∧ Below w.heap.size w w' := by
  have hb1 := (Below.refl w.heap.size w).alloc (Nat.le_refl _) (.cells #[.bool ssa, u1, u2, u3, u4] 27)
  have hb2 := hb1.alloc hb1.size (.cells #[.string fn, .string fr, g1, g2, g3] 30)
  have hb := hb2.alloc hb2.size (.cells #[.int .i64 k, .string s, .int .i64 n] 32)
  have hP := ((Box.alloc w [.bool ssa, u1, u2, u3, u4] 27).al (.cells #[.string fn, .string fr, g1, g2, g3] 30)).al (.cells #[.int .i64 k, .string s, .int .i64 n] 32)
  have hF := (Box.alloc (w.alloc (.cells #[.bool ssa, u1, u2, u3, u4] 27)) [.string fn, .string fr, g1, g2, g3] 30).al (.cells #[.int .i64 k, .string s, .int .i64 n] 32)
  have hA := Box.alloc ((w.alloc (.cells #[.bool ssa, u1, u2, u3, u4] 27)).alloc (.cells #[.string fn, .string fr, g1, g2, g3] 30)) [.int .i64 k, .string s, .int .i64 n] 32
  have z1 : (w.alloc (.cells #[.bool ssa, u1, u2, u3, u4] 27)).heap.size = w.heap.size + 1 := by simp
  have z2 : ((w.alloc (.cells #[.bool ssa, u1, u2, u3, u4] 27)).alloc (.cells #[.string fn, .string fr, g1, g2, g3] 30)).heap.size = w.heap.size + 1 + 1 := by simp
  rw [z1] at hF
  rw [z2] at hA
  clear hb1 hb2 z1 z2
  go_enter Try.func3, Try.ntmps3
  go_wp2_with fail
  refine (hAw _).mono ?_
  rintro e w1 ⟨rfl, hd⟩
  replace hb := bthen' hb hd
  replace hP := (hP).nx hd
  replace hF := (hF).nx hd
  replace hA := (hA).nx hd
  have hP_0 := hP.c 0 _ rfl
  have hP_1 := hP.c 1 _ rfl
  have hP_2 := hP.c 2 _ rfl
  have hP_3 := hP.c 3 _ rfl
  have hP_4 := hP.c 4 _ rfl
  have hF_0 := hF.c 0 _ rfl
  have hF_1 := hF.c 1 _ rfl
  have hF_2 := hF.c 2 _ rfl
  have hF_3 := hF.c 3 _ rfl
  have hF_4 := hF.c 4 _ rfl
  clear hd
  go_wp2_with fail
  refine (hFew _ hb).mono ?_
  rintro e w2 ⟨hd, c, rfl⟩
  replace hb := bthen' hb hd
  replace hP := (hP).nx hd
  replace hF := (hF).nx hd
  replace hA := (hA).nx hd
  clear hd hFew hP_0 hP_1 hP_2 hP_3 hP_4 hF_0 hF_1 hF_2 hF_3 hF_4
  cases c
  · clear hP hF hA hC1 hC2 hV1 hV2 hF1 hF2 hG1 hG2 hX1 hX2 hT1 hT2 hS hI1 hI2
    go_wp2_with fail
    refine (hAw _).mono ?_
    rintro e w3 ⟨rfl, hd⟩
    replace hb := bthen' hb hd
    clear hd
    go_wp2_with fail
    go_ret
    exact ⟨rfl, hb⟩
  clear hAw
  have hP_0 := hP.c 0 _ rfl
  have hP_1 := hP.c 1 _ rfl
  have hP_2 := hP.c 2 _ rfl
  have hP_3 := hP.c 3 _ rfl
  have hP_4 := hP.c 4 _ rfl
  go_wp2_with fail
  refine (hC1 _ hb).mono ?_
  rintro e w3 ⟨hd, q0, c0, rfl⟩
  replace hb := bthen' hb hd
  replace hP := (hP).nx hd
  replace hF := (hF).nx hd
  replace hA := (hA).nx hd
  clear hd hC1 hP_0 hP_1 hP_2 hP_3 hP_4
  have hP_0 := fun o => (hP.al o).c 0 _ rfl
  have hP_1 := fun o => (hP.al o).c 1 _ rfl
  have hP_2 := fun o => (hP.al o).c 2 _ rfl
  have hP_3 := fun o => (hP.al o).c 3 _ rfl
  have hP_4 := fun o => (hP.al o).c 4 _ rfl
  go_wp2_with fail
  have hR0 := Box.alloc w3 [.string nC, .slice q0 lC c0] 36
  replace hP := hP.al (.cells #[.string nC, .slice q0 lC c0] 36)
  replace hF := hF.al (.cells #[.string nC, .slice q0 lC c0] 36)
  replace hA := hA.al (.cells #[.string nC, .slice q0 lC c0] 36)
  replace hb := hb.alloc hb.size (.cells #[.string nC, .slice q0 lC c0] 36)
  refine (hC2 _ hb).mono ?_
  rintro e w4 ⟨hd, q1, c1, rfl⟩
  replace hb := bthen' hb hd
  replace hP := (hP).nx hd
  replace hF := (hF).nx hd
  replace hA := (hA).nx hd
  replace hR0 := (hR0).nx hd
  clear hd hC2 hP_0 hP_1 hP_2 hP_3 hP_4
  have hP_0 := fun o => (hP.al o).c 0 _ rfl
  have hP_1 := fun o => (hP.al o).c 1 _ rfl
  have hP_2 := fun o => (hP.al o).c 2 _ rfl
  have hP_3 := fun o => (hP.al o).c 3 _ rfl
  have hP_4 := fun o => (hP.al o).c 4 _ rfl
  go_wp2_with fail
  have hR1 := Box.alloc w4 [.string nC, .slice q1 lC c1] 36
  replace hP := hP.al (.cells #[.string nC, .slice q1 lC c1] 36)
  replace hF := hF.al (.cells #[.string nC, .slice q1 lC c1] 36)
  replace hA := hA.al (.cells #[.string nC, .slice q1 lC c1] 36)
  replace hR0 := hR0.al (.cells #[.string nC, .slice q1 lC c1] 36)
  replace hb := hb.alloc hb.size (.cells #[.string nC, .slice q1 lC c1] 36)
  refine (hV1 _ hb).mono ?_
  rintro e w5 ⟨hd, rfl⟩
  replace hb := bthen' hb hd
  replace hP := (hP).nx hd
  replace hF := (hF).nx hd
  replace hA := (hA).nx hd
  replace hR0 := (hR0).nx hd
  replace hR1 := (hR1).nx hd
  clear hd hV1 hP_0 hP_1 hP_2 hP_3 hP_4
  have hP_0 := fun o => (hP.al o).c 0 _ rfl
  have hP_1 := fun o => (hP.al o).c 1 _ rfl
  have hP_2 := fun o => (hP.al o).c 2 _ rfl
  have hP_3 := fun o => (hP.al o).c 3 _ rfl
  have hP_4 := fun o => (hP.al o).c 4 _ rfl
  go_wp2_with fail
  have hR2 := Box.alloc w5 [.string nV, .string tV] 40
  replace hP := hP.al (.cells #[.string nV, .string tV] 40)
  replace hF := hF.al (.cells #[.string nV, .string tV] 40)
  replace hA := hA.al (.cells #[.string nV, .string tV] 40)
  replace hR0 := hR0.al (.cells #[.string nV, .string tV] 40)
  replace hR1 := hR1.al (.cells #[.string nV, .string tV] 40)
  replace hb := hb.alloc hb.size (.cells #[.string nV, .string tV] 40)
  refine (hV2 _ hb).mono ?_
  rintro e w6 ⟨hd, rfl⟩
  replace hb := bthen' hb hd
  replace hP := (hP).nx hd
  replace hF := (hF).nx hd
  replace hA := (hA).nx hd
  replace hR0 := (hR0).nx hd
  replace hR1 := (hR1).nx hd
  replace hR2 := (hR2).nx hd
  clear hd hV2 hP_0 hP_1 hP_2 hP_3 hP_4
  have hP_0 := fun o => (hP.al o).c 0 _ rfl
  have hP_1 := fun o => (hP.al o).c 1 _ rfl
  have hP_2 := fun o => (hP.al o).c 2 _ rfl
  have hP_3 := fun o => (hP.al o).c 3 _ rfl
  have hP_4 := fun o => (hP.al o).c 4 _ rfl
  go_wp2_with fail
  have hR3 := Box.alloc w6 [.string nV, .string tV] 40
  replace hP := hP.al (.cells #[.string nV, .string tV] 40)
  replace hF := hF.al (.cells #[.string nV, .string tV] 40)
  replace hA := hA.al (.cells #[.string nV, .string tV] 40)
  replace hR0 := hR0.al (.cells #[.string nV, .string tV] 40)
  replace hR1 := hR1.al (.cells #[.string nV, .string tV] 40)
  replace hR2 := hR2.al (.cells #[.string nV, .string tV] 40)
  replace hb := hb.alloc hb.size (.cells #[.string nV, .string tV] 40)
  refine (hF1 _ hb).mono ?_
  rintro e w7 ⟨hd, q4, c4, qq4, cc4, qqq4, ccc4, rfl, hQ4⟩
  replace hb := bthen' hb hd
  replace hP := (hP).nx hd
  replace hF := (hF).nx hd
  replace hA := (hA).nx hd
  replace hR0 := (hR0).nx hd
  replace hR1 := (hR1).nx hd
  replace hR2 := (hR2).nx hd
  replace hR3 := (hR3).nx hd
  clear hd hF1 hP_0 hP_1 hP_2 hP_3 hP_4
  have hP_0 := fun o => (hP.al o).c 0 _ rfl
  have hP_1 := fun o => (hP.al o).c 1 _ rfl
  have hP_2 := fun o => (hP.al o).c 2 _ rfl
  have hP_3 := fun o => (hP.al o).c 3 _ rfl
  have hP_4 := fun o => (hP.al o).c 4 _ rfl
  go_wp2_with fail
  have hR4 := Box.alloc w7 [.string nF, .string rF, .slice q4 l1 c4, .slice qq4 l2 cc4, .slice qqq4 l3 ccc4] 30
  replace hP := hP.al (.cells #[.string nF, .string rF, .slice q4 l1 c4, .slice qq4 l2 cc4, .slice qqq4 l3 ccc4] 30)
  replace hF := hF.al (.cells #[.string nF, .string rF, .slice q4 l1 c4, .slice qq4 l2 cc4, .slice qqq4 l3 ccc4] 30)
  replace hA := hA.al (.cells #[.string nF, .string rF, .slice q4 l1 c4, .slice qq4 l2 cc4, .slice qqq4 l3 ccc4] 30)
  replace hR0 := hR0.al (.cells #[.string nF, .string rF, .slice q4 l1 c4, .slice qq4 l2 cc4, .slice qqq4 l3 ccc4] 30)
  replace hR1 := hR1.al (.cells #[.string nF, .string rF, .slice q4 l1 c4, .slice qq4 l2 cc4, .slice qqq4 l3 ccc4] 30)
  replace hR2 := hR2.al (.cells #[.string nF, .string rF, .slice q4 l1 c4, .slice qq4 l2 cc4, .slice qqq4 l3 ccc4] 30)
  replace hR3 := hR3.al (.cells #[.string nF, .string rF, .slice q4 l1 c4, .slice qq4 l2 cc4, .slice qqq4 l3 ccc4] 30)
  replace hb := hb.alloc hb.size (.cells #[.string nF, .string rF, .slice q4 l1 c4, .slice qq4 l2 cc4, .slice qqq4 l3 ccc4] 30)
  refine (hF2 _ hb).mono ?_
  rintro e w8 ⟨hd, q5, c5, qq5, cc5, qqq5, ccc5, rfl, hQ5⟩
  replace hb := bthen' hb hd
  replace hP := (hP).nx hd
  replace hF := (hF).nx hd
  replace hA := (hA).nx hd
  replace hR0 := (hR0).nx hd
  replace hR1 := (hR1).nx hd
  replace hR2 := (hR2).nx hd
  replace hR3 := (hR3).nx hd
  replace hR4 := (hR4).nx hd
  clear hd hF2 hP_0 hP_1 hP_2 hP_3 hP_4
  have hP_0 := fun o => (hP.al o).c 0 _ rfl
  have hP_1 := fun o => (hP.al o).c 1 _ rfl
  have hP_2 := fun o => (hP.al o).c 2 _ rfl
  have hP_3 := fun o => (hP.al o).c 3 _ rfl
  have hP_4 := fun o => (hP.al o).c 4 _ rfl
  go_wp2_with fail
  have hR5 := Box.alloc w8 [.string nF, .string rF, .slice q5 l1 c5, .slice qq5 l2 cc5, .slice qqq5 l3 ccc5] 30
  replace hP := hP.al (.cells #[.string nF, .string rF, .slice q5 l1 c5, .slice qq5 l2 cc5, .slice qqq5 l3 ccc5] 30)
  replace hF := hF.al (.cells #[.string nF, .string rF, .slice q5 l1 c5, .slice qq5 l2 cc5, .slice qqq5 l3 ccc5] 30)
  replace hA := hA.al (.cells #[.string nF, .string rF, .slice q5 l1 c5, .slice qq5 l2 cc5, .slice qqq5 l3 ccc5] 30)
  replace hR0 := hR0.al (.cells #[.string nF, .string rF, .slice q5 l1 c5, .slice qq5 l2 cc5, .slice qqq5 l3 ccc5] 30)
  replace hR1 := hR1.al (.cells #[.string nF, .string rF, .slice q5 l1 c5, .slice qq5 l2 cc5, .slice qqq5 l3 ccc5] 30)
  replace hR2 := hR2.al (.cells #[.string nF, .string rF, .slice q5 l1 c5, .slice qq5 l2 cc5, .slice qqq5 l3 ccc5] 30)
  replace hR3 := hR3.al (.cells #[.string nF, .string rF, .slice q5 l1 c5, .slice qq5 l2 cc5, .slice qqq5 l3 ccc5] 30)
  replace hR4 := hR4.al (.cells #[.string nF, .string rF, .slice q5 l1 c5, .slice qq5 l2 cc5, .slice qqq5 l3 ccc5] 30)
  replace hb := hb.alloc hb.size (.cells #[.string nF, .string rF, .slice q5 l1 c5, .slice qq5 l2 cc5, .slice qqq5 l3 ccc5] 30)
  refine (hG1 _ hb).mono ?_
  rintro e w9 ⟨hd, rfl⟩
  replace hb := bthen' hb hd
  replace hP := (hP).nx hd
  replace hF := (hF).nx hd
  replace hA := (hA).nx hd
  replace hR0 := (hR0).nx hd
  replace hR1 := (hR1).nx hd
  replace hR2 := (hR2).nx hd
  replace hR3 := (hR3).nx hd
  replace hR4 := (hR4).nx hd
  replace hR5 := (hR5).nx hd
  clear hd hG1 hP_0 hP_1 hP_2 hP_3 hP_4
  have hP_0 := fun o => (hP.al o).c 0 _ rfl
  have hP_1 := fun o => (hP.al o).c 1 _ rfl
  have hP_2 := fun o => (hP.al o).c 2 _ rfl
  have hP_3 := fun o => (hP.al o).c 3 _ rfl
  have hP_4 := fun o => (hP.al o).c 4 _ rfl
  go_wp2_with fail
  have hR6 := Box.alloc w9 [.string nG, .string tG] 40
  replace hP := hP.al (.cells #[.string nG, .string tG] 40)
  replace hF := hF.al (.cells #[.string nG, .string tG] 40)
  replace hA := hA.al (.cells #[.string nG, .string tG] 40)
  replace hR0 := hR0.al (.cells #[.string nG, .string tG] 40)
  replace hR1 := hR1.al (.cells #[.string nG, .string tG] 40)
  replace hR2 := hR2.al (.cells #[.string nG, .string tG] 40)
  replace hR3 := hR3.al (.cells #[.string nG, .string tG] 40)
  replace hR4 := hR4.al (.cells #[.string nG, .string tG] 40)
  replace hR5 := hR5.al (.cells #[.string nG, .string tG] 40)
  replace hb := hb.alloc hb.size (.cells #[.string nG, .string tG] 40)
  refine (hG2 _ hb).mono ?_
  rintro e w10 ⟨hd, rfl⟩
  replace hb := bthen' hb hd
  replace hP := (hP).nx hd
  replace hF := (hF).nx hd
  replace hA := (hA).nx hd
  replace hR0 := (hR0).nx hd
  replace hR1 := (hR1).nx hd
  replace hR2 := (hR2).nx hd
  replace hR3 := (hR3).nx hd
  replace hR4 := (hR4).nx hd
  replace hR5 := (hR5).nx hd
  replace hR6 := (hR6).nx hd
  clear hd hG2 hP_0 hP_1 hP_2 hP_3 hP_4
  have hP_0 := fun o => (hP.al o).c 0 _ rfl
  have hP_1 := fun o => (hP.al o).c 1 _ rfl
  have hP_2 := fun o => (hP.al o).c 2 _ rfl
  have hP_3 := fun o => (hP.al o).c 3 _ rfl
  have hP_4 := fun o => (hP.al o).c 4 _ rfl
  go_wp2_with fail
  have hR7 := Box.alloc w10 [.string nG, .string tG] 40
  replace hP := hP.al (.cells #[.string nG, .string tG] 40)
  replace hF := hF.al (.cells #[.string nG, .string tG] 40)
  replace hA := hA.al (.cells #[.string nG, .string tG] 40)
  replace hR0 := hR0.al (.cells #[.string nG, .string tG] 40)
  replace hR1 := hR1.al (.cells #[.string nG, .string tG] 40)
  replace hR2 := hR2.al (.cells #[.string nG, .string tG] 40)
  replace hR3 := hR3.al (.cells #[.string nG, .string tG] 40)
  replace hR4 := hR4.al (.cells #[.string nG, .string tG] 40)
  replace hR5 := hR5.al (.cells #[.string nG, .string tG] 40)
  replace hR6 := hR6.al (.cells #[.string nG, .string tG] 40)
  replace hb := hb.alloc hb.size (.cells #[.string nG, .string tG] 40)
  refine (hX1 _ hb).mono ?_
  rintro e w11 ⟨hd, rfl⟩
  replace hb := bthen' hb hd
  replace hP := (hP).nx hd
  replace hF := (hF).nx hd
  replace hA := (hA).nx hd
  replace hR0 := (hR0).nx hd
  replace hR1 := (hR1).nx hd
  replace hR2 := (hR2).nx hd
  replace hR3 := (hR3).nx hd
  replace hR4 := (hR4).nx hd
  replace hR5 := (hR5).nx hd
  replace hR6 := (hR6).nx hd
  replace hR7 := (hR7).nx hd
  clear hd hX1 hP_0 hP_1 hP_2 hP_3 hP_4
  have hP_0 := fun o => (hP.al o).c 0 _ rfl
  have hP_1 := fun o => (hP.al o).c 1 _ rfl
  have hP_2 := fun o => (hP.al o).c 2 _ rfl
  have hP_3 := fun o => (hP.al o).c 3 _ rfl
  have hP_4 := fun o => (hP.al o).c 4 _ rfl
  go_wp2_with fail
  have hR8 := Box.alloc w11 [.string nX, .int .i64 kX] 47
  replace hP := hP.al (.cells #[.string nX, .int .i64 kX] 47)
  replace hF := hF.al (.cells #[.string nX, .int .i64 kX] 47)
  replace hA := hA.al (.cells #[.string nX, .int .i64 kX] 47)
  replace hR0 := hR0.al (.cells #[.string nX, .int .i64 kX] 47)
  replace hR1 := hR1.al (.cells #[.string nX, .int .i64 kX] 47)
  replace hR2 := hR2.al (.cells #[.string nX, .int .i64 kX] 47)
  replace hR3 := hR3.al (.cells #[.string nX, .int .i64 kX] 47)
  replace hR4 := hR4.al (.cells #[.string nX, .int .i64 kX] 47)
  replace hR5 := hR5.al (.cells #[.string nX, .int .i64 kX] 47)
  replace hR6 := hR6.al (.cells #[.string nX, .int .i64 kX] 47)
  replace hR7 := hR7.al (.cells #[.string nX, .int .i64 kX] 47)
  replace hb := hb.alloc hb.size (.cells #[.string nX, .int .i64 kX] 47)
  refine (hX2 _ hb).mono ?_
  rintro e w12 ⟨hd, rfl⟩
  replace hb := bthen' hb hd
  replace hP := (hP).nx hd
  replace hF := (hF).nx hd
  replace hA := (hA).nx hd
  replace hR0 := (hR0).nx hd
  replace hR1 := (hR1).nx hd
  replace hR2 := (hR2).nx hd
  replace hR3 := (hR3).nx hd
  replace hR4 := (hR4).nx hd
  replace hR5 := (hR5).nx hd
  replace hR6 := (hR6).nx hd
  replace hR7 := (hR7).nx hd
  replace hR8 := (hR8).nx hd
  clear hd hX2 hP_0 hP_1 hP_2 hP_3 hP_4
  have hF_0 := fun o => (hF.al o).c 0 _ rfl
  have hF_1 := fun o => (hF.al o).c 1 _ rfl
  have hF_2 := fun o => (hF.al o).c 2 _ rfl
  have hF_3 := fun o => (hF.al o).c 3 _ rfl
  have hF_4 := fun o => (hF.al o).c 4 _ rfl
  have hA_0 := fun o => (hA.al o).c 0 _ rfl
  have hA_1 := fun o => (hA.al o).c 1 _ rfl
  have hA_2 := fun o => (hA.al o).c 2 _ rfl
  go_wp2_with fail
  have hR9 := Box.alloc w12 [.string nX, .int .i64 kX] 47
  replace hP := hP.al (.cells #[.string nX, .int .i64 kX] 47)
  replace hF := hF.al (.cells #[.string nX, .int .i64 kX] 47)
  replace hA := hA.al (.cells #[.string nX, .int .i64 kX] 47)
  replace hR0 := hR0.al (.cells #[.string nX, .int .i64 kX] 47)
  replace hR1 := hR1.al (.cells #[.string nX, .int .i64 kX] 47)
  replace hR2 := hR2.al (.cells #[.string nX, .int .i64 kX] 47)
  replace hR3 := hR3.al (.cells #[.string nX, .int .i64 kX] 47)
  replace hR4 := hR4.al (.cells #[.string nX, .int .i64 kX] 47)
  replace hR5 := hR5.al (.cells #[.string nX, .int .i64 kX] 47)
  replace hR6 := hR6.al (.cells #[.string nX, .int .i64 kX] 47)
  replace hR7 := hR7.al (.cells #[.string nX, .int .i64 kX] 47)
  replace hR8 := hR8.al (.cells #[.string nX, .int .i64 kX] 47)
  replace hb := hb.alloc hb.size (.cells #[.string nX, .int .i64 kX] 47)
  refine (hT1 _ hb).mono ?_
  rintro e w13 ⟨hd, rfl⟩
  replace hb := bthen' hb hd
  replace hP := (hP).nx hd
  replace hF := (hF).nx hd
  replace hA := (hA).nx hd
  replace hR0 := (hR0).nx hd
  replace hR1 := (hR1).nx hd
  replace hR2 := (hR2).nx hd
  replace hR3 := (hR3).nx hd
  replace hR4 := (hR4).nx hd
  replace hR5 := (hR5).nx hd
  replace hR6 := (hR6).nx hd
  replace hR7 := (hR7).nx hd
  replace hR8 := (hR8).nx hd
  replace hR9 := (hR9).nx hd
  clear hd hT1 hF_0 hF_1 hF_2 hF_3 hF_4 hA_0 hA_1 hA_2
  have hF_0 := hF.c 0 _ rfl
  have hF_1 := hF.c 1 _ rfl
  have hF_2 := hF.c 2 _ rfl
  have hF_3 := hF.c 3 _ rfl
  have hF_4 := hF.c 4 _ rfl
  have hA_0 := hA.c 0 _ rfl
  have hA_1 := hA.c 1 _ rfl
  have hA_2 := hA.c 2 _ rfl
  go_wp2_with fail
  refine (hT2 _ hb).mono ?_
  rintro e w14 ⟨hd, rfl⟩
  replace hb := bthen' hb hd
  replace hP := (hP).nx hd
  replace hF := (hF).nx hd
  replace hA := (hA).nx hd
  replace hR0 := (hR0).nx hd
  replace hR1 := (hR1).nx hd
  replace hR2 := (hR2).nx hd
  replace hR3 := (hR3).nx hd
  replace hR4 := (hR4).nx hd
  replace hR5 := (hR5).nx hd
  replace hR6 := (hR6).nx hd
  replace hR7 := (hR7).nx hd
  replace hR8 := (hR8).nx hd
  replace hR9 := (hR9).nx hd
  clear hd hT2 hF_0 hF_1 hF_2 hF_3 hF_4 hA_0 hA_1 hA_2
  clear hP hF hA
  have hR0_0 := hR0.c 0 _ rfl
  have hR0_1 := hR0.c 1 _ rfl
  have hR1_0 := hR1.c 0 _ rfl
  have hR1_1 := hR1.c 1 _ rfl
  have hR2_0 := hR2.c 0 _ rfl
  have hR2_1 := hR2.c 1 _ rfl
  have hR3_0 := hR3.c 0 _ rfl
  have hR3_1 := hR3.c 1 _ rfl
  have hR4_0 := hR4.c 0 _ rfl
  have hR4_1 := hR4.c 1 _ rfl
  have hR4_2 := hR4.c 2 _ rfl
  have hR4_3 := hR4.c 3 _ rfl
  have hR4_4 := hR4.c 4 _ rfl
  have hR5_0 := hR5.c 0 _ rfl
  have hR5_1 := hR5.c 1 _ rfl
  have hR5_2 := hR5.c 2 _ rfl
  have hR5_3 := hR5.c 3 _ rfl
  have hR5_4 := hR5.c 4 _ rfl
  have hR6_0 := hR6.c 0 _ rfl
  have hR6_1 := hR6.c 1 _ rfl
  have hR7_0 := hR7.c 0 _ rfl
  have hR7_1 := hR7.c 1 _ rfl
  have hR8_0 := hR8.c 0 _ rfl
  have hR8_1 := hR8.c 1 _ rfl
  have hR9_0 := hR9.c 0 _ rfl
  have hR9_1 := hR9.c 1 _ rfl
  have hE1 := eq_v nV tV
  have hE2 := eq_v nG tG
  have hE3 := eq_x nX kX
  have e1 := beq_s nC
  have e2 := beq_s tT
  have hS1 := hS _ hb _ _ hQ4 hQ5
  go_wp2_with fail
  refine hS1.mono ?_
  rintro e w90 ⟨rfl, hd⟩
  replace hb := bthen' hb hd
  replace hR0 := (hR0).nx hd
  replace hR1 := (hR1).nx hd
  replace hR2 := (hR2).nx hd
  replace hR3 := (hR3).nx hd
  replace hR4 := (hR4).nx hd
  replace hR5 := (hR5).nx hd
  replace hR6 := (hR6).nx hd
  replace hR7 := (hR7).nx hd
  replace hR8 := (hR8).nx hd
  replace hR9 := (hR9).nx hd
  clear hd hS1 hS hR0_0 hR0_1 hR1_0 hR1_1 hR2_0 hR2_1 hR3_0 hR3_1 hR4_0 hR4_1 hR4_2 hR4_3 hR4_4 hR5_0 hR5_1 hR5_2 hR5_3 hR5_4 hR6_0 hR6_1 hR7_0 hR7_1 hR8_0 hR8_1 hR9_0 hR9_1
  have hR0_0 := hR0.c 0 _ rfl
  have hR0_1 := hR0.c 1 _ rfl
  have hR1_0 := hR1.c 0 _ rfl
  have hR1_1 := hR1.c 1 _ rfl
  have hR2_0 := hR2.c 0 _ rfl
  have hR2_1 := hR2.c 1 _ rfl
  have hR3_0 := hR3.c 0 _ rfl
  have hR3_1 := hR3.c 1 _ rfl
  have hR4_0 := hR4.c 0 _ rfl
  have hR4_1 := hR4.c 1 _ rfl
  have hR4_2 := hR4.c 2 _ rfl
  have hR4_3 := hR4.c 3 _ rfl
  have hR4_4 := hR4.c 4 _ rfl
  have hR5_0 := hR5.c 0 _ rfl
  have hR5_1 := hR5.c 1 _ rfl
  have hR5_2 := hR5.c 2 _ rfl
  have hR5_3 := hR5.c 3 _ rfl
  have hR5_4 := hR5.c 4 _ rfl
  have hR6_0 := hR6.c 0 _ rfl
  have hR6_1 := hR6.c 1 _ rfl
  have hR7_0 := hR7.c 0 _ rfl
  have hR7_1 := hR7.c 1 _ rfl
  have hR8_0 := hR8.c 0 _ rfl
  have hR8_1 := hR8.c 1 _ rfl
  have hR9_0 := hR9.c 0 _ rfl
  have hR9_1 := hR9.c 1 _ rfl
  go_wp2_with fail
  refine (hI1 _).mono ?_
  rintro e w91 ⟨rfl, rfl⟩
  go_wp2_with fail
  refine (hI2 _).mono ?_
  rintro e w92 ⟨rfl, rfl⟩
  go_wp2_with fail
  go_ret
  exact ⟨rfl, hb⟩
end Go.Proofs.Ytjohjpjpfglkkaa
