/- The law of instructions: the walk, over what the calls answer; the words that the row lists. -/
import Derived.Test.YtjohjpjpfglkkaaDoorFew
import Derived.Test.YtjohjpjpfglkkaaDoorViw
import Derived.Test.YtjohjpjpfglkkaaDoorRia
import Derived.Test.YtjohjpjpfglkkaaDoorCard
import Derived.LaidMore
import Derived.Stop.Joined
namespace Go.Proofs.YtjohjpjpfglkkaaDoor
open Go Go.RowKit

set_option maxHeartbeats 16000000 in
set_option maxRecDepth 100000 in
theorem instrs_walk (w : World) (ssa : Bool) (u1 u2 u3 u4 : Value) (fn fr : ByteArray) (g1 g2 g3 : Value) (op : Int) (xd xn : ByteArray) (pa : Option Addr) (la ka : Nat) (y2 y3 : Value) (bI : Bool)
    (hAw : ∀ W, Calls Tryd.prog 4 #[] W fun e w' => e = .returned (.bool true) ∧ Below W.heap.size W w')
    (hFew : ∀ W, Below w.heap.size w W → Calls Tryd.prog 5 #[.agg #[.bool ssa, u1, u2, u3, u4], .agg #[.string fn, .string fr, g1, g2, g3]] W fun e w' => Below W.heap.size W w' ∧ ∃ c : Bool, e = .returned (.bool c))
    (hI1 : ∀ W, Below w.heap.size w W → Calls Tryd.prog 6 #[.agg #[.bool ssa, u1, u2, u3, u4], .agg #[.string fn, .string fr, g1, g2, g3], .agg #[.int .i64 op, .string xd, .string xn, .slice pa la ka, y2, y3]] W fun e w' => e = .returned (.bool bI) ∧ Below W.heap.size W w')
    (hI2 : ∀ W, Below w.heap.size w W → Calls Tryd.prog 7 #[.agg #[.bool ssa, u1, u2, u3, u4], .agg #[.string fn, .string fr, g1, g2, g3], .agg #[.int .i64 op, .string xd, .string xn, .slice pa la ka, y2, y3]] W fun e w' => e = .returned (.bool bI) ∧ Below W.heap.size W w') :
    Calls Tryd.prog 3 #[.agg #[.bool ssa, u1, u2, u3, u4], .agg #[.string fn, .string fr, g1, g2, g3], .agg #[.int .i64 op, .string xd, .string xn, .slice pa la ka, y2, y3]] w fun e w' => e = .returned (.bool true) ∧ Below w.heap.size w w' := by
  obtain ⟨hP, hF, hX, hb⟩ := boxes3 (w := w) (c1 := [.bool ssa, u1, u2, u3, u4]) (c2 := [.string fn, .string fr, g1, g2, g3]) (c3 := [.int .i64 op, .string xd, .string xn, .slice pa la ka, y2, y3]) (t1 := 27) (t2 := 30) (t3 := 35) (Below.refl _ _)
  go_enter Tryd.func3, Tryd.ntmps3
  go_wp2_with fail
  refine (hAw _).mono ?_
  rintro e w1 ⟨rfl, hd⟩
  replace hP := hP.nx hd
  replace hF := hF.nx hd
  replace hX := hX.nx hd
  replace hb := bthen' hb hd
  have x0 := hP.c 0 _ rfl
  have x1 := hP.c 1 _ rfl
  have x2 := hP.c 2 _ rfl
  have x3 := hP.c 3 _ rfl
  have x4 := hP.c 4 _ rfl
  have y0 := hF.c 0 _ rfl
  have y1 := hF.c 1 _ rfl
  have y2' := hF.c 2 _ rfl
  have y3' := hF.c 3 _ rfl
  have y4 := hF.c 4 _ rfl
  clear hd
  go_wp2_with fail
  refine (hFew _ hb).mono ?_
  rintro e w2 ⟨hd, c, rfl⟩
  replace hP := hP.nx hd
  replace hF := hF.nx hd
  replace hX := hX.nx hd
  replace hb := bthen' hb hd
  clear hd x0 x1 x2 x3 x4 y0 y1 y2' y3' y4 hFew
  have z3 := hX.c 3 _ rfl
  cases c
  · clear hP hF hX hI1 hI2
    go_wp2_with fail
    refine (hAw _).mono ?_
    rintro e w3 ⟨rfl, hd⟩
    replace hb := bthen' hb hd
    clear hd
    go_wp2_with fail
    go_ret
    exact ⟨rfl, hb⟩
  · by_cases h100 : 100 < la
    · have h100I : (100 : Int) < (la : Int) := by omega
      clear hP hF hX hI1 hI2
      go_wp2_with fail
      refine (hAw _).mono ?_
      rintro e w3 ⟨rfl, hd⟩
      replace hb := bthen' hb hd
      clear hd
      go_wp2_with fail
      go_ret
      exact ⟨rfl, hb⟩
    have h100I : ¬ (100 : Int) < (la : Int) := by omega
    have hdr := (Below.refl w2.heap.size w2).drew
    replace hI1 := fun W (hW : Below w2.heap.size w2 W) => hI1 W (bthen' hb hW)
    replace hI2 := fun W (hW : Below w2.heap.size w2 W) => hI2 W (bthen' hb hW)
    go_wp2_with fail
    refine wp_region_ser (S := fun _ v => Below w2.heap.size w2 v) rfl (by kernel_rfl) hdr ?_
    iterate 10 (first | ((refine Ser.step (a1 := ?_) rfl (fun L w1 K' Q' hS hi hR hd hK => ?_) ?_ ?_; rotate_left); (· ((skip); go_simp; (try simp only [Act.put, List.setIfInBounds_toArray, List.set_cons_zero, List.set_cons_succ]); exact hK.out _ (hS))); (· rfl)) | ((refine Ser.step (a1 := ?_) rfl (fun L w1 K' Q' hS hi hR hd hK => ?_) ?_ ?_; rotate_left); (· ((have hB := hP.nx hS; have q0 := hB.c 0 _ rfl; have q1 := hB.c 1 _ rfl; have q2 := hB.c 2 _ rfl; have q3 := hB.c 3 _ rfl; have q4 := hB.c 4 _ rfl); go_simp; (try simp only [Act.put, List.setIfInBounds_toArray, List.set_cons_zero, List.set_cons_succ]); exact hK.out _ (hS))); (· rfl)) | ((refine Ser.step (a1 := ?_) rfl (fun L w1 K' Q' hS hi hR hd hK => ?_) ?_ ?_; rotate_left); (· ((have hB := hF.nx hS; have q0 := hB.c 0 _ rfl; have q1 := hB.c 1 _ rfl; have q2 := hB.c 2 _ rfl; have q3 := hB.c 3 _ rfl; have q4 := hB.c 4 _ rfl); go_simp; (try simp only [Act.put, List.setIfInBounds_toArray, List.set_cons_zero, List.set_cons_succ]); exact hK.out _ (hS))); (· rfl)) | ((refine Ser.step (a1 := ?_) rfl (fun L w1 K' Q' hS hi hR hd hK => ?_) ?_ ?_; rotate_left); (· ((have hB := hX.nx hS; have q0 := hB.c 0 _ rfl; have q1 := hB.c 1 _ rfl; have q2 := hB.c 2 _ rfl; have q3 := hB.c 3 _ rfl; have q4 := hB.c 4 _ rfl; have q5 := hB.c 5 _ rfl); go_simp; (try simp only [Act.put, List.setIfInBounds_toArray, List.set_cons_zero, List.set_cons_succ]); exact hK.out _ (hS))); (· rfl)) | ((refine Ser.step (a1 := ?_) rfl (fun L w1 K' Q' hS hi hR hd hK => ?_) ?_ ?_; rotate_left); (· (go_simp; go_wp2_with ((first | (go_at_call 6; refine (hI1 _ hS).mono ?_; rintro e w2 ⟨rfl, hb⟩) | (go_at_call 7; refine (hI2 _ hS).mono ?_; rintro e w2 ⟨rfl, hb⟩))); (try simp only [Act.put, List.setIfInBounds_toArray, List.set_cons_zero, List.set_cons_succ]); exact hK.out _ (bthen' hS hb))); (· rfl)))
    refine Ser.nil fun w4 hS4 => ?_
    have hb5 := bthen' hb hS4
    clear hP hF hX hI1 hI2 hAw z3
    go_wp2_with fail
    go_ret
    exact ⟨rfl, hb5⟩
open Go.ChangeShapes Go.WideShapes Go.ChangeAt in
theorem words_laid {W : World} (h : laidMetH Tryd.prog Rows.typesInstrsRow.laid W) : Words W := by
  rw [MakeChecks.laidMetH_plain _ _ _ (by kernel_rfl)] at h
  obtain ⟨ps, ⟨g, t, cs, fuel, p, q, hg, ht, hv, hd, _, _⟩, _, _⟩ := h
  obtain rfl := Option.some.inj ((show Tryd.prog.globalNamed "lateen/lateenref05.words" = some 0 by kernel_rfl).symm.trans hg)
  obtain rfl := Option.some.inj ((show (Tryd.prog.globals[0]?).map (·.type) = some 98 by kernel_rfl).symm.trans ht)
  obtain ⟨xs, m, _, ex, _, hl, hel⟩ := DataW.trod_array Tryd.underlying98 hd
  have c5 : Tryd.prog.cellsOf 9 = 1 := by kernel_rfl
  intro r hr
  have hE := hel r hr
  rw [c5, Nat.mul_one, List.getElem?_eq_getElem (by omega)] at hE
  obtain ⟨z, e1, e2, _⟩ := DataW.trod_string Tryd.underlying9 hE
  refine ⟨z, ?_⟩
  rw [World.var?_cell hg hv r]
  have h0 : ((cs.toList.drop r).take 1)[0]? = some (.string z) := by rw [e1]; rfl
  simpa using h0
end Go.Proofs.YtjohjpjpfglkkaaDoor
