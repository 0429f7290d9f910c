/- The example of the laws, walked. -/
import Derived.Test.YtjohjpjpfglkkaaDoorExa
namespace Go.Proofs.YtjohjpjpfglkkaaDoor
open Go.RowKit

abbrev exC (a b : Nat) : List Value := [.string ⟨#[102]⟩, .string ⟨#[80]⟩, .slice (some ⟨a, 0, none⟩) 1 1, .slice (some ⟨b, 0, none⟩) 2 2, .slice none 0 0]
abbrev exZ : List Value := [.string ⟨#[]⟩, .string ⟨#[]⟩, .slice none 0 0, .slice none 0 0, .slice none 0 0]
abbrev exY : List Value := [.bool false, .slice none 0 0, .slice none 0 0, .slice none 0 0, .slice none 0 0]

theorem row1 {α : Type} {E : World → Addr → α → Prop} {sz : Nat} {w : World} {x : α} {p c : Nat} (h : E w ⟨p, 0, none⟩ x) : Row E sz w (.slice (some ⟨p, 0, none⟩) 1 c) [x] :=
  ⟨some ⟨p, 0, none⟩, c, rfl, (fun e => by cases e), by simp, fun i y hy => by
    cases i with
    | zero =>
      obtain rfl : x = y := by simpa using hy
      exact ⟨_, rfl, by rw [add_at, Nat.zero_mul]; exact h⟩
    | succ i => simp at hy⟩
theorem row2 {α : Type} {E : World → Addr → α → Prop} {sz : Nat} {w : World} {x x2 : α} {p c : Nat} (h : E w ⟨p, 0, none⟩ x) (h2 : E w ⟨p, sz, none⟩ x2) : Row E sz w (.slice (some ⟨p, 0, none⟩) 2 c) [x, x2] :=
  ⟨some ⟨p, 0, none⟩, c, rfl, (fun e => by cases e), by simp, fun i y hy => by
    match i with
    | 0 =>
      obtain rfl : x = y := by simpa using hy
      exact ⟨_, rfl, by rw [add_at, Nat.zero_mul]; exact h⟩
    | 1 =>
      obtain rfl : x2 = y := by simpa using hy
      exact ⟨_, rfl, by rw [add_at, Nat.one_mul, Nat.zero_add]; exact h2⟩
    | i + 2 => simp at hy⟩
def OutEx (w' : World) (e : Ending) : Prop := ∃ vp vf u1 u4 g1 g2, e = .returned (.tuple #[vp, vf]) ∧ ValP w' vp exP u1 (.slice none 0 0) (.slice none 0 0) u4 ∧ ValF w' vf exF g1 g2 (.slice none 0 0)
theorem ex_views {w : World} {b c d : Nat} {V1 V3 V5 : Value} (h1 : MadeR w b V1 [.string ⟨#[97]⟩, .string intS]) (h3 : MadeR w b V3 [.string ⟨#[80]⟩, V1]) (h5 : MadeR w b V5 (exC c d)) (hC : Box w c [.string ⟨#[111]⟩, .string ⟨#[80]⟩]) (hD : Box w d [.string ⟨#[120]⟩, .string intS, .string ⟨#[121]⟩, .string intS]) :
    ValP w (.agg #[.bool false, V3, .slice none 0 0, .slice none 0 0, V5]) exP V3 (.slice none 0 0) (.slice none 0 0) V5 ∧ ValF w (.agg (exC c d).toArray) exF (.slice (some ⟨c, 0, none⟩) 1 1) (.slice (some ⟨d, 0, none⟩) 2 2) (.slice none 0 0) := by
  have r1 : Row AtV 2 w (.slice (some ⟨c, 0, none⟩) 1 1) [⟨⟨#[111]⟩, ⟨#[80]⟩⟩] := row1 ⟨⟨hC.c 0 _ rfl, by decide⟩, hC.c 1 _ rfl, by decide⟩
  have r2 : Row AtV 2 w (.slice (some ⟨d, 0, none⟩) 2 2) [⟨⟨#[120]⟩, intS⟩, ⟨⟨#[121]⟩, intS⟩] := row2 ⟨⟨hD.c 0 _ rfl, by decide⟩, hD.c 1 _ rfl, by decide⟩ ⟨⟨hD.c 2 _ rfl, by decide⟩, hD.c 3 _ rfl, by decide⟩
  obtain ⟨p1, rfl, -, -, b1⟩ := h1
  obtain ⟨p3, rfl, -, -, b3⟩ := h3
  obtain ⟨p5, rfl, -, -, b5⟩ := h5
  have r3 : Row AtV 2 w (.slice (some ⟨p1, 0, none⟩) 1 1) [⟨⟨#[97]⟩, intS⟩] := row1 ⟨⟨b1.c 0 _ rfl, by decide⟩, b1.c 1 _ rfl, by decide⟩
  refine ⟨⟨rfl, row1 ⟨⟨b3.c 0 _ rfl, by decide⟩, _, b3.c 1 _ rfl, r3⟩, row_nil, row_nil, row1 ⟨⟨b5.c 0 _ rfl, by decide⟩, ⟨b5.c 1 _ rfl, by decide⟩, ⟨_, b5.c 2 _ rfl, r1⟩, ⟨_, b5.c 3 _ rfl, r2⟩, _, b5.c 4 _ rfl, row_nil⟩⟩, ⟨rfl, ⟨by decide, by decide⟩, r1, r2, row_nil⟩⟩
theorem results_cell_cell {fn : Func} {p q : Tmp} {ty ty2 : TypeId} (h : fn.results = #[.cell p ty, .cell q ty2]) (tmps : Array Value) (P : Program) (w : World) :
    (results fn tmps).run P w =
      ((asAddr (tmps.getD p undef)).run P w).andThen fun a w₁ => ((loadVar ty a).run P w₁).andThen fun v w₂ => ((asAddr (tmps.getD q undef)).run P w₂).andThen fun a2 w₃ => ((loadVar ty2 a2).run P w₃).andThen fun v2 w₄ => .ok (.tuple #[v, v2]) w₄ := by
  simp only [results, h]
  simp [Sem.run_bind, Result.andThen]

set_option maxHeartbeats 8000000 in
theorem example_val (w : World) : Calls Tryd.prog 8 #[] w fun e w' => Below w.heap.size w w' ∧ OutEx w' e := by
  have hA := Box.alloc w exY 27
  have hB := Box.alloc (w.alloc (.cells exY.toArray 27)) exZ 30
  have hA := hA.al (.cells exZ.toArray 30)
  have z1 : (w.alloc (.cells exY.toArray 27)).heap.size = w.heap.size + 1 := by simp
  rw [z1] at hB
  clear z1
  have hb2 := ((Below.refl w.heap.size w).alloc (Nat.le_refl _) (.cells exY.toArray 27))
  have hb2 := hb2.alloc hb2.size (.cells exZ.toArray 30)
  have z2 : ((w.alloc (.cells exY.toArray 27)).alloc (.cells exZ.toArray 30)).heap.size = w.heap.size + 1 + 1 := by simp
  obtain ⟨W2, hW2⟩ : ∃ W2, W2 = (w.alloc (.cells exY.toArray 27)).alloc (.cells exZ.toArray 30) := ⟨_, rfl⟩
  rw [← hW2] at hA hB hb2 z2
  have hC := Box.alloc W2 [.string ⟨#[111]⟩, .string ⟨#[80]⟩] 60
  have hA := hA.al (.cells #[.string ⟨#[111]⟩, .string ⟨#[80]⟩] 60)
  have hB := hB.al (.cells #[.string ⟨#[111]⟩, .string ⟨#[80]⟩] 60)
  have hb3 := hb2.alloc hb2.size (.cells #[.string ⟨#[111]⟩, .string ⟨#[80]⟩] 60)
  obtain ⟨W3, hW3⟩ : ∃ W3, W3 = W2.alloc (.cells #[.string ⟨#[111]⟩, .string ⟨#[80]⟩] 60) := ⟨_, rfl⟩
  have z3 : W3.heap.size = w.heap.size + 1 + 1 + 1 := by rw [hW3]; simp [z2]
  rw [z2] at hC
  rw [← hW3] at hA hB hC hb3
  have hD := Box.alloc W3 [.string ⟨#[120]⟩, .string intS, .string ⟨#[121]⟩, .string intS] 60
  have hA := hA.al (.cells #[.string ⟨#[120]⟩, .string intS, .string ⟨#[121]⟩, .string intS] 60)
  have hB := hB.al (.cells #[.string ⟨#[120]⟩, .string intS, .string ⟨#[121]⟩, .string intS] 60)
  have hC := hC.al (.cells #[.string ⟨#[120]⟩, .string intS, .string ⟨#[121]⟩, .string intS] 60)
  have hb4 := hb3.alloc hb3.size (.cells #[.string ⟨#[120]⟩, .string intS, .string ⟨#[121]⟩, .string intS] 60)
  obtain ⟨W4, hW4⟩ : ∃ W4, W4 = W3.alloc (.cells #[.string ⟨#[120]⟩, .string intS, .string ⟨#[121]⟩, .string intS] 60) := ⟨_, rfl⟩
  have z4 : W4.heap.size = w.heap.size + 1 + 1 + 1 + 1 := by rw [hW4]; simp [z3]
  rw [z3] at hD
  rw [← hW4] at hA hB hC hD hb4
  have hE := Box.alloc W4 (exC (w.heap.size + 1 + 1) (w.heap.size + 1 + 1 + 1)) 30
  have hA := hA.al (.cells (exC (w.heap.size + 1 + 1) (w.heap.size + 1 + 1 + 1)).toArray 30)
  have hB := hB.al (.cells (exC (w.heap.size + 1 + 1) (w.heap.size + 1 + 1 + 1)).toArray 30)
  have hC := hC.al (.cells (exC (w.heap.size + 1 + 1) (w.heap.size + 1 + 1 + 1)).toArray 30)
  have hD := hD.al (.cells (exC (w.heap.size + 1 + 1) (w.heap.size + 1 + 1 + 1)).toArray 30)
  have hb5 := hb4.alloc hb4.size (.cells (exC (w.heap.size + 1 + 1) (w.heap.size + 1 + 1 + 1)).toArray 30)
  rw [z4] at hE
  go_enter Tryd.func8, Tryd.ntmps8
  go_wp2_with fail
  rw [hW4, hW3, hW2] at hA hB hC hD hE hb5
  generalize hG : World.alloc (World.alloc (World.alloc (World.alloc (World.alloc w _) _) _) _) _ = W at *
  clear hW2 hW3 hW4 z2 z3 z4 hb2 hb3 hb4
  generalize hBw : w.heap.size = B at *
  have hlt : B + 1 + 1 + 1 + 1 < W.heap.size := hE.lt
  refine wp_region_serF (S := fun V L v => ExS w B (B + 1) (B + 1 + 1 + 1 + 1) [.string ⟨#[97]⟩, .string intS] exY exZ (exC (B + 1 + 1) (B + 1 + 1 + 1)) V L v ∧ Box v (B + 1 + 1) [.string ⟨#[111]⟩, .string ⟨#[80]⟩] ∧ Box v (B + 1 + 1 + 1) [.string ⟨#[120]⟩, .string intS, .string ⟨#[121]⟩, .string intS]) rfl (by kernel_rfl) ?_ ?_
  · exact ⟨⟨hBw ▸ hb5.drew, hlt, hE.drew, (fun e => Bool.noConfusion e), (fun e => Bool.noConfusion e), (fun e => Bool.noConfusion e), hA.drew, hB.drew⟩, hC.drew, hD.drew⟩
  ((refine SerF.step (a1 := ?_) (fun _ => rfl) (fun V L w1 K' Q' hS hi hR hd hK => ?_) ?_ ?_ ?_; rotate_left); (· ((skip); go_simp; (try simp only [Act.put, List.setIfInBounds_toArray, List.set_cons_zero, List.set_cons_succ]); exact hK.out _ (⟨hS.1.pass rfl rfl rfl rfl rfl, hS.2⟩))); (· (intro V; rfl)); (· (exact fun _ _ _ _ _ _ => rfl)))
  refine SerF.free (fun _ => rfl) (fun V L w1 K' Q' hS hi hR hd hK => ?_) ?_
  · have e3 := hR.out 3 2 (by kernel_rfl) (hR.out 2 1 (by kernel_rfl) hi)
    have e8 := hR.out 8 1 (by kernel_rfl) hi
    go_simp
    (try simp only [Act.put, List.setIfInBounds_toArray, List.set_cons_zero, List.set_cons_succ])
    exact hK.out _ _ rfl ⟨hS.1.m1 ⟨by omega, by omega⟩ _ e3 e8, hS.2.1.al _, hS.2.2.al _⟩
  (try simp only [Act.put, List.setIfInBounds_toArray, List.set_cons_zero, List.set_cons_succ])
  (refine SerF.step (a1 := ?_) (fun _ => rfl) (fun V L w1 K' Q' hS hi hR hd hK => ?_) ?_ ?_ ?_; rotate_left)
  · have hL := hd.out 1 (by kernel_rfl)
    have e : V (0 + 1) = .slice (some ⟨Classical.choose (hS.1.c1 hL), 0, none⟩) 1 1 := (hS.1.c1 hL).sl
    rw [e]
    replace e := Lib.hid e
    go_simp
    (try simp only [Act.put, List.setIfInBounds_toArray, List.set_cons_zero, List.set_cons_succ])
    rw [← e.out]
    exact hK.out _ ⟨hS.1.pass rfl rfl rfl rfl rfl, hS.2⟩
  · intro V; rfl
  · intro L V V' hR hi hk
    have e1 : V (0 + 1) = V' (0 + 1) := hk 1 (right_on hR (by kernel_rfl) hi)
    show Value.agg #[_, V (0 + 1)] = Value.agg #[_, V' (0 + 1)]
    rw [e1]
  refine SerF.free (fun _ => rfl) (fun V L w1 K' Q' hS hi hR hd hK => ?_) ?_
  · have e8 := hR.out 8 3 (by kernel_rfl) hi
    have hL : L 1 = true := right_on hR.out (j := 2) (by kernel_rfl) (hd.out 2 (by kernel_rfl))
    have e : V (0 + 1) = .slice (some ⟨Classical.choose (hS.1.c1 hL), 0, none⟩) 1 1 := (hS.1.c1 hL).sl
    rw [e]
    replace e := Lib.hid e
    go_simp
    (try simp only [Act.put, List.setIfInBounds_toArray, List.set_cons_zero, List.set_cons_succ])
    rw [← e.out]
    exact hK.out _ _ rfl ⟨hS.1.m3 ⟨by omega, by omega⟩ _ e8, hS.2.1.al _, hS.2.2.al _⟩
  (try simp only [Act.put, List.setIfInBounds_toArray, List.set_cons_zero, List.set_cons_succ])
  ((refine SerF.step (a1 := ?_) (fun _ => rfl) (fun V L w1 K' Q' hS hi hR hd hK => ?_) ?_ ?_ ?_; rotate_left); (· ((have hf := hS.1.f; have b0 := hf.c 0 _ rfl; have b1 := hf.c 1 _ rfl; have b2 := hf.c 2 _ rfl; have b3 := hf.c 3 _ rfl; have b4 := hf.c 4 _ rfl); go_simp; (try simp only [Act.put, List.setIfInBounds_toArray, List.set_cons_zero, List.set_cons_succ]); exact hK.out _ (⟨hS.1.pass rfl rfl rfl rfl rfl, hS.2⟩))); (· (intro V; rfl)); (· (exact fun _ _ _ _ _ _ => rfl)))
  refine SerF.free (fun _ => rfl) (fun V L w1 K' Q' hS hi hR hd hK => ?_) ?_
  · have e8 := hR.out 8 5 (by kernel_rfl) hi
    go_simp
    (try simp only [Act.put, List.setIfInBounds_toArray, List.set_cons_zero, List.set_cons_succ])
    exact hK.out _ _ rfl ⟨hS.1.m5 ⟨by omega, by omega⟩ _ e8, hS.2.1.al _, hS.2.2.al _⟩
  (try simp only [Act.put, List.setIfInBounds_toArray, List.set_cons_zero, List.set_cons_succ])
  (refine SerF.step (a1 := ?_) (fun _ => rfl) (fun V L w1 K' Q' hS hi hR hd hK => ?_) ?_ ?_ ?_; rotate_left)
  · have hL := hd.out 3 (by kernel_rfl)
    have e : V (0 + 1 + 1 + 1) = .slice (some ⟨Classical.choose (hS.1.c3 hL), 0, none⟩) 1 1 := (hS.1.c3 hL).sl
    have hL5 := hd.out 5 (by kernel_rfl)
    have e5 : V (0 + 1 + 1 + 1 + 1 + 1) = .slice (some ⟨Classical.choose (hS.1.c5 hL5), 0, none⟩) 1 1 := (hS.1.c5 hL5).sl
    rw [e, e5]
    replace e := Lib.hid e
    replace e5 := Lib.hid e5
    go_simp
    (try simp only [Act.put, List.setIfInBounds_toArray, List.set_cons_zero, List.set_cons_succ])
    rw [← e.out, ← e5.out]
    exact hK.out _ ⟨hS.1.pass rfl rfl rfl rfl rfl, hS.2⟩
  · intro V; rfl
  · intro L V V' hR hi hk
    have e1 : V (0 + 1 + 1 + 1) = V' (0 + 1 + 1 + 1) := hk 3 (right_on hR (by kernel_rfl) hi)
    have e2 : V (0 + 1 + 1 + 1 + 1 + 1) = V' (0 + 1 + 1 + 1 + 1 + 1) := hk 5 (right_on hR (by kernel_rfl) hi)
    show Value.agg #[_, V (0 + 1 + 1 + 1), _, _, V (0 + 1 + 1 + 1 + 1 + 1)] = Value.agg #[_, V' (0 + 1 + 1 + 1), _, _, V' (0 + 1 + 1 + 1 + 1 + 1)]
    rw [e1, e2]
  ((refine SerF.step (a1 := ?_) (fun _ => rfl) (fun V L w1 K' Q' hS hi hR hd hK => ?_) ?_ ?_ ?_; rotate_left); (· ((have hf := hS.1.f; have b0 := hf.c 0 _ rfl; have b1 := hf.c 1 _ rfl; have b2 := hf.c 2 _ rfl; have b3 := hf.c 3 _ rfl; have b4 := hf.c 4 _ rfl); go_simp; (try simp only [Act.put, List.setIfInBounds_toArray, List.set_cons_zero, List.set_cons_succ]); exact hK.out _ (⟨hS.1.pass rfl rfl rfl rfl rfl, hS.2⟩))); (· (intro V; rfl)); (· (exact fun _ _ _ _ _ _ => rfl)))
  (refine SerF.step (a1 := ?_) (fun _ => rfl) (fun V L w1 K' Q' hS hi hR hd hK => ?_) ?_ ?_ ?_; rotate_left)
  · have hL := hd.out 3 (by kernel_rfl)
    have e : V (0 + 1 + 1 + 1) = .slice (some ⟨Classical.choose (hS.1.c3 hL), 0, none⟩) 1 1 := (hS.1.c3 hL).sl
    have hL5 := hd.out 5 (by kernel_rfl)
    have e5 : V (0 + 1 + 1 + 1 + 1 + 1) = .slice (some ⟨Classical.choose (hS.1.c5 hL5), 0, none⟩) 1 1 := (hS.1.c5 hL5).sl
    have hp := hS.1.p
    rw [hi] at hp
    replace hp : Box w1 B exY := hp
    have b0 := hp.c 0 _ rfl
    have b1 := hp.c 1 _ rfl
    have b2 := hp.c 2 _ rfl
    have b3 := hp.c 3 _ rfl
    have b4 := hp.c 4 _ rfl
    have f0 := hp.f 0 (by simp)
    have f1 := hp.f 1 (by simp)
    have f2 := hp.f 2 (by simp)
    have f3 := hp.f 3 (by simp)
    have f4 := hp.f 4 (by simp)
    rw [e, e5]
    replace e := Lib.hid e
    replace e5 := Lib.hid e5
    go_simp
    (try simp only [Act.put, List.setIfInBounds_toArray, List.set_cons_zero, List.set_cons_succ])
    rw [← e.out, ← e5.out]
    have hq : B < B + 1 + 1 + 1 + 1 ∧ B ≠ B + 1 ∧ w.heap.size ≤ B := ⟨by omega, by omega, by omega⟩
    have hs0 := hS.1.set0 (i := 0) hq hi (by simp) (.bool false)
    have hs1 := hs0.set0 (i := 1) hq hi (by simp) (V (0 + 1 + 1 + 1))
    have hs2 := hs1.set0 (i := 2) hq hi (by simp) (.slice none 0 0)
    have hs3 := hs2.set0 (i := 3) hq hi (by simp) (.slice none 0 0)
    have hs4 := hs3.set0 (i := 4) hq hi (by simp) (V (0 + 1 + 1 + 1 + 1 + 1))
    exact hK.out _ ⟨ExS.d8 hs4 hi, ((((hS.2.1.far (by dsimp only; omega) _).far (by dsimp only; omega) _).far (by dsimp only; omega) _).far (by dsimp only; omega) _).far (by dsimp only; omega) _, ((((hS.2.2.far (by dsimp only; omega) _).far (by dsimp only; omega) _).far (by dsimp only; omega) _).far (by dsimp only; omega) _).far (by dsimp only; omega) _⟩
  · intro V; rfl
  · exact fun _ _ _ _ _ _ => rfl
  (refine SerF.step (a1 := ?_) (fun _ => rfl) (fun V L w1 K' Q' hS hi hR hd hK => ?_) ?_ ?_ ?_; rotate_left)
  · have hp := hS.1.q
    rw [hi] at hp
    replace hp : Box w1 (B + 1) exZ := hp
    have b0 := hp.c 0 _ rfl
    have b1 := hp.c 1 _ rfl
    have b2 := hp.c 2 _ rfl
    have b3 := hp.c 3 _ rfl
    have b4 := hp.c 4 _ rfl
    have f0 := hp.f 0 (by simp)
    have f1 := hp.f 1 (by simp)
    have f2 := hp.f 2 (by simp)
    have f3 := hp.f 3 (by simp)
    have f4 := hp.f 4 (by simp)
    go_simp
    (try simp only [Act.put, List.setIfInBounds_toArray, List.set_cons_zero, List.set_cons_succ])
    have hq : B + 1 < B + 1 + 1 + 1 + 1 ∧ B ≠ B + 1 ∧ w.heap.size ≤ B + 1 := ⟨by omega, by omega, by omega⟩
    have hs0 := hS.1.set1 (i := 0) hq hi (by simp) (.string ⟨#[102]⟩)
    have hs1 := hs0.set1 (i := 1) hq hi (by simp) (.string ⟨#[80]⟩)
    have hs2 := hs1.set1 (i := 2) hq hi (by simp) (.slice (some ⟨B + 1 + 1, 0, none⟩) 1 1)
    have hs3 := hs2.set1 (i := 3) hq hi (by simp) (.slice (some ⟨B + 1 + 1 + 1, 0, none⟩) 2 2)
    have hs4 := hs3.set1 (i := 4) hq hi (by simp) (.slice none 0 0)
    exact hK.out _ ⟨ExS.d9 hs4 hi, ((((hS.2.1.far (by dsimp only; omega) _).far (by dsimp only; omega) _).far (by dsimp only; omega) _).far (by dsimp only; omega) _).far (by dsimp only; omega) _, ((((hS.2.2.far (by dsimp only; omega) _).far (by dsimp only; omega) _).far (by dsimp only; omega) _).far (by dsimp only; omega) _).far (by dsimp only; omega) _⟩
  · intro V; rfl
  · exact fun _ _ _ _ _ _ => rfl
  refine SerF.nil fun V w4 hS4 => ?_
  obtain ⟨⟨hb, hz, hf, h1, h3, h5, hp, hq⟩, hC4, hD4⟩ := hS4
  replace hp : Box w4 B [.bool false, V 3, .slice none 0 0, .slice none 0 0, V 5] := hp
  replace hq : Box w4 (B + 1) (exC (B + 1 + 1) (B + 1 + 1 + 1)) := hq
  replace h1 := h1 rfl
  replace h3 := h3 rfl
  replace h5 := h5 rfl
  obtain ⟨hP, hF⟩ := ex_views h1 h3 h5 hC4 hD4
  have b0 := hp.c 0 _ rfl
  have b1 := hp.c 1 _ rfl
  have b2 := hp.c 2 _ rfl
  have b3 := hp.c 3 _ rfl
  have b4 := hp.c 4 _ rfl
  have c0 := hq.c 0 _ rfl
  have c1 := hq.c 1 _ rfl
  have c2 := hq.c 2 _ rfl
  have c3 := hq.c 3 _ rfl
  have c4 := hq.c 4 _ rfl
  obtain ⟨q3, s3⟩ : ∃ q, V 3 = .slice (some ⟨q, 0, none⟩) 1 1 := ⟨_, h3.sl⟩
  obtain ⟨q5, s5⟩ : ∃ q, V 5 = .slice (some ⟨q, 0, none⟩) 1 1 := ⟨_, h5.sl⟩
  clear h1 h3 h5 hp hq hf hC4 hD4 hA hB hC hD hE hG
  rw [s3, s5] at hP
  rw [s3] at b1
  rw [s5] at b4
  rw [s3, s5]
  clear s3 s5
  go_wp2
  (try simp only [Exit.inBlock, Exit.then])
  refine bodyPost_ret_by (v := .tuple #[.agg #[.bool false, .slice (some ⟨q3, 0, none⟩) 1 1, .slice none 0 0, .slice none 0 0, .slice (some ⟨q5, 0, none⟩) 1 1], .agg #[.string ⟨#[102]⟩, .string ⟨#[80]⟩, .slice (some ⟨B + 1 + 1, 0, none⟩) 1 1, .slice (some ⟨B + 1 + 1 + 1, 0, none⟩) 2 2, .slice none 0 0]]) ((results_cell_cell rfl _ _ _).trans (by go_simp; try rfl)) rfl ?_
  exact ⟨hb, _, _, _, _, _, _, rfl, hP, hF⟩
end Go.Proofs.YtjohjpjpfglkkaaDoor
