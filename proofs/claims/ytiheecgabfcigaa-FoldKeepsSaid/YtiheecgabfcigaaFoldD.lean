/- The walks of package fold: nulls. -/
import Derived.Test.YtiheecgabfcigaaFoldC
import Derived.Test.YtiheecgabfcigaaSer
namespace Go.Proofs.Ytiheecgabfcigaa
open Go.RowKit Num Flo

/-- two boxed arguments, whatever lies behind them -/
def InA (w w' : World) (K : Int) (s : ByteArray) (n K2 : Int) (s2 : ByteArray) (n2 : Int) : Prop :=
  Below ((w.alloc (oArg K s n)).alloc (oArg K2 s2 n2)).heap.size ((w.alloc (oArg K s n)).alloc (oArg K2 s2 n2)) w'
def InAF (w w1 : World) (K : Int) (s : ByteArray) (n K2 : Int) (s2 : ByteArray) (n2 : Int) : Prop :=
    w1.cell? ⟨w.heap.size, 0, none⟩ = some (.int .i64 K) ∧ w1.cell? ⟨w.heap.size, 1, none⟩ = some (.string s) ∧ w1.cell? ⟨w.heap.size, 2, none⟩ = some (.int .i64 n) ∧
    w1.cell? ⟨w.heap.size + 1, 0, none⟩ = some (.int .i64 K2) ∧ w1.cell? ⟨w.heap.size + 1, 1, none⟩ = some (.string s2) ∧ w1.cell? ⟨w.heap.size + 1, 2, none⟩ = some (.int .i64 n2) ∧ InA w w1 K s n K2 s2 n2
theorem In3.two {w w1 : World} {K n K2 n2 : Int} {s s2 : ByteArray} (h : In3 w w1 K s n K2 s2 n2) : InA w w1 K s n K2 s2 n2 := by
  have hz := (Below.refl ((w.alloc (oArg K s n)).alloc (oArg K2 s2 n2)).heap.size ((w.alloc (oArg K s n)).alloc (oArg K2 s2 n2))).alloc (Nat.le_refl _) (oArg 0 { data := #[] } 0)
  exact hz.trans (Below.mono h hz.size)
theorem InA.all {w w1 : World} {K n K2 n2 : Int} {s s2 : ByteArray} (h : InA w w1 K s n K2 s2 n2) : InAF w w1 K s n K2 s2 n2 := by
  have hs : (w.alloc (oArg K s n)).heap.size = w.heap.size + 1 := by simp
  have hb : Below (w.alloc (oArg K s n)).heap.size (w.alloc (oArg K s n)) w1 := by
    have hz := (Below.refl (w.alloc (oArg K s n)).heap.size (w.alloc (oArg K s n))).alloc (Nat.le_refl _) (oArg K2 s2 n2)
    exact hz.trans (Below.mono h hz.size)
  obtain ⟨a0, a1, a2, _⟩ := box6 (w := w) (a := .int .i64 K) (b := .string s) (c := .int .i64 n) (t := 30) hb
  obtain ⟨b0, b1, b2, _⟩ := box6 (w := w.alloc (oArg K s n)) (a := .int .i64 K2) (b := .string s2) (c := .int .i64 n2) (t := 30) h
  rw [hs] at b0 b1 b2
  exact ⟨a0, a1, a2, b0, b1, b2, h⟩
theorem InA.below {w w1 : World} {K n K2 n2 : Int} {s s2 : ByteArray} (h : InA w w1 K s n K2 s2 n2) : Below w.heap.size w w1 := by
  have hz := (Below.refl w.heap.size w).alloc (Nat.le_refl _) (oArg K s n)
  have hz2 := hz.alloc hz.size (oArg K2 s2 n2)
  exact hz2.trans (Below.mono h hz2.size)
theorem InA.step {w w1 w2 : World} {K n K2 n2 : Int} {s s2 : ByteArray} {a b c d e f : Prop} (h2 : Below w1.heap.size w1 w2) (h : a ∧ b ∧ c ∧ d ∧ e ∧ f ∧ InA w w1 K s n K2 s2 n2) : InAF w w2 K s n K2 s2 n2 :=
  InA.all (Below.trans h.2.2.2.2.2.2 (h2.mono (Below.size h.2.2.2.2.2.2)))
theorem InA.set3 {w w1 : World} {K n K2 n2 : Int} {s s2 : ByteArray} {x y z : Value} (h : InA w w1 K s n K2 s2 n2) :
    InAF w (((w1.setCell ⟨w.heap.size + 1 + 1, 0, none⟩ x).setCell ⟨w.heap.size + 1 + 1, 1, none⟩ y).setCell ⟨w.heap.size + 1 + 1, 2, none⟩ z) K s n K2 s2 n2 := by
  have hs2 : ((w.alloc (oArg K s n)).alloc (oArg K2 s2 n2)).heap.size = w.heap.size + 1 + 1 := by simp
  exact InA.all (((Below.setCell h (p := ⟨w.heap.size + 1 + 1, 0, none⟩) (Nat.le_of_eq hs2) x).setCell (p := ⟨w.heap.size + 1 + 1, 1, none⟩) (Nat.le_of_eq hs2) y).setCell (p := ⟨w.heap.size + 1 + 1, 2, none⟩) (Nat.le_of_eq hs2) z)

/-- the condition of 'nulls': the result's cell is written by operation number 13 -/
def SNulls (w : World) (K : Int) (s : ByteArray) (n K2 : Int) (s2 : ByteArray) (n2 : Int) (L : Nat → Bool) (w1 : World) : Prop :=
  (L 13 = false → In3 w w1 K s n K2 s2 n2) ∧ (L 13 = true → InA w w1 K s n K2 s2 n2 ∧ w1.cell? ⟨w.heap.size + 1 + 1, 0, none⟩ = some (.int .i64 2) ∧ w1.cell? ⟨w.heap.size + 1 + 1, 1, none⟩ = some (.string { data := #[] }) ∧ w1.cell? ⟨w.heap.size + 1 + 1, 2, none⟩ = some (.int .i64 1))
theorem SNulls.all {w w1 : World} {K n K2 n2 : Int} {s s2 : ByteArray} {L : Nat → Bool} (h : SNulls w K s n K2 s2 n2 L w1) : InAF w w1 K s n K2 s2 n2 := by
  cases hl : L 13 with
  | false => exact InA.all (In3.two (h.1 hl))
  | true => exact InA.all (h.2 hl).1
theorem SNulls.keep {w w1 : World} {K n K2 n2 : Int} {s s2 : ByteArray} {L : Nat → Bool} {i : Nat} (h : SNulls w K s n K2 s2 n2 L w1) (hi : (i == 13) = false) : SNulls w K s n K2 s2 n2 (upd L i) w1 := by
  have e : upd L i 13 = L 13 := by
    have : (13 == i) = false := by rw [beq_eq_false_iff_ne] at *; omega
    simp [upd, this]
  unfold SNulls
  rw [e]
  exact h

theorem SNulls.call {w w1 w2 : World} {K n K2 n2 : Int} {s s2 : ByteArray} {L : Nat → Bool} {i : Nat} (h : SNulls w K s n K2 s2 n2 L w1) (hl : L 13 = false) (hi : (i == 13) = false) (hb : Below w1.heap.size w1 w2) : SNulls w K s n K2 s2 n2 (upd L i) w2 :=
  SNulls.keep ⟨fun _ => In3.next (h.1 hl) hb, fun h => by rw [hl] at h; cases h⟩ hi
theorem SNulls.done {w w1 : World} {K n K2 n2 : Int} {s s2 : ByteArray} {L : Nat → Bool} (h : SNulls w K s n K2 s2 n2 L w1) (hl : L 13 = false) :
    SNulls w K s n K2 s2 n2 (upd L 13) (((w1.setCell ⟨w.heap.size + 1 + 1, 0, none⟩ (.int .i64 2)).setCell ⟨w.heap.size + 1 + 1, 1, none⟩ (.string { data := #[] })).setCell ⟨w.heap.size + 1 + 1, 2, none⟩ (.int .i64 1)) := by
  have h0 := h.1 hl
  obtain ⟨_, _, _, _, _, _, c0, c1, c2, f0, f1, f2⟩ := In3.all h0
  obtain ⟨_, _, _, _, _, _, hA⟩ := InA.set3 (x := .int .i64 2) (y := .string { data := #[] }) (z := .int .i64 1) (In3.two h0)
  refine ⟨fun h => by simp [upd] at h, fun _ => ⟨hA, ?_, ?_, ?_⟩⟩
  · simp [World.cell?_setCell_same', World.cell?_setCell_other, c0]
  · simp [World.cell?_setCell_same', World.cell?_setCell_other, c1]
  · simp [World.cell?_setCell_same', World.cell?_setCell_other, c2]

set_option maxHeartbeats 400000 in
theorem nulls_val (op K : Int) (s : ByteArray) (n K2 : Int) (s2 : ByteArray) (n2 : Int) (b : Bool) (h : (op == 28 && K == 4 && K2 == 4) = b) (w : World) :
    Calls Try.prog 21 #[.int .i64 op, .agg #[.int .i64 K, .string s, .int .i64 n], .agg #[.int .i64 K2, .string s2, .int .i64 n2]] w fun e w' => e = .returned (.tuple #[.agg #[.int .i64 2, .string .empty, .int .i64 1], .bool b]) ∧ Below w.heap.size w w' := by
  have i0 : In3 w _ K s n K2 s2 n2 := In3.refl
  rcases h1 : (op == 28) with _ | _ <;> rcases h2 : (K == 4) with _ | _ <;> rcases h3 : (K2 == 4) with _ | _
  all_goals
    have hb := h.symm
    rw [h1, h2, h3] at hb
    simp only [Bool.and_false, Bool.and_true, Bool.and_self] at hb
    subst hb
    clear h
    go_enter Try.func21, Try.ntmps21
    go_wp2
    replace i0 := In3.drew i0
    refine wp_region_ser (S := SNulls w K s n K2 s2 n2) rfl (by kernel_rfl) ⟨fun _ => i0, fun h => by cases h⟩ ?_
    clear i0
    (refine Ser.step (a1 := ?_) rfl (fun L w1 K' Q' hS hi hR hd hK => ?_) ?_ ?_; rotate_left)
    · go_simp
      go_wp2_with (go_at_call 33; refine (whole_val _ _).mono ?_; rintro e w2 ⟨rfl, hb⟩)
      (try simp only [Act.put, List.setIfInBounds_toArray, List.set_cons_zero, List.set_cons_succ])
      exact hK.out _ (hS.call (hR.out 13 0 (by kernel_rfl) hi) rfl hb)
    · rfl
    repeat (first | ((refine Ser.step (a1 := ?_) rfl (fun L w1 K' Q' hS hi hR hd hK => ?_) ?_ ?_; rotate_left); (· ((obtain ⟨a0, a1, a2, b0, b1, b2, _⟩ := hS.all); go_simp; (try simp only [Act.put, List.setIfInBounds_toArray, List.set_cons_zero, List.set_cons_succ]); exact hK.out _ (hS.keep rfl))); (· rfl)) | (refine Ser.skip rfl (fun L w1 hS hi => (hS.keep rfl)) ?_; (try simp only [Act.put, List.setIfInBounds_toArray, List.set_cons_zero, List.set_cons_succ])))
    (refine Ser.step (a1 := ?_) rfl (fun L w1 K' Q' hS hi hR hd hK => ?_) ?_ ?_; rotate_left)
    · obtain ⟨_, _, _, _, _, _, c0, c1, c2, f0, f1, f2⟩ := In3.all (hS.1 hi)
      go_simp
      exact hK.out _ (hS.done hi)
    · rfl
    ((refine Ser.step (a1 := ?_) rfl (fun L w1 K' Q' hS hi hR hd hK => ?_) ?_ ?_; rotate_left); (· ((skip); go_simp; (try simp only [Act.put, List.setIfInBounds_toArray, List.set_cons_zero, List.set_cons_succ]); exact hK.out _ (hS.keep rfl))); (· rfl))
    refine Ser.nil fun w1 hS => ?_
    obtain ⟨hA, c0, c1, c2⟩ := hS.2 rfl
    go_wp2
    ((try simp only [Exit.inBlock, Exit.then]); refine bodyPost_ret_by (v := (.tuple #[.agg #[.int .i64 2, .string .empty, .int .i64 1], .bool _])) ((results_cell_tmp rfl _ _ _).trans (by go_simp; try rfl)) rfl ⟨rfl, ?_⟩)
    exact InA.below hA
end Go.Proofs.Ytiheecgabfcigaa
