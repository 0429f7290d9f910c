/- The walks of package fold: an instruction of two arguments. -/
import Derived.Test.YtiheecgabfcigaaFoldE
import Derived.Test.YtiheecgabfcigaaBox
namespace Go.Proofs.Ytiheecgabfcigaa
open Go.RowKit Num Flo

theorem double_val (op : Int) (b : Bool) (h : (decide (1 ≤ op) && decide (op ≤ 21) || op == 28) = b) (w : World) : Calls Try.prog 16 #[.int .i64 op] w fun e w' => e = .returned (.bool b) ∧ w = w' := by
  have H := Lib.hid h
  clear h
  by_cases h1 : 1 ≤ op <;> by_cases h2 : op ≤ 21 <;> rcases h3 : (op == 28) with _ | _
  all_goals
    go_enter Try.func16, Try.ntmps16
    go_wp2
    go_ret
    refine ⟨ret_bool ?_, rfl⟩
    rw [← H.out, h3]
    simp [h1, h2]

/-- the five rules: an argument's kind, its text, its number, and whether the rule applies -/
def ruleV (op K : Int) (s : ByteArray) (n K2 : Int) (s2 : ByteArray) (n2 : Int) : Nat → Int × ByteArray × Int × Bool
  | 0 => ((reckonedV op K n K2 n2).1, .empty, (reckonedV op K n K2 n2).2.1, (reckonedV op K n K2 n2).2.2)
  | 1 => (2, .empty, 0, noughtV op K n K2 n2)
  | 2 => neutralV op K s n K2 s2 n2
  | 3 => oneV op K s n K2 s2 n2
  | _ => (2, .empty, 1, op == 28 && K == 4 && K2 == 4)

section
variable (op K : Int) (s : ByteArray) (n K2 : Int) (s2 : ByteArray) (n2 : Int) (k : Int) (t : ByteArray) (j : Int) (b : Bool)
theorem rule0_val (h : ruleV op K s n K2 s2 n2 0 = (k, t, j, b)) (w : World) :
    Calls Try.prog 17 #[.int .i64 op, .agg #[.int .i64 K, .string s, .int .i64 n], .agg #[.int .i64 K2, .string s2, .int .i64 n2]] w fun e w' => e = .returned (.tuple #[.agg #[.int .i64 k, .string t, .int .i64 j], .bool b]) ∧ Below w.heap.size w w' := by
  simp only [ruleV, Prod.mk.injEq] at h
  obtain ⟨rfl, rfl, rfl, rfl⟩ := h
  exact reckoned_val op K s n K2 s2 n2 _ _ _ rfl w
theorem rule1_val (h : ruleV op K s n K2 s2 n2 1 = (k, t, j, b)) (w : World) :
    Calls Try.prog 18 #[.int .i64 op, .agg #[.int .i64 K, .string s, .int .i64 n], .agg #[.int .i64 K2, .string s2, .int .i64 n2]] w fun e w' => e = .returned (.tuple #[.agg #[.int .i64 k, .string t, .int .i64 j], .bool b]) ∧ Below w.heap.size w w' := by
  simp only [ruleV, Prod.mk.injEq] at h
  obtain ⟨rfl, rfl, rfl, rfl⟩ := h
  exact nought_val op K s n K2 s2 n2 _ rfl w
theorem rule2_val (h : ruleV op K s n K2 s2 n2 2 = (k, t, j, b)) (w : World) :
    Calls Try.prog 19 #[.int .i64 op, .agg #[.int .i64 K, .string s, .int .i64 n], .agg #[.int .i64 K2, .string s2, .int .i64 n2]] w fun e w' => e = .returned (.tuple #[.agg #[.int .i64 k, .string t, .int .i64 j], .bool b]) ∧ Below w.heap.size w w' :=
  neutral_val op K s n K2 s2 n2 k j t b h w
theorem rule3_val (h : ruleV op K s n K2 s2 n2 3 = (k, t, j, b)) (w : World) :
    Calls Try.prog 20 #[.int .i64 op, .agg #[.int .i64 K, .string s, .int .i64 n], .agg #[.int .i64 K2, .string s2, .int .i64 n2]] w fun e w' => e = .returned (.tuple #[.agg #[.int .i64 k, .string t, .int .i64 j], .bool b]) ∧ Below w.heap.size w w' :=
  one_val op K s n K2 s2 n2 k j t b h w
theorem rule4_val (h : ruleV op K s n K2 s2 n2 4 = (k, t, j, b)) (w : World) :
    Calls Try.prog 21 #[.int .i64 op, .agg #[.int .i64 K, .string s, .int .i64 n], .agg #[.int .i64 K2, .string s2, .int .i64 n2]] w fun e w' => e = .returned (.tuple #[.agg #[.int .i64 k, .string t, .int .i64 j], .bool b]) ∧ Below w.heap.size w w' := by
  simp only [ruleV, Prod.mk.injEq] at h
  obtain ⟨rfl, rfl, rfl, rfl⟩ := h
  exact nulls_val op K s n K2 s2 n2 _ rfl w
end

/-- the first rule that applies -/
def instr2V (op K : Int) (s : ByteArray) (n K2 : Int) (s2 : ByteArray) (n2 : Int) : Int × ByteArray × Int × Bool :=
  match (List.range 5).find? (fun j => (ruleV op K s n K2 s2 n2 j).2.2.2) with
  | some j => ruleV op K s n K2 s2 n2 j
  | none => (0, .empty, 0, false)
theorem instr2_hit {op K : Int} {s : ByteArray} {n K2 : Int} {s2 : ByteArray} {n2 : Int} {i : Nat} {k : Int} {t : ByteArray} {j : Int} (hi : i < 5) (h : ruleV op K s n K2 s2 n2 i = (k, t, j, true)) (hb : ∀ m, m < i → Hid ((ruleV op K s n K2 s2 n2 m).2.2.2 = false)) :
    instr2V op K s n K2 s2 n2 = (k, t, j, true) := by
  have : (List.range 5).find? (fun j => (ruleV op K s n K2 s2 n2 j).2.2.2) = some i := by
    rw [List.find?_range_eq_some]
    exact ⟨by rw [h], by simpa using hi, fun m hm => by simp [(hb m hm).out]⟩
  unfold instr2V
  rw [this]
  exact h
theorem instr2_none {op K : Int} {s : ByteArray} {n K2 : Int} {s2 : ByteArray} {n2 : Int} (hb : ∀ m, m < 5 → Hid ((ruleV op K s n K2 s2 n2 m).2.2.2 = false)) :
    instr2V op K s n K2 s2 n2 = (0, .empty, 0, false) := by
  have : (List.range 5).find? (fun j => (ruleV op K s n K2 s2 n2 j).2.2.2) = none := by
    rw [List.find?_range_eq_none]
    exact fun m hm => by simp [(hb m hm).out]
  unfold instr2V
  rw [this]
theorem miss_succ {op K : Int} {s : ByteArray} {n K2 : Int} {s2 : ByteArray} {n2 : Int} {i : Nat} {k : Int} {t : ByteArray} {j : Int} (h : ruleV op K s n K2 s2 n2 i = (k, t, j, false)) (hb : ∀ m, m < i → Hid ((ruleV op K s n K2 s2 n2 m).2.2.2 = false)) :
    ∀ m, m < i + 1 → Hid ((ruleV op K s n K2 s2 n2 m).2.2.2 = false) := fun m hm => by
  by_cases e : m = i
  · subst e; show _ = _; rw [h]
  · exact hb m (by omega)

/-- what a round of 'Instr' finds -/
structure Rnd (w wr : World) (op : Int) (d nm : ByteArray) (va vf vo : Value) : Prop where
  i : Box wr w.heap.size [.int .i64 op, .string d, .string nm, va, vf, vo]
  r : Box wr (w.heap.size + 1) [.int .i64 0, .string { data := #[] }, .int .i64 0]
  t : Box wr (w.heap.size + 1 + 1) [.func (.func 17) #[] #[], .func (.func 18) #[] #[], .func (.func 19) #[] #[], .func (.func 20) #[] #[], .func (.func 21) #[] #[]]
  b : Below w.heap.size w wr
theorem Rnd.next {w wr w1 : World} {op : Int} {d nm : ByteArray} {va vf vo : Value} (h : Rnd w wr op d nm va vf vo) (hb : Below wr.heap.size wr w1) : Rnd w w1 op d nm va vf vo :=
  { i := h.i.below h.i.lt hb
    r := h.r.below h.r.lt hb
    t := h.t.below h.t.lt hb
    b := bthen h.b hb }
theorem Rnd.start {w : World} {op : Int} {d nm : ByteArray} {va vf vo : Value} : Rnd w (((w.alloc (Obj.cells #[.int .i64 op, .string d, .string nm, va, vf, vo] 26)).alloc (Obj.cells #[.int .i64 0, .string { data := #[] }, .int .i64 0] 30)).alloc
    (Obj.cells #[.func (.func 17) #[] #[], .func (.func 18) #[] #[], .func (.func 19) #[] #[], .func (.func 20) #[] #[], .func (.func 21) #[] #[]] 46)) op d nm va vf vo := by
  have h1 := (Below.refl w.heap.size w).alloc (Nat.le_refl _) (Obj.cells #[.int .i64 op, .string d, .string nm, va, vf, vo] 26)
  have b1 := Box.alloc w [.int .i64 op, .string d, .string nm, va, vf, vo] 26
  have s1 : (w.alloc (Obj.cells #[.int .i64 op, .string d, .string nm, va, vf, vo] 26)).heap.size = w.heap.size + 1 := by simp
  have l1 : w.heap.size < (w.alloc (Obj.cells #[.int .i64 op, .string d, .string nm, va, vf, vo] 26)).heap.size := by omega
  revert h1 b1 s1 l1
  show Below _ _ (w.alloc (Obj.cells #[.int .i64 op, .string d, .string nm, va, vf, vo] 26)) → Box (w.alloc (Obj.cells #[.int .i64 op, .string d, .string nm, va, vf, vo] 26)) _ _ → _
  generalize w.alloc (Obj.cells #[.int .i64 op, .string d, .string nm, va, vf, vo] 26) = w1
  intro h1 b1 s1 l1
  have h2 := (Below.refl w1.heap.size w1).alloc (Nat.le_refl _) (Obj.cells #[.int .i64 0, .string { data := #[] }, .int .i64 0] 30)
  have b2 := Box.alloc w1 [.int .i64 0, .string { data := #[] }, .int .i64 0] 30
  have s2 : (w1.alloc (Obj.cells #[.int .i64 0, .string { data := #[] }, .int .i64 0] 30)).heap.size = w1.heap.size + 1 := by simp
  revert h2 b2 s2
  show Below _ _ (w1.alloc (Obj.cells #[.int .i64 0, .string { data := #[] }, .int .i64 0] 30)) → Box (w1.alloc (Obj.cells #[.int .i64 0, .string { data := #[] }, .int .i64 0] 30)) _ _ → _
  generalize w1.alloc (Obj.cells #[.int .i64 0, .string { data := #[] }, .int .i64 0] 30) = w2
  intro h2 b2 s2
  have h3 := (Below.refl w2.heap.size w2).alloc (Nat.le_refl _) (Obj.cells #[.func (.func 17) #[] #[], .func (.func 18) #[] #[], .func (.func 19) #[] #[], .func (.func 20) #[] #[], .func (.func 21) #[] #[]] 46)
  have b3 := Box.alloc w2 [.func (.func 17) #[] #[], .func (.func 18) #[] #[], .func (.func 19) #[] #[], .func (.func 20) #[] #[], .func (.func 21) #[] #[]] 46
  rw [s1] at b2
  rw [s2, s1] at b3
  exact
  { i := (b1.below l1 h2).below (by omega) h3
    r := b2.below (by omega) h3
    t := b3
    b := bthen (bthen h1 h2) h3 }

set_option maxHeartbeats 4000000 in
theorem instr2_val (op : Int) (d nm : ByteArray) (B o cap : Nat) (pf po : Option Addr) (lf kf lo ko : Nat) (K : Int) (s : ByteArray) (n K2 : Int) (s2 : ByteArray) (n2 : Int)
    (hd : (decide (1 ≤ op) && decide (op ≤ 21) || op == 28) = true) (k : Int) (t : ByteArray) (j : Int) (b : Bool) (h : instr2V op K s n K2 s2 n2 = (k, t, j, b)) (w : World) (hB : B < w.heap.size)
    (h0 : w.cell? ⟨B, o, none⟩ = some (.int .i64 K)) (h1 : w.cell? ⟨B, o + 1, none⟩ = some (.string s)) (h2 : w.cell? ⟨B, o + 2, none⟩ = some (.int .i64 n))
    (h3 : w.cell? ⟨B, o + 3, none⟩ = some (.int .i64 K2)) (h4 : w.cell? ⟨B, o + 3 + 1, none⟩ = some (.string s2)) (h5 : w.cell? ⟨B, o + 3 + 2, none⟩ = some (.int .i64 n2)) :
    Calls Try.prog 8 #[.agg #[.int .i64 op, .string d, .string nm, .slice (some ⟨B, o, none⟩) 2 cap, .slice pf lf kf, .slice po lo ko]] w fun e w' => e = .returned (.tuple #[.agg #[.int .i64 k, .string t, .int .i64 j], .bool b]) ∧ Below w.heap.size w w' := by
  have H := Lib.hid h
  clear h
  go_enter Try.func8, Try.ntmps8
  go_wp2_with ((with_reducible refine (double_val op true hd _).mono ?_); rintro e w1 ⟨rfl, rfl⟩)
  go_loopw [31] (fun i wr => ∃ q : Nat, q ≤ 5 ∧ i = .int .i64 (q : Int) ∧ (∀ m, m < q → Hid ((ruleV op K s n K2 s2 n2 m).2.2.2 = false)) ∧ Rnd w wr op d nm (.slice (some ⟨B, o, none⟩) 2 cap) (.slice pf lf kf) (.slice po lo ko)) (fun i _ => 5 - (intOf i).toNat)
  case atStart => exact ⟨0, by omega, rfl, fun m hm => absurd hm (Nat.not_lt_zero m), Rnd.start⟩
  case round =>
    obtain ⟨q, hq, rfl, hm, hR⟩ := hrel
    have G : ∀ w1, Below wr.heap.size wr w1 → w1.cell? ⟨w.heap.size, 0, none⟩ = some (.int .i64 op) ∧ w1.cell? ⟨w.heap.size, 3, none⟩ = some (.slice (some ⟨B, o, none⟩) 2 cap) ∧
        w1.cell? ⟨B, o, none⟩ = some (.int .i64 K) ∧ w1.cell? ⟨B, o + 1, none⟩ = some (.string s) ∧ w1.cell? ⟨B, o + 2, none⟩ = some (.int .i64 n) ∧
        w1.cell? ⟨B, o + 3, none⟩ = some (.int .i64 K2) ∧ w1.cell? ⟨B, o + 3 + 1, none⟩ = some (.string s2) ∧ w1.cell? ⟨B, o + 3 + 2, none⟩ = some (.int .i64 n2) := by
      intro w1 hb
      have hR1 := hR.next hb
      have hc := hR1.b
      exact ⟨hR1.i.c 0 _ rfl, hR1.i.c 3 _ rfl, by rw [hc.cell hB, h0], by rw [hc.cell hB, h1], by rw [hc.cell hB, h2], by rw [hc.cell hB, h3], by rw [hc.cell hB, h4], by rw [hc.cell hB, h5]⟩
    clear h0 h1 h2 h3 h4 h5
    by_cases hq5 : q = 5
    · subst hq5
      have hN := instr2_none hm
      rw [H.out] at hN
      simp only [Prod.mk.injEq] at hN
      obtain ⟨rfl, rfl, rfl, rfl⟩ := hN
      have hB' := hR.b
      have r0 := hR.r.c 0 _ rfl
      have r1 := hR.r.c 1 _ rfl
      have r2 := hR.r.c 2 _ rfl
      have f0 := hR.r.f 0 (by decide)
      have f1 := hR.r.f 1 (by decide)
      have f2 := hR.r.f 2 (by decide)
      go_wp2
      ((try simp only [Exit.inBlock, Exit.then]); refine bodyPost_ret_by (v := (.tuple #[.agg #[.int .i64 0, .string .empty, .int .i64 0], .bool false])) ((results_cell_tmp rfl _ _ _).trans (by go_simp; try rfl)) rfl ⟨rfl, ?_⟩)
      (repeat (first | with_reducible assumption | exact (Below.refl _ _).alloc (Nat.le_refl _) _ | exact Below.refl _ _ | (refine Below.drew ?_) | (refine Below.setCell ?_ ?_ _; rotate_left; first | exact Nat.le_refl _ | (dsimp only; omega)) | (refine Below.alloc ?_ ?_ _; rotate_left; first | exact Nat.le_refl _ | (simp; omega) | simp)))
    · have hq6 : q = 0 ∨ q = 1 ∨ q = 2 ∨ q = 3 ∨ q = 4 := by omega
      clear hq5 hq
      rcases hq6 with rfl | rfl | rfl | rfl | rfl
      · rcases hr : ruleV op K s n K2 s2 n2 0 with ⟨x, u, y, c⟩
        have Hr := Lib.hid hr
        clear hr
        have t0 := hR.t.c 0 _ rfl
        cases c
        all_goals
          go_wp2
          refine wp_region_serF (S := SBox wr 15 16 [.int .i64 0, .string { data := #[] }, .int .i64 0] [.int .i64 x, .string u, .int .i64 y]) rfl (by kernel_rfl) (SBox.start (Below.refl _ _).drew) ?_
          clear t0
          ((refine SerF.step (a1 := ?_) (fun _ => rfl) (fun V L w1 K' Q' hS hi hR hd hK => ?_) ?_ ?_ ?_; rotate_left); (· ((skip); go_simp; (try simp only [Act.put, List.setIfInBounds_toArray, List.set_cons_zero, List.set_cons_succ]); exact hK.out _ (hS.keep rfl rfl))); (· (intro V; rfl)); (· (exact fun _ _ _ _ _ _ => rfl)))
          repeat ((refine SerF.step (a1 := ?_) (fun _ => rfl) (fun V L w1 K' Q' hS hi hR hd hK => ?_) ?_ ?_ ?_; rotate_left); (· ((obtain ⟨g0, g1, a0, a1, a2, b0, b1, b2⟩ := G _ hS.1); go_simp; (try simp only [Act.put, List.setIfInBounds_toArray, List.set_cons_zero, List.set_cons_succ]); exact hK.out _ (hS.keep rfl rfl))); (· (intro V; rfl)); (· (exact fun _ _ _ _ _ _ => rfl)))
          ((refine SerF.step (a1 := ?_) (fun _ => rfl) (fun V L w1 K' Q' hS hi hR hd hK => ?_) ?_ ?_ ?_; rotate_left); (· (go_simp; go_wp2_with ((go_at_call 17; refine (rule0_val op K s n K2 s2 n2 _ _ _ _ Hr.out _).mono ?_; rintro e w2 ⟨rfl, hb⟩)); (try simp only [Act.put, List.setIfInBounds_toArray, List.set_cons_zero, List.set_cons_succ]); exact hK.out _ (hS.call hb rfl rfl))); (· (intro V; rfl)); (· (exact fun _ _ _ _ _ _ => rfl)))
          ((refine SerF.step (a1 := ?_) (fun _ => rfl) (fun V L w1 K' Q' hS hi hR hd hK => ?_) ?_ ?_ ?_; rotate_left); (· ((skip); go_simp; (try simp only [Act.put, List.setIfInBounds_toArray, List.set_cons_zero, List.set_cons_succ]); exact hK.out _ (hS.keep rfl rfl))); (· (intro V; rfl)); (· (exact fun _ _ _ _ _ _ => rfl)))
          ((refine SerF.step (a1 := ?_) (fun _ => rfl) (fun V L w1 K' Q' hS hi hR hd hK => ?_) ?_ ?_ ?_; rotate_left); (· ((skip); go_simp; (try simp only [Act.put, List.setIfInBounds_toArray, List.set_cons_zero, List.set_cons_succ]); exact hK.out _ (hS.keep rfl rfl))); (· (intro V; rfl)); (· (exact fun _ _ _ _ _ _ => rfl)))
          ((refine SerF.step (a1 := ?_) (fun _ => rfl) (fun V L w1 K' Q' hS hi hR hd hK => ?_) ?_ ?_ ?_; rotate_left); (· ((skip); go_simp; (try simp only [Act.put, List.setIfInBounds_toArray, List.set_cons_zero, List.set_cons_succ]); exact hK.out _ (hS.keep rfl rfl))); (· (intro V; rfl)); (· (exact fun _ _ _ _ _ _ => rfl)))
          (refine SerF.free (fun _ => rfl) (fun V L w1 K' Q' hS hi hR hd hK => ?_) ?_; (· (go_simp; (try simp only [Act.put, List.setIfInBounds_toArray, List.set_cons_zero, List.set_cons_succ]); exact hK.out _ _ rfl (hS.made rfl hi _))); (try simp only [Act.put, List.setIfInBounds_toArray, List.set_cons_zero, List.set_cons_succ]))
          refine SerF.val undef (fun _ => rfl) (fun V L w1 K' Q' hS hi hR' hd hK => ?_) ?_
          · have hl := hd.out 15 (by kernel_rfl)
            obtain ⟨p, hp, hp0, hp1, hx⟩ := hS.at hl hi
            have c0 := hx.c 0 _ rfl
            have c1 := hx.c 1 _ rfl
            have c2 := hx.c 2 _ rfl
            have f0 := hx.f 0 (by decide)
            have f1 := hx.f 1 (by decide)
            have f2 := hx.f 2 (by decide)
            go_simp
            refine hK.out _ _ (by simp only [hp]; rfl) (hS.fill hl hp hp0 (by simpa using hp1) (((hS.1.setCell hp0 _).setCell hp0 _).setCell hp0 _) (hx.set3 _ _ _) rfl)
          simp only [Act.put]
          ((refine SerF.step (a1 := ?_) (fun _ => rfl) (fun V L w1 K' Q' hS hi hR hd hK => ?_) ?_ ?_ ?_; rotate_left); (· ((skip); go_simp; (try simp only [Act.put, List.setIfInBounds_toArray, List.set_cons_zero, List.set_cons_succ]); exact hK.out _ (hS.keep rfl rfl))); (· (intro V; rfl)); (· (exact fun _ _ _ _ _ _ => rfl)))
          refine SerF.nil fun V w1 hS => ?_
          obtain ⟨p, hp, hp0, hp1, hx⟩ := hS.done rfl rfl
          have hR1 := hR.next hS.1
          simp only [hp]
        · go_wp2
          go_roundw
          case rel => exact ⟨0 + 1, by omega, by go_num, miss_succ Hr.out hm, hR1⟩
          case measure => simp [intOf]
        · have hN := instr2_hit (by decide) Hr.out hm
          rw [H.out] at hN
          simp only [Prod.mk.injEq] at hN
          obtain ⟨rfl, rfl, rfl, rfl⟩ := hN
          have hB' := hR1.b
          have c0 := hx.c 0 _ rfl
          have c1 := hx.c 1 _ rfl
          have c2 := hx.c 2 _ rfl
          have r0 := hR1.r.c 0 _ rfl
          have r1 := hR1.r.c 1 _ rfl
          have r2 := hR1.r.c 2 _ rfl
          have f0 := hR1.r.f 0 (by decide)
          have f1 := hR1.r.f 1 (by decide)
          have f2 := hR1.r.f 2 (by decide)
          go_wp2
          ((try simp only [Exit.inBlock, Exit.then]); refine bodyPost_ret_by (v := (.tuple #[.agg #[.int .i64 _, .string _, .int .i64 _], .bool true])) ((results_cell_tmp rfl _ _ _).trans (by go_simp; try rfl)) rfl ⟨rfl, ?_⟩)
          (repeat (first | with_reducible assumption | exact (Below.refl _ _).alloc (Nat.le_refl _) _ | exact Below.refl _ _ | (refine Below.drew ?_) | (refine Below.setCell ?_ ?_ _; rotate_left; first | exact Nat.le_refl _ | (dsimp only; omega)) | (refine Below.alloc ?_ ?_ _; rotate_left; first | exact Nat.le_refl _ | (simp; omega) | simp)))
      · rcases hr : ruleV op K s n K2 s2 n2 1 with ⟨x, u, y, c⟩
        have Hr := Lib.hid hr
        clear hr
        have t0 := hR.t.c 1 _ rfl
        cases c
        all_goals
          go_wp2
          refine wp_region_serF (S := SBox wr 15 16 [.int .i64 0, .string { data := #[] }, .int .i64 0] [.int .i64 x, .string u, .int .i64 y]) rfl (by kernel_rfl) (SBox.start (Below.refl _ _).drew) ?_
          clear t0
          ((refine SerF.step (a1 := ?_) (fun _ => rfl) (fun V L w1 K' Q' hS hi hR hd hK => ?_) ?_ ?_ ?_; rotate_left); (· ((skip); go_simp; (try simp only [Act.put, List.setIfInBounds_toArray, List.set_cons_zero, List.set_cons_succ]); exact hK.out _ (hS.keep rfl rfl))); (· (intro V; rfl)); (· (exact fun _ _ _ _ _ _ => rfl)))
          repeat ((refine SerF.step (a1 := ?_) (fun _ => rfl) (fun V L w1 K' Q' hS hi hR hd hK => ?_) ?_ ?_ ?_; rotate_left); (· ((obtain ⟨g0, g1, a0, a1, a2, b0, b1, b2⟩ := G _ hS.1); go_simp; (try simp only [Act.put, List.setIfInBounds_toArray, List.set_cons_zero, List.set_cons_succ]); exact hK.out _ (hS.keep rfl rfl))); (· (intro V; rfl)); (· (exact fun _ _ _ _ _ _ => rfl)))
          ((refine SerF.step (a1 := ?_) (fun _ => rfl) (fun V L w1 K' Q' hS hi hR hd hK => ?_) ?_ ?_ ?_; rotate_left); (· (go_simp; go_wp2_with ((go_at_call 18; refine (rule1_val op K s n K2 s2 n2 _ _ _ _ Hr.out _).mono ?_; rintro e w2 ⟨rfl, hb⟩)); (try simp only [Act.put, List.setIfInBounds_toArray, List.set_cons_zero, List.set_cons_succ]); exact hK.out _ (hS.call hb rfl rfl))); (· (intro V; rfl)); (· (exact fun _ _ _ _ _ _ => rfl)))
          ((refine SerF.step (a1 := ?_) (fun _ => rfl) (fun V L w1 K' Q' hS hi hR hd hK => ?_) ?_ ?_ ?_; rotate_left); (· ((skip); go_simp; (try simp only [Act.put, List.setIfInBounds_toArray, List.set_cons_zero, List.set_cons_succ]); exact hK.out _ (hS.keep rfl rfl))); (· (intro V; rfl)); (· (exact fun _ _ _ _ _ _ => rfl)))
          ((refine SerF.step (a1 := ?_) (fun _ => rfl) (fun V L w1 K' Q' hS hi hR hd hK => ?_) ?_ ?_ ?_; rotate_left); (· ((skip); go_simp; (try simp only [Act.put, List.setIfInBounds_toArray, List.set_cons_zero, List.set_cons_succ]); exact hK.out _ (hS.keep rfl rfl))); (· (intro V; rfl)); (· (exact fun _ _ _ _ _ _ => rfl)))
          ((refine SerF.step (a1 := ?_) (fun _ => rfl) (fun V L w1 K' Q' hS hi hR hd hK => ?_) ?_ ?_ ?_; rotate_left); (· ((skip); go_simp; (try simp only [Act.put, List.setIfInBounds_toArray, List.set_cons_zero, List.set_cons_succ]); exact hK.out _ (hS.keep rfl rfl))); (· (intro V; rfl)); (· (exact fun _ _ _ _ _ _ => rfl)))
          (refine SerF.free (fun _ => rfl) (fun V L w1 K' Q' hS hi hR hd hK => ?_) ?_; (· (go_simp; (try simp only [Act.put, List.setIfInBounds_toArray, List.set_cons_zero, List.set_cons_succ]); exact hK.out _ _ rfl (hS.made rfl hi _))); (try simp only [Act.put, List.setIfInBounds_toArray, List.set_cons_zero, List.set_cons_succ]))
          refine SerF.val undef (fun _ => rfl) (fun V L w1 K' Q' hS hi hR' hd hK => ?_) ?_
          · have hl := hd.out 15 (by kernel_rfl)
            obtain ⟨p, hp, hp0, hp1, hx⟩ := hS.at hl hi
            have c0 := hx.c 0 _ rfl
            have c1 := hx.c 1 _ rfl
            have c2 := hx.c 2 _ rfl
            have f0 := hx.f 0 (by decide)
            have f1 := hx.f 1 (by decide)
            have f2 := hx.f 2 (by decide)
            go_simp
            refine hK.out _ _ (by simp only [hp]; rfl) (hS.fill hl hp hp0 (by simpa using hp1) (((hS.1.setCell hp0 _).setCell hp0 _).setCell hp0 _) (hx.set3 _ _ _) rfl)
          simp only [Act.put]
          ((refine SerF.step (a1 := ?_) (fun _ => rfl) (fun V L w1 K' Q' hS hi hR hd hK => ?_) ?_ ?_ ?_; rotate_left); (· ((skip); go_simp; (try simp only [Act.put, List.setIfInBounds_toArray, List.set_cons_zero, List.set_cons_succ]); exact hK.out _ (hS.keep rfl rfl))); (· (intro V; rfl)); (· (exact fun _ _ _ _ _ _ => rfl)))
          refine SerF.nil fun V w1 hS => ?_
          obtain ⟨p, hp, hp0, hp1, hx⟩ := hS.done rfl rfl
          have hR1 := hR.next hS.1
          simp only [hp]
        · go_wp2
          go_roundw
          case rel => exact ⟨1 + 1, by omega, by go_num, miss_succ Hr.out hm, hR1⟩
          case measure => simp [intOf]
        · have hN := instr2_hit (by decide) Hr.out hm
          rw [H.out] at hN
          simp only [Prod.mk.injEq] at hN
          obtain ⟨rfl, rfl, rfl, rfl⟩ := hN
          have hB' := hR1.b
          have c0 := hx.c 0 _ rfl
          have c1 := hx.c 1 _ rfl
          have c2 := hx.c 2 _ rfl
          have r0 := hR1.r.c 0 _ rfl
          have r1 := hR1.r.c 1 _ rfl
          have r2 := hR1.r.c 2 _ rfl
          have f0 := hR1.r.f 0 (by decide)
          have f1 := hR1.r.f 1 (by decide)
          have f2 := hR1.r.f 2 (by decide)
          go_wp2
          ((try simp only [Exit.inBlock, Exit.then]); refine bodyPost_ret_by (v := (.tuple #[.agg #[.int .i64 _, .string _, .int .i64 _], .bool true])) ((results_cell_tmp rfl _ _ _).trans (by go_simp; try rfl)) rfl ⟨rfl, ?_⟩)
          (repeat (first | with_reducible assumption | exact (Below.refl _ _).alloc (Nat.le_refl _) _ | exact Below.refl _ _ | (refine Below.drew ?_) | (refine Below.setCell ?_ ?_ _; rotate_left; first | exact Nat.le_refl _ | (dsimp only; omega)) | (refine Below.alloc ?_ ?_ _; rotate_left; first | exact Nat.le_refl _ | (simp; omega) | simp)))
      · rcases hr : ruleV op K s n K2 s2 n2 2 with ⟨x, u, y, c⟩
        have Hr := Lib.hid hr
        clear hr
        have t0 := hR.t.c 2 _ rfl
        cases c
        all_goals
          go_wp2
          refine wp_region_serF (S := SBox wr 15 16 [.int .i64 0, .string { data := #[] }, .int .i64 0] [.int .i64 x, .string u, .int .i64 y]) rfl (by kernel_rfl) (SBox.start (Below.refl _ _).drew) ?_
          clear t0
          ((refine SerF.step (a1 := ?_) (fun _ => rfl) (fun V L w1 K' Q' hS hi hR hd hK => ?_) ?_ ?_ ?_; rotate_left); (· ((skip); go_simp; (try simp only [Act.put, List.setIfInBounds_toArray, List.set_cons_zero, List.set_cons_succ]); exact hK.out _ (hS.keep rfl rfl))); (· (intro V; rfl)); (· (exact fun _ _ _ _ _ _ => rfl)))
          repeat ((refine SerF.step (a1 := ?_) (fun _ => rfl) (fun V L w1 K' Q' hS hi hR hd hK => ?_) ?_ ?_ ?_; rotate_left); (· ((obtain ⟨g0, g1, a0, a1, a2, b0, b1, b2⟩ := G _ hS.1); go_simp; (try simp only [Act.put, List.setIfInBounds_toArray, List.set_cons_zero, List.set_cons_succ]); exact hK.out _ (hS.keep rfl rfl))); (· (intro V; rfl)); (· (exact fun _ _ _ _ _ _ => rfl)))
          ((refine SerF.step (a1 := ?_) (fun _ => rfl) (fun V L w1 K' Q' hS hi hR hd hK => ?_) ?_ ?_ ?_; rotate_left); (· (go_simp; go_wp2_with ((go_at_call 19; refine (rule2_val op K s n K2 s2 n2 _ _ _ _ Hr.out _).mono ?_; rintro e w2 ⟨rfl, hb⟩)); (try simp only [Act.put, List.setIfInBounds_toArray, List.set_cons_zero, List.set_cons_succ]); exact hK.out _ (hS.call hb rfl rfl))); (· (intro V; rfl)); (· (exact fun _ _ _ _ _ _ => rfl)))
          ((refine SerF.step (a1 := ?_) (fun _ => rfl) (fun V L w1 K' Q' hS hi hR hd hK => ?_) ?_ ?_ ?_; rotate_left); (· ((skip); go_simp; (try simp only [Act.put, List.setIfInBounds_toArray, List.set_cons_zero, List.set_cons_succ]); exact hK.out _ (hS.keep rfl rfl))); (· (intro V; rfl)); (· (exact fun _ _ _ _ _ _ => rfl)))
          ((refine SerF.step (a1 := ?_) (fun _ => rfl) (fun V L w1 K' Q' hS hi hR hd hK => ?_) ?_ ?_ ?_; rotate_left); (· ((skip); go_simp; (try simp only [Act.put, List.setIfInBounds_toArray, List.set_cons_zero, List.set_cons_succ]); exact hK.out _ (hS.keep rfl rfl))); (· (intro V; rfl)); (· (exact fun _ _ _ _ _ _ => rfl)))
          ((refine SerF.step (a1 := ?_) (fun _ => rfl) (fun V L w1 K' Q' hS hi hR hd hK => ?_) ?_ ?_ ?_; rotate_left); (· ((skip); go_simp; (try simp only [Act.put, List.setIfInBounds_toArray, List.set_cons_zero, List.set_cons_succ]); exact hK.out _ (hS.keep rfl rfl))); (· (intro V; rfl)); (· (exact fun _ _ _ _ _ _ => rfl)))
          (refine SerF.free (fun _ => rfl) (fun V L w1 K' Q' hS hi hR hd hK => ?_) ?_; (· (go_simp; (try simp only [Act.put, List.setIfInBounds_toArray, List.set_cons_zero, List.set_cons_succ]); exact hK.out _ _ rfl (hS.made rfl hi _))); (try simp only [Act.put, List.setIfInBounds_toArray, List.set_cons_zero, List.set_cons_succ]))
          refine SerF.val undef (fun _ => rfl) (fun V L w1 K' Q' hS hi hR' hd hK => ?_) ?_
          · have hl := hd.out 15 (by kernel_rfl)
            obtain ⟨p, hp, hp0, hp1, hx⟩ := hS.at hl hi
            have c0 := hx.c 0 _ rfl
            have c1 := hx.c 1 _ rfl
            have c2 := hx.c 2 _ rfl
            have f0 := hx.f 0 (by decide)
            have f1 := hx.f 1 (by decide)
            have f2 := hx.f 2 (by decide)
            go_simp
            refine hK.out _ _ (by simp only [hp]; rfl) (hS.fill hl hp hp0 (by simpa using hp1) (((hS.1.setCell hp0 _).setCell hp0 _).setCell hp0 _) (hx.set3 _ _ _) rfl)
          simp only [Act.put]
          ((refine SerF.step (a1 := ?_) (fun _ => rfl) (fun V L w1 K' Q' hS hi hR hd hK => ?_) ?_ ?_ ?_; rotate_left); (· ((skip); go_simp; (try simp only [Act.put, List.setIfInBounds_toArray, List.set_cons_zero, List.set_cons_succ]); exact hK.out _ (hS.keep rfl rfl))); (· (intro V; rfl)); (· (exact fun _ _ _ _ _ _ => rfl)))
          refine SerF.nil fun V w1 hS => ?_
          obtain ⟨p, hp, hp0, hp1, hx⟩ := hS.done rfl rfl
          have hR1 := hR.next hS.1
          simp only [hp]
        · go_wp2
          go_roundw
          case rel => exact ⟨2 + 1, by omega, by go_num, miss_succ Hr.out hm, hR1⟩
          case measure => simp [intOf]
        · have hN := instr2_hit (by decide) Hr.out hm
          rw [H.out] at hN
          simp only [Prod.mk.injEq] at hN
          obtain ⟨rfl, rfl, rfl, rfl⟩ := hN
          have hB' := hR1.b
          have c0 := hx.c 0 _ rfl
          have c1 := hx.c 1 _ rfl
          have c2 := hx.c 2 _ rfl
          have r0 := hR1.r.c 0 _ rfl
          have r1 := hR1.r.c 1 _ rfl
          have r2 := hR1.r.c 2 _ rfl
          have f0 := hR1.r.f 0 (by decide)
          have f1 := hR1.r.f 1 (by decide)
          have f2 := hR1.r.f 2 (by decide)
          go_wp2
          ((try simp only [Exit.inBlock, Exit.then]); refine bodyPost_ret_by (v := (.tuple #[.agg #[.int .i64 _, .string _, .int .i64 _], .bool true])) ((results_cell_tmp rfl _ _ _).trans (by go_simp; try rfl)) rfl ⟨rfl, ?_⟩)
          (repeat (first | with_reducible assumption | exact (Below.refl _ _).alloc (Nat.le_refl _) _ | exact Below.refl _ _ | (refine Below.drew ?_) | (refine Below.setCell ?_ ?_ _; rotate_left; first | exact Nat.le_refl _ | (dsimp only; omega)) | (refine Below.alloc ?_ ?_ _; rotate_left; first | exact Nat.le_refl _ | (simp; omega) | simp)))
      · rcases hr : ruleV op K s n K2 s2 n2 3 with ⟨x, u, y, c⟩
        have Hr := Lib.hid hr
        clear hr
        have t0 := hR.t.c 3 _ rfl
        cases c
        all_goals
          go_wp2
          refine wp_region_serF (S := SBox wr 15 16 [.int .i64 0, .string { data := #[] }, .int .i64 0] [.int .i64 x, .string u, .int .i64 y]) rfl (by kernel_rfl) (SBox.start (Below.refl _ _).drew) ?_
          clear t0
          ((refine SerF.step (a1 := ?_) (fun _ => rfl) (fun V L w1 K' Q' hS hi hR hd hK => ?_) ?_ ?_ ?_; rotate_left); (· ((skip); go_simp; (try simp only [Act.put, List.setIfInBounds_toArray, List.set_cons_zero, List.set_cons_succ]); exact hK.out _ (hS.keep rfl rfl))); (· (intro V; rfl)); (· (exact fun _ _ _ _ _ _ => rfl)))
          repeat ((refine SerF.step (a1 := ?_) (fun _ => rfl) (fun V L w1 K' Q' hS hi hR hd hK => ?_) ?_ ?_ ?_; rotate_left); (· ((obtain ⟨g0, g1, a0, a1, a2, b0, b1, b2⟩ := G _ hS.1); go_simp; (try simp only [Act.put, List.setIfInBounds_toArray, List.set_cons_zero, List.set_cons_succ]); exact hK.out _ (hS.keep rfl rfl))); (· (intro V; rfl)); (· (exact fun _ _ _ _ _ _ => rfl)))
          ((refine SerF.step (a1 := ?_) (fun _ => rfl) (fun V L w1 K' Q' hS hi hR hd hK => ?_) ?_ ?_ ?_; rotate_left); (· (go_simp; go_wp2_with ((go_at_call 20; refine (rule3_val op K s n K2 s2 n2 _ _ _ _ Hr.out _).mono ?_; rintro e w2 ⟨rfl, hb⟩)); (try simp only [Act.put, List.setIfInBounds_toArray, List.set_cons_zero, List.set_cons_succ]); exact hK.out _ (hS.call hb rfl rfl))); (· (intro V; rfl)); (· (exact fun _ _ _ _ _ _ => rfl)))
          ((refine SerF.step (a1 := ?_) (fun _ => rfl) (fun V L w1 K' Q' hS hi hR hd hK => ?_) ?_ ?_ ?_; rotate_left); (· ((skip); go_simp; (try simp only [Act.put, List.setIfInBounds_toArray, List.set_cons_zero, List.set_cons_succ]); exact hK.out _ (hS.keep rfl rfl))); (· (intro V; rfl)); (· (exact fun _ _ _ _ _ _ => rfl)))
          ((refine SerF.step (a1 := ?_) (fun _ => rfl) (fun V L w1 K' Q' hS hi hR hd hK => ?_) ?_ ?_ ?_; rotate_left); (· ((skip); go_simp; (try simp only [Act.put, List.setIfInBounds_toArray, List.set_cons_zero, List.set_cons_succ]); exact hK.out _ (hS.keep rfl rfl))); (· (intro V; rfl)); (· (exact fun _ _ _ _ _ _ => rfl)))
          ((refine SerF.step (a1 := ?_) (fun _ => rfl) (fun V L w1 K' Q' hS hi hR hd hK => ?_) ?_ ?_ ?_; rotate_left); (· ((skip); go_simp; (try simp only [Act.put, List.setIfInBounds_toArray, List.set_cons_zero, List.set_cons_succ]); exact hK.out _ (hS.keep rfl rfl))); (· (intro V; rfl)); (· (exact fun _ _ _ _ _ _ => rfl)))
          (refine SerF.free (fun _ => rfl) (fun V L w1 K' Q' hS hi hR hd hK => ?_) ?_; (· (go_simp; (try simp only [Act.put, List.setIfInBounds_toArray, List.set_cons_zero, List.set_cons_succ]); exact hK.out _ _ rfl (hS.made rfl hi _))); (try simp only [Act.put, List.setIfInBounds_toArray, List.set_cons_zero, List.set_cons_succ]))
          refine SerF.val undef (fun _ => rfl) (fun V L w1 K' Q' hS hi hR' hd hK => ?_) ?_
          · have hl := hd.out 15 (by kernel_rfl)
            obtain ⟨p, hp, hp0, hp1, hx⟩ := hS.at hl hi
            have c0 := hx.c 0 _ rfl
            have c1 := hx.c 1 _ rfl
            have c2 := hx.c 2 _ rfl
            have f0 := hx.f 0 (by decide)
            have f1 := hx.f 1 (by decide)
            have f2 := hx.f 2 (by decide)
            go_simp
            refine hK.out _ _ (by simp only [hp]; rfl) (hS.fill hl hp hp0 (by simpa using hp1) (((hS.1.setCell hp0 _).setCell hp0 _).setCell hp0 _) (hx.set3 _ _ _) rfl)
          simp only [Act.put]
          ((refine SerF.step (a1 := ?_) (fun _ => rfl) (fun V L w1 K' Q' hS hi hR hd hK => ?_) ?_ ?_ ?_; rotate_left); (· ((skip); go_simp; (try simp only [Act.put, List.setIfInBounds_toArray, List.set_cons_zero, List.set_cons_succ]); exact hK.out _ (hS.keep rfl rfl))); (· (intro V; rfl)); (· (exact fun _ _ _ _ _ _ => rfl)))
          refine SerF.nil fun V w1 hS => ?_
          obtain ⟨p, hp, hp0, hp1, hx⟩ := hS.done rfl rfl
          have hR1 := hR.next hS.1
          simp only [hp]
        · go_wp2
          go_roundw
          case rel => exact ⟨3 + 1, by omega, by go_num, miss_succ Hr.out hm, hR1⟩
          case measure => simp [intOf]
        · have hN := instr2_hit (by decide) Hr.out hm
          rw [H.out] at hN
          simp only [Prod.mk.injEq] at hN
          obtain ⟨rfl, rfl, rfl, rfl⟩ := hN
          have hB' := hR1.b
          have c0 := hx.c 0 _ rfl
          have c1 := hx.c 1 _ rfl
          have c2 := hx.c 2 _ rfl
          have r0 := hR1.r.c 0 _ rfl
          have r1 := hR1.r.c 1 _ rfl
          have r2 := hR1.r.c 2 _ rfl
          have f0 := hR1.r.f 0 (by decide)
          have f1 := hR1.r.f 1 (by decide)
          have f2 := hR1.r.f 2 (by decide)
          go_wp2
          ((try simp only [Exit.inBlock, Exit.then]); refine bodyPost_ret_by (v := (.tuple #[.agg #[.int .i64 _, .string _, .int .i64 _], .bool true])) ((results_cell_tmp rfl _ _ _).trans (by go_simp; try rfl)) rfl ⟨rfl, ?_⟩)
          (repeat (first | with_reducible assumption | exact (Below.refl _ _).alloc (Nat.le_refl _) _ | exact Below.refl _ _ | (refine Below.drew ?_) | (refine Below.setCell ?_ ?_ _; rotate_left; first | exact Nat.le_refl _ | (dsimp only; omega)) | (refine Below.alloc ?_ ?_ _; rotate_left; first | exact Nat.le_refl _ | (simp; omega) | simp)))
      · rcases hr : ruleV op K s n K2 s2 n2 4 with ⟨x, u, y, c⟩
        have Hr := Lib.hid hr
        clear hr
        have t0 := hR.t.c 4 _ rfl
        cases c
        all_goals
          go_wp2
          refine wp_region_serF (S := SBox wr 15 16 [.int .i64 0, .string { data := #[] }, .int .i64 0] [.int .i64 x, .string u, .int .i64 y]) rfl (by kernel_rfl) (SBox.start (Below.refl _ _).drew) ?_
          clear t0
          ((refine SerF.step (a1 := ?_) (fun _ => rfl) (fun V L w1 K' Q' hS hi hR hd hK => ?_) ?_ ?_ ?_; rotate_left); (· ((skip); go_simp; (try simp only [Act.put, List.setIfInBounds_toArray, List.set_cons_zero, List.set_cons_succ]); exact hK.out _ (hS.keep rfl rfl))); (· (intro V; rfl)); (· (exact fun _ _ _ _ _ _ => rfl)))
          repeat ((refine SerF.step (a1 := ?_) (fun _ => rfl) (fun V L w1 K' Q' hS hi hR hd hK => ?_) ?_ ?_ ?_; rotate_left); (· ((obtain ⟨g0, g1, a0, a1, a2, b0, b1, b2⟩ := G _ hS.1); go_simp; (try simp only [Act.put, List.setIfInBounds_toArray, List.set_cons_zero, List.set_cons_succ]); exact hK.out _ (hS.keep rfl rfl))); (· (intro V; rfl)); (· (exact fun _ _ _ _ _ _ => rfl)))
          ((refine SerF.step (a1 := ?_) (fun _ => rfl) (fun V L w1 K' Q' hS hi hR hd hK => ?_) ?_ ?_ ?_; rotate_left); (· (go_simp; go_wp2_with ((go_at_call 21; refine (rule4_val op K s n K2 s2 n2 _ _ _ _ Hr.out _).mono ?_; rintro e w2 ⟨rfl, hb⟩)); (try simp only [Act.put, List.setIfInBounds_toArray, List.set_cons_zero, List.set_cons_succ]); exact hK.out _ (hS.call hb rfl rfl))); (· (intro V; rfl)); (· (exact fun _ _ _ _ _ _ => rfl)))
          ((refine SerF.step (a1 := ?_) (fun _ => rfl) (fun V L w1 K' Q' hS hi hR hd hK => ?_) ?_ ?_ ?_; rotate_left); (· ((skip); go_simp; (try simp only [Act.put, List.setIfInBounds_toArray, List.set_cons_zero, List.set_cons_succ]); exact hK.out _ (hS.keep rfl rfl))); (· (intro V; rfl)); (· (exact fun _ _ _ _ _ _ => rfl)))
          ((refine SerF.step (a1 := ?_) (fun _ => rfl) (fun V L w1 K' Q' hS hi hR hd hK => ?_) ?_ ?_ ?_; rotate_left); (· ((skip); go_simp; (try simp only [Act.put, List.setIfInBounds_toArray, List.set_cons_zero, List.set_cons_succ]); exact hK.out _ (hS.keep rfl rfl))); (· (intro V; rfl)); (· (exact fun _ _ _ _ _ _ => rfl)))
          ((refine SerF.step (a1 := ?_) (fun _ => rfl) (fun V L w1 K' Q' hS hi hR hd hK => ?_) ?_ ?_ ?_; rotate_left); (· ((skip); go_simp; (try simp only [Act.put, List.setIfInBounds_toArray, List.set_cons_zero, List.set_cons_succ]); exact hK.out _ (hS.keep rfl rfl))); (· (intro V; rfl)); (· (exact fun _ _ _ _ _ _ => rfl)))
          (refine SerF.free (fun _ => rfl) (fun V L w1 K' Q' hS hi hR hd hK => ?_) ?_; (· (go_simp; (try simp only [Act.put, List.setIfInBounds_toArray, List.set_cons_zero, List.set_cons_succ]); exact hK.out _ _ rfl (hS.made rfl hi _))); (try simp only [Act.put, List.setIfInBounds_toArray, List.set_cons_zero, List.set_cons_succ]))
          refine SerF.val undef (fun _ => rfl) (fun V L w1 K' Q' hS hi hR' hd hK => ?_) ?_
          · have hl := hd.out 15 (by kernel_rfl)
            obtain ⟨p, hp, hp0, hp1, hx⟩ := hS.at hl hi
            have c0 := hx.c 0 _ rfl
            have c1 := hx.c 1 _ rfl
            have c2 := hx.c 2 _ rfl
            have f0 := hx.f 0 (by decide)
            have f1 := hx.f 1 (by decide)
            have f2 := hx.f 2 (by decide)
            go_simp
            refine hK.out _ _ (by simp only [hp]; rfl) (hS.fill hl hp hp0 (by simpa using hp1) (((hS.1.setCell hp0 _).setCell hp0 _).setCell hp0 _) (hx.set3 _ _ _) rfl)
          simp only [Act.put]
          ((refine SerF.step (a1 := ?_) (fun _ => rfl) (fun V L w1 K' Q' hS hi hR hd hK => ?_) ?_ ?_ ?_; rotate_left); (· ((skip); go_simp; (try simp only [Act.put, List.setIfInBounds_toArray, List.set_cons_zero, List.set_cons_succ]); exact hK.out _ (hS.keep rfl rfl))); (· (intro V; rfl)); (· (exact fun _ _ _ _ _ _ => rfl)))
          refine SerF.nil fun V w1 hS => ?_
          obtain ⟨p, hp, hp0, hp1, hx⟩ := hS.done rfl rfl
          have hR1 := hR.next hS.1
          simp only [hp]
        · go_wp2
          go_roundw
          case rel => exact ⟨4 + 1, by omega, by go_num, miss_succ Hr.out hm, hR1⟩
          case measure => simp [intOf]
        · have hN := instr2_hit (by decide) Hr.out hm
          rw [H.out] at hN
          simp only [Prod.mk.injEq] at hN
          obtain ⟨rfl, rfl, rfl, rfl⟩ := hN
          have hB' := hR1.b
          have c0 := hx.c 0 _ rfl
          have c1 := hx.c 1 _ rfl
          have c2 := hx.c 2 _ rfl
          have r0 := hR1.r.c 0 _ rfl
          have r1 := hR1.r.c 1 _ rfl
          have r2 := hR1.r.c 2 _ rfl
          have f0 := hR1.r.f 0 (by decide)
          have f1 := hR1.r.f 1 (by decide)
          have f2 := hR1.r.f 2 (by decide)
          go_wp2
          ((try simp only [Exit.inBlock, Exit.then]); refine bodyPost_ret_by (v := (.tuple #[.agg #[.int .i64 _, .string _, .int .i64 _], .bool true])) ((results_cell_tmp rfl _ _ _).trans (by go_simp; try rfl)) rfl ⟨rfl, ?_⟩)
          (repeat (first | with_reducible assumption | exact (Below.refl _ _).alloc (Nat.le_refl _) _ | exact Below.refl _ _ | (refine Below.drew ?_) | (refine Below.setCell ?_ ?_ _; rotate_left; first | exact Nat.le_refl _ | (dsimp only; omega)) | (refine Below.alloc ?_ ?_ _; rotate_left; first | exact Nat.le_refl _ | (simp; omega) | simp)))
end Go.Proofs.Ytiheecgabfcigaa
