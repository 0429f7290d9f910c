/- What is asked of an instruction's types: right, where more is done. -/
import Derived.Test.YtjohjpjpfglkkaaDoorRte
namespace Go.Proofs.YtjohjpjpfglkkaaDoor
open Go.RowKit


set_option maxHeartbeats 8000000 in
set_option maxRecDepth 100000 in
theorem right_24 {w0 wa w : World} (_ : Below w0.heap.size w0 w) (ha : Below wa.heap.size wa w) {v : Value} {p : Pg} {x : Is} {d : ByteArray} {l : List ByteArray} {u1 u2 u3 u4 v1 v2 v3 t : Value} (hq : ValQ w0 wa v p x d l u1 u2 u3 u4 v1 v2 v3 t) (hop : x.op = 24) {s : ByteArray} (hls : l[0]? = some s) :
    Calls Tryd.prog 15 #[v] w fun e w' => e = .returned (.bool (fitsB s d)) ∧ Below w.heap.size w w' := by
  have hqv := hq
  obtain ⟨rfl, hp, -, -, hl⟩ := hq
  obtain ⟨q1, m1, rfl, -, n1, hl⟩ := hl
  obtain ⟨la, rfl, d0, -⟩ := hl 0 s hls
  have hl0 : 0 < l.length := (List.getElem?_eq_some_iff.1 hls).1
  replace d0 : wa.cell? la = some (.string s) := d0
  have hl0I : (0 : Int) < (l.length : Int) := by omega
  clear hls hl
  generalize l.length = nl at *
  have hb1 := (Below.refl w.heap.size w).alloc (Nat.le_refl _) (.cells #[.bool p.ssa, u1, u2, u3, u4, .int .i64 x.op, .string x.d, .string x.n, v1, v2, v3, .string d, .slice (some la) nl m1] 52)
  have hB := Box.alloc w [.bool p.ssa, u1, u2, u3, u4, .int .i64 x.op, .string x.d, .string x.n, v1, v2, v3, .string d, .slice (some la) nl m1] 52
  have hlw := hB.lt
  have g14 : decide (x.op ≤ 14) = false := decide_eq_false (by omega)
  have g18 : decide (x.op ≤ 18) = false := decide_eq_false (by omega)
  have g21 : decide (x.op ≤ 21) = false := decide_eq_false (by omega)
  have e22 : (x.op == 22) = false := by simp only [beq_eq_false_iff_ne]; omega
  have e23 : (x.op == 23) = false := by simp only [beq_eq_false_iff_ne]; omega
  have e24 : (x.op == 24) = true := by simp only [beq_iff_eq]; exact hop
  clear hop
  have hF := fun v => fits_val s d v
  generalize fitsB s d = R at *
  have d0 := keepc (bthen' ha hb1) d0
  generalize hW : w.alloc (.cells #[.bool p.ssa, u1, u2, u3, u4, .int .i64 x.op, .string x.d, .string x.n, v1, v2, v3, .string d, .slice (some la) nl m1] 52) = W at *
  have b5 := hB.c 5 _ rfl
  clear hqv hp
  go_enter Tryd.func15, Tryd.ntmps15
  go_wp2_with fail
  refine wp_region_ser (S := fun _ v => v = W.drew) rfl (by kernel_rfl) rfl ?_
  iterate 6 (first | ((refine Ser.step (a1 := ?_) rfl (fun L w1 K' Q' hS hi hR hd hK => ?_) ?_ ?_; rotate_left); (· ((subst hS); go_simp; (try simp only [Act.put, List.setIfInBounds_toArray, List.set_cons_zero, List.set_cons_succ]); exact hK.out _ (rfl))); (· rfl)) | ((refine Ser.step (a1 := ?_) rfl (fun L w1 K' Q' hS hi hR hd hK => ?_) ?_ ?_; rotate_left); (· ((subst hS; have b11 := hB.c 11 _ rfl; have b12 := hB.c 12 _ rfl); go_simp; (try simp only [Act.put, List.setIfInBounds_toArray, List.set_cons_zero, List.set_cons_succ]); exact hK.out _ (rfl))); (· rfl)))
  ((refine Ser.step (a1 := ?_) rfl (fun L w1 K' Q' hS hi hR hd hK => ?_) ?_ ?_; rotate_left); (· (go_simp; go_wp2_with ((refine (hF _).mono ?_; rintro e w2 ⟨rfl, rfl⟩)); (try simp only [Act.put, List.setIfInBounds_toArray, List.set_cons_zero, List.set_cons_succ]); exact hK.out _ (rfl))); (· rfl))
  ((refine Ser.step (a1 := ?_) rfl (fun L w1 K' Q' hS hi hR hd hK => ?_) ?_ ?_; rotate_left); (· ((subst hS); go_simp; (try simp only [Act.put, List.setIfInBounds_toArray, List.set_cons_zero, List.set_cons_succ]); exact hK.out _ (rfl))); (· rfl))
  refine Ser.nil fun w4 hS4 => ?_
  subst hS4
  have hb4 := hb1.drew
  clear hb1 hF hB
  go_wp2
  go_ret
  exact ⟨rfl, hb4⟩

set_option maxHeartbeats 8000000 in
set_option maxRecDepth 100000 in
theorem right_33 {w0 wa w : World} (_ : Below w0.heap.size w0 w) (ha : Below wa.heap.size wa w) {v : Value} {p : Pg} {x : Is} {d : ByteArray} {l : List ByteArray} {u1 u2 u3 u4 v1 v2 v3 t : Value} (hq : ValQ w0 wa v p x d l u1 u2 u3 u4 v1 v2 v3 t) (hop : x.op = 33) {s : ByteArray} (hls : l[0]? = some s) :
    Calls Tryd.prog 15 #[v] w fun e w' => e = .returned (.bool (!isRf s)) ∧ Below w.heap.size w w' := by
  have hqv := hq
  obtain ⟨rfl, hp, -, -, hl⟩ := hq
  obtain ⟨q1, m1, rfl, -, n1, hl⟩ := hl
  obtain ⟨la, rfl, d0, -⟩ := hl 0 s hls
  have hl0 : 0 < l.length := (List.getElem?_eq_some_iff.1 hls).1
  replace d0 : wa.cell? la = some (.string s) := d0
  have hl0I : (0 : Int) < (l.length : Int) := by omega
  clear hls hl
  generalize l.length = nl at *
  have hb1 := (Below.refl w.heap.size w).alloc (Nat.le_refl _) (.cells #[.bool p.ssa, u1, u2, u3, u4, .int .i64 x.op, .string x.d, .string x.n, v1, v2, v3, .string d, .slice (some la) nl m1] 52)
  have hB := Box.alloc w [.bool p.ssa, u1, u2, u3, u4, .int .i64 x.op, .string x.d, .string x.n, v1, v2, v3, .string d, .slice (some la) nl m1] 52
  have hlw := hB.lt
  have g14 : decide (x.op ≤ 14) = false := decide_eq_false (by omega)
  have g18 : decide (x.op ≤ 18) = false := decide_eq_false (by omega)
  have g21 : decide (x.op ≤ 21) = false := decide_eq_false (by omega)
  have e22 : (x.op == 22) = false := by simp only [beq_eq_false_iff_ne]; omega
  have e23 : (x.op == 23) = false := by simp only [beq_eq_false_iff_ne]; omega
  have e24 : (x.op == 24) = false := by simp only [beq_eq_false_iff_ne]; omega
  have e25 : (x.op == 25) = false := by simp only [beq_eq_false_iff_ne]; omega
  have e26 : (x.op == 26) = false := by simp only [beq_eq_false_iff_ne]; omega
  have e27 : (x.op == 27) = false := by simp only [beq_eq_false_iff_ne]; omega
  have e28 : (x.op == 28) = false := by simp only [beq_eq_false_iff_ne]; omega
  have e29 : (x.op == 29) = false := by simp only [beq_eq_false_iff_ne]; omega
  have e30 : (x.op == 30) = false := by simp only [beq_eq_false_iff_ne]; omega
  have e31 : (x.op == 31) = false := by simp only [beq_eq_false_iff_ne]; omega
  have e32 : (x.op == 32) = false := by simp only [beq_eq_false_iff_ne]; omega
  have e33 : (x.op == 33) = true := by simp only [beq_iff_eq]; exact hop
  clear hop
  have hF := fun v => ref_val s v
  generalize isRf s = R at *
  have d0 := keepc (bthen' ha hb1) d0
  clear hqv hp hB
  go_enter Tryd.func15, Tryd.ntmps15
  go_wp2_with fail
  refine (hF _).mono ?_
  rintro e w2 ⟨rfl, rfl⟩
  clear hF
  go_wp2_with fail
  go_ret
  exact ⟨rfl, hb1⟩

set_option maxHeartbeats 8000000 in
set_option maxRecDepth 100000 in
theorem right_34 {w0 wa w : World} (_ : Below w0.heap.size w0 w) (_ : Below wa.heap.size wa w) {v : Value} {p : Pg} {x : Is} {d : ByteArray} {l : List ByteArray} {u1 u2 u3 u4 v1 v2 v3 t : Value} (hq : ValQ w0 wa v p x d l u1 u2 u3 u4 v1 v2 v3 t) (hop : 33 < x.op) :
    Calls Tryd.prog 15 #[v] w fun e w' => e = .returned (.bool (true)) ∧ Below w.heap.size w w' := by
  have hqv := hq
  obtain ⟨rfl, hp, -, -, hl⟩ := hq
  have hb1 := (Below.refl w.heap.size w).alloc (Nat.le_refl _) (.cells #[.bool p.ssa, u1, u2, u3, u4, .int .i64 x.op, .string x.d, .string x.n, v1, v2, v3, .string d, t] 52)
  have hB := Box.alloc w [.bool p.ssa, u1, u2, u3, u4, .int .i64 x.op, .string x.d, .string x.n, v1, v2, v3, .string d, t] 52
  have hlw := hB.lt
  have g14 : decide (x.op ≤ 14) = false := decide_eq_false (by omega)
  have g18 : decide (x.op ≤ 18) = false := decide_eq_false (by omega)
  have g21 : decide (x.op ≤ 21) = false := decide_eq_false (by omega)
  have e22 : (x.op == 22) = false := by simp only [beq_eq_false_iff_ne]; omega
  have e23 : (x.op == 23) = false := by simp only [beq_eq_false_iff_ne]; omega
  have e24 : (x.op == 24) = false := by simp only [beq_eq_false_iff_ne]; omega
  have e25 : (x.op == 25) = false := by simp only [beq_eq_false_iff_ne]; omega
  have e26 : (x.op == 26) = false := by simp only [beq_eq_false_iff_ne]; omega
  have e27 : (x.op == 27) = false := by simp only [beq_eq_false_iff_ne]; omega
  have e28 : (x.op == 28) = false := by simp only [beq_eq_false_iff_ne]; omega
  have e29 : (x.op == 29) = false := by simp only [beq_eq_false_iff_ne]; omega
  have e30 : (x.op == 30) = false := by simp only [beq_eq_false_iff_ne]; omega
  have e31 : (x.op == 31) = false := by simp only [beq_eq_false_iff_ne]; omega
  have e32 : (x.op == 32) = false := by simp only [beq_eq_false_iff_ne]; omega
  have e33 : (x.op == 33) = false := by simp only [beq_eq_false_iff_ne]; omega
  clear hop
  clear hqv hp hB hl
  go_enter Tryd.func15, Tryd.ntmps15
  go_wp2_with fail
  go_ret
  exact ⟨rfl, hb1⟩
end Go.Proofs.YtjohjpjpfglkkaaDoor
