/- What is asked of an instruction's types: right, where things are looked up. -/
import Derived.Test.YtjohjpjpfglkkaaDoorRtf
namespace Go.Proofs.YtjohjpjpfglkkaaDoor
open Go.RowKit


set_option maxHeartbeats 8000000 in
set_option maxRecDepth 100000 in
theorem right_26 {w0 wa w : World} (h0 : Below w0.heap.size w0 w) (ha : Below wa.heap.size wa w) {v : Value} {p : Pg} {x : Is} {d : ByteArray} {l : List ByteArray} {u1 u2 u3 u4 v1 v2 v3 t : Value} (hq : ValQ w0 wa v p x d l u1 u2 u3 u4 v1 v2 v3 t) (hop : x.op = 26) {a : Ag} {s : ByteArray} (hxa : x.as[0]? = some a) (hls : l[0]? = some s) :
    Calls Tryd.prog 15 #[v] w fun e w' => e = .returned (.bool (typB d (fieldQ p x a s))) ∧ Below w.heap.size w w' := by
  have hqv := hq
  obtain ⟨rfl, hp, -, -, hl⟩ := hq
  have hls0 := hls
  obtain ⟨q1, m1, rfl, -, n1, hl⟩ := hl
  obtain ⟨la, rfl, d0, -⟩ := hl 0 s hls
  have hl0 : 0 < l.length := (List.getElem?_eq_some_iff.1 hls).1
  replace d0 : wa.cell? la = some (.string s) := d0
  have hl0I : (0 : Int) < (l.length : Int) := by omega
  clear hls hl
  generalize l.length = nl at *
  have hb1 := (Below.refl w.heap.size w).alloc (Nat.le_refl _) (.cells #[.bool p.ssa, u1, u2, u3, u4, .int .i64 x.op, .string x.d, .string x.n, v1, v2, v3, .string d, .slice (some la) nl m1] 52)
  have hB := Box.alloc w [.bool p.ssa, u1, u2, u3, u4, .int .i64 x.op, .string x.d, .string x.n, v1, v2, v3, .string d, .slice (some la) nl m1] 52
  have hlw := hB.lt
  have g14 : decide (x.op ≤ 14) = false := decide_eq_false (by omega)
  have g18 : decide (x.op ≤ 18) = false := decide_eq_false (by omega)
  have g21 : decide (x.op ≤ 21) = false := decide_eq_false (by omega)
  have e22 : (x.op == 22) = false := by simp only [beq_eq_false_iff_ne]; omega
  have e23 : (x.op == 23) = false := by simp only [beq_eq_false_iff_ne]; omega
  have e24 : (x.op == 24) = false := by simp only [beq_eq_false_iff_ne]; omega
  have e25 : (x.op == 25) = false := by simp only [beq_eq_false_iff_ne]; omega
  have e26 : (x.op == 26) = true := by simp only [beq_iff_eq]; exact hop
  clear hop
  have hF := field_val (bthen' h0 hb1) (bthen' ha hb1) hqv hxa hls0
  obtain ⟨R, hR⟩ : ∃ R : Bool, R = typB d (fieldQ p x a s) := ⟨_, rfl⟩
  rw [← hR]
  clear hqv hxa hls0
  go_enter Tryd.func15, Tryd.ntmps15
  go_wp2_with fail
  refine hF.mono ?_
  rintro e w1 ⟨hb2, ho⟩
  have hb := bthen' hb1 hb2
  have hB1 := hB.nx hb2
  clear hF hB hlw hb2
  cases hr : fieldQ p x a s with
  | none =>
    rw [hr] at ho hR
    obtain rfl : e = _ := ho
    have hR2 : Hid (R = false) := Lib.hid hR
    have hb3 := hb.alloc hb.size (.cells #[.string ⟨#[]⟩, .string ⟨#[]⟩] 60)
    clear hr hR hB1 hb1 hb
    go_wp2_with fail
    go_ret
    exact ⟨by rw [hR2.out]; rfl, hb3⟩
  | some k =>
    rw [hr] at ho hR
    obtain ⟨rfl, hz1, hz2⟩ := ho
    replace hR : R = decide (k.t = d) := hR
    have hb3 := hb.alloc hb.size (.cells #[.string k.n, .string k.t] 60)
    have hlw := hB1.lt
    have b11 := (hB1.al (.cells #[.string k.n, .string k.t] 60)).c 11 _ rfl
    clear hr hB1 hb1 hb
    by_cases e1 : k.t = d
    · have g := seq_t e1
      have hR2 : Hid (R = true) := Lib.hid (by rw [hR, decide_eq_true e1])
      clear hR e1
      go_wp2_with fail
      go_ret
      exact ⟨by rw [hR2.out]; rfl, hb3⟩
    · have g := seq_f e1
      have hR2 : Hid (R = false) := Lib.hid (by rw [hR, decide_eq_false e1])
      clear hR e1
      go_wp2_with fail
      go_ret
      exact ⟨by rw [hR2.out]; rfl, hb3⟩

set_option maxHeartbeats 8000000 in
set_option maxRecDepth 100000 in
theorem right_27 {w0 wa w : World} (h0 : Below w0.heap.size w0 w) (ha : Below wa.heap.size wa w) {v : Value} {p : Pg} {x : Is} {d : ByteArray} {l : List ByteArray} {u1 u2 u3 u4 v1 v2 v3 t : Value} (hq : ValQ w0 wa v p x d l u1 u2 u3 u4 v1 v2 v3 t) (hop : x.op = 27) {a : Ag} {s s2 : ByteArray} (hxa : x.as[0]? = some a) (hls : l[0]? = some s) (hls2 : l[1]? = some s2) :
    Calls Tryd.prog 15 #[v] w fun e w' => e = .returned (.bool (putB s2 (fieldQ p x a s))) ∧ Below w.heap.size w w' := by
  have hqv := hq
  obtain ⟨rfl, hp, -, -, hl⟩ := hq
  have hls0 := hls
  obtain ⟨q1, m1, rfl, -, n1, hl⟩ := hl
  obtain ⟨la, rfl, d0, -⟩ := hl 0 s hls
  have hl0 : 0 < l.length := (List.getElem?_eq_some_iff.1 hls).1
  replace d0 : wa.cell? la = some (.string s) := d0
  have hl0I : (0 : Int) < (l.length : Int) := by omega
  obtain ⟨lx, ex, d1, -⟩ := hl 1 s2 hls2
  obtain rfl := Option.some.inj ex
  replace d1 : wa.cell? { block := la.block, off := la.off + 1 } = some (.string s2) := d1
  have hl1 : 1 < l.length := (List.getElem?_eq_some_iff.1 hls2).1
  have hl1I : (1 : Int) < (l.length : Int) := by omega
  clear hls hl hls2
  generalize l.length = nl at *
  have hb1 := (Below.refl w.heap.size w).alloc (Nat.le_refl _) (.cells #[.bool p.ssa, u1, u2, u3, u4, .int .i64 x.op, .string x.d, .string x.n, v1, v2, v3, .string d, .slice (some la) nl m1] 52)
  have hB := Box.alloc w [.bool p.ssa, u1, u2, u3, u4, .int .i64 x.op, .string x.d, .string x.n, v1, v2, v3, .string d, .slice (some la) nl m1] 52
  have hlw := hB.lt
  have g14 : decide (x.op ≤ 14) = false := decide_eq_false (by omega)
  have g18 : decide (x.op ≤ 18) = false := decide_eq_false (by omega)
  have g21 : decide (x.op ≤ 21) = false := decide_eq_false (by omega)
  have e22 : (x.op == 22) = false := by simp only [beq_eq_false_iff_ne]; omega
  have e23 : (x.op == 23) = false := by simp only [beq_eq_false_iff_ne]; omega
  have e24 : (x.op == 24) = false := by simp only [beq_eq_false_iff_ne]; omega
  have e25 : (x.op == 25) = false := by simp only [beq_eq_false_iff_ne]; omega
  have e26 : (x.op == 26) = false := by simp only [beq_eq_false_iff_ne]; omega
  have e27 : (x.op == 27) = true := by simp only [beq_iff_eq]; exact hop
  clear hop
  have hF := field_val (bthen' h0 hb1) (bthen' ha hb1) hqv hxa hls0
  obtain ⟨R, hR⟩ : ∃ R : Bool, R = putB s2 (fieldQ p x a s) := ⟨_, rfl⟩
  rw [← hR]
  clear hqv hxa hls0
  go_enter Tryd.func15, Tryd.ntmps15
  go_wp2_with fail
  refine hF.mono ?_
  rintro e w1 ⟨hb2, ho⟩
  have hb := bthen' hb1 hb2
  have hB1 := hB.nx hb2
  clear hF hB hlw hb2
  cases hr : fieldQ p x a s with
  | none =>
    rw [hr] at ho hR
    obtain rfl : e = _ := ho
    have hR2 : Hid (R = false) := Lib.hid hR
    have hb3 := hb.alloc hb.size (.cells #[.string ⟨#[]⟩, .string ⟨#[]⟩] 60)
    clear hr hR hB1 hb1 hb
    go_wp2_with fail
    refine wp_region_ser (S := fun _ v => Below w.heap.size w v) rfl (by kernel_rfl) hb3.drew ?_
    iterate 11 (first | ((refine Ser.step (a1 := ?_) rfl (fun L w1 K' Q' hS hi hR hd hK => ?_) ?_ ?_; rotate_left); (· ((skip); go_simp; (try simp only [Act.put, List.setIfInBounds_toArray, List.set_cons_zero, List.set_cons_succ]); exact hK.out _ (hS))); (· rfl)) | (refine Ser.skip rfl (fun L w1 hS hi => (hS)) ?_; (try simp only [Act.put, List.setIfInBounds_toArray, List.set_cons_zero, List.set_cons_succ])))
    refine Ser.nil fun w4 hS4 => ?_
    clear hb3
    go_wp2
    go_ret
    exact ⟨by rw [hR2.out]; rfl, hS4⟩
  | some k =>
    rw [hr] at ho hR
    obtain ⟨rfl, hz1, hz2⟩ := ho
    replace hR : R = fitsB s2 k.t := hR
    have hb3 := hb.alloc hb.size (.cells #[.string k.n, .string k.t] 60)
    have hlw := hB1.lt
    have hB2 := hB1.al (.cells #[.string k.n, .string k.t] 60)
    have hV := Box.alloc w1 [.string k.n, .string k.t] 60
    have d1 := keepc (bthen' ha hb3) d1
    have hG := fun v => fits_val s2 k.t v
    rw [← hR] at hG
    clear hr hB1 hb1 hb hR
    go_wp2_with fail
    refine wp_region_ser (S := fun _ v => v = (w1.alloc (.cells #[.string k.n, .string k.t] 60)).drew) rfl (by kernel_rfl) rfl ?_
    iterate 8 (first | ((refine Ser.step (a1 := ?_) rfl (fun L w1 K' Q' hS hi hR hd hK => ?_) ?_ ?_; rotate_left); (· ((subst hS); go_simp; (try simp only [Act.put, List.setIfInBounds_toArray, List.set_cons_zero, List.set_cons_succ]); exact hK.out _ (rfl))); (· rfl)) | ((refine Ser.step (a1 := ?_) rfl (fun L w1 K' Q' hS hi hR hd hK => ?_) ?_ ?_; rotate_left); (· ((subst hS; have b12 := hB2.c 12 _ rfl; have r1 := hV.c 1 _ rfl); go_simp; (try simp only [Act.put, List.setIfInBounds_toArray, List.set_cons_zero, List.set_cons_succ]); exact hK.out _ (rfl))); (· rfl)))
    ((refine Ser.step (a1 := ?_) rfl (fun L w1 K' Q' hS hi hR hd hK => ?_) ?_ ?_; rotate_left); (· (go_simp; go_wp2_with ((refine (hG _).mono ?_; rintro e w2 ⟨rfl, rfl⟩)); (try simp only [Act.put, List.setIfInBounds_toArray, List.set_cons_zero, List.set_cons_succ]); exact hK.out _ (rfl))); (· rfl))
    iterate 2 (((refine Ser.step (a1 := ?_) rfl (fun L w1 K' Q' hS hi hR hd hK => ?_) ?_ ?_; rotate_left); (· ((subst hS); go_simp; (try simp only [Act.put, List.setIfInBounds_toArray, List.set_cons_zero, List.set_cons_succ]); exact hK.out _ (rfl))); (· rfl)))
    refine Ser.nil fun w4 hS4 => ?_
    subst hS4
    have hb4 := hb3.drew
    clear hb3 hB2
    go_wp2
    go_ret
    exact ⟨rfl, hb4⟩

set_option maxHeartbeats 8000000 in
set_option maxRecDepth 100000 in
theorem right_28 {w0 wa w : World} (_ : Below w0.heap.size w0 w) (ha : Below wa.heap.size wa w) {v : Value} {p : Pg} {x : Is} {d : ByteArray} {l : List ByteArray} {u1 u2 u3 u4 v1 v2 v3 t : Value} (hq : ValQ w0 wa v p x d l u1 u2 u3 u4 v1 v2 v3 t) (hop : x.op = 28) {s s2 : ByteArray} (hls : l[0]? = some s) (hls2 : l[1]? = some s2) :
    Calls Tryd.prog 15 #[v] w fun e w' => e = .returned (.bool (decide (d = intS) && sameB s s2)) ∧ Below w.heap.size w w' := by
  have hqv := hq
  obtain ⟨rfl, hp, -, -, hl⟩ := hq
  obtain ⟨q1, m1, rfl, -, n1, hl⟩ := hl
  obtain ⟨la, rfl, d0, -⟩ := hl 0 s hls
  have hl0 : 0 < l.length := (List.getElem?_eq_some_iff.1 hls).1
  replace d0 : wa.cell? la = some (.string s) := d0
  have hl0I : (0 : Int) < (l.length : Int) := by omega
  obtain ⟨lx, ex, d1, -⟩ := hl 1 s2 hls2
  obtain rfl := Option.some.inj ex
  replace d1 : wa.cell? { block := la.block, off := la.off + 1 } = some (.string s2) := d1
  have hl1 : 1 < l.length := (List.getElem?_eq_some_iff.1 hls2).1
  have hl1I : (1 : Int) < (l.length : Int) := by omega
  clear hls hl hls2
  generalize l.length = nl at *
  have hb1 := (Below.refl w.heap.size w).alloc (Nat.le_refl _) (.cells #[.bool p.ssa, u1, u2, u3, u4, .int .i64 x.op, .string x.d, .string x.n, v1, v2, v3, .string d, .slice (some la) nl m1] 52)
  have hB := Box.alloc w [.bool p.ssa, u1, u2, u3, u4, .int .i64 x.op, .string x.d, .string x.n, v1, v2, v3, .string d, .slice (some la) nl m1] 52
  have hlw := hB.lt
  have g14 : decide (x.op ≤ 14) = false := decide_eq_false (by omega)
  have g18 : decide (x.op ≤ 18) = false := decide_eq_false (by omega)
  have g21 : decide (x.op ≤ 21) = false := decide_eq_false (by omega)
  have e22 : (x.op == 22) = false := by simp only [beq_eq_false_iff_ne]; omega
  have e23 : (x.op == 23) = false := by simp only [beq_eq_false_iff_ne]; omega
  have e24 : (x.op == 24) = false := by simp only [beq_eq_false_iff_ne]; omega
  have e25 : (x.op == 25) = false := by simp only [beq_eq_false_iff_ne]; omega
  have e26 : (x.op == 26) = false := by simp only [beq_eq_false_iff_ne]; omega
  have e27 : (x.op == 27) = false := by simp only [beq_eq_false_iff_ne]; omega
  have e28 : (x.op == 28) = true := by simp only [beq_iff_eq]; exact hop
  clear hop
  have hF := fun v => same_val s s2 v
  have d0 := keepc (bthen' ha hb1) d0
  have d1 := keepc (bthen' ha hb1) d1
  generalize hW : w.alloc (.cells #[.bool p.ssa, u1, u2, u3, u4, .int .i64 x.op, .string x.d, .string x.n, v1, v2, v3, .string d, .slice (some la) nl m1] 52) = W at *
  have b5 := hB.c 5 _ rfl
  clear hqv hp
  by_cases e1 : d = intS
  · have g := lit_t (l := [105, 110, 116]) e1
    rw [decide_eq_true e1, Bool.true_and]
    generalize sameB s s2 = R at *
    clear e1
    go_enter Tryd.func15, Tryd.ntmps15
    go_wp2_with fail
    refine wp_region_ser (S := fun _ v => v = W.drew) rfl (by kernel_rfl) rfl ?_
    iterate 12 (first | ((refine Ser.step (a1 := ?_) rfl (fun L w1 K' Q' hS hi hR hd hK => ?_) ?_ ?_; rotate_left); (· ((subst hS); go_simp; (try simp only [Act.put, List.setIfInBounds_toArray, List.set_cons_zero, List.set_cons_succ]); exact hK.out _ (rfl))); (· rfl)) | ((refine Ser.step (a1 := ?_) rfl (fun L w1 K' Q' hS hi hR hd hK => ?_) ?_ ?_; rotate_left); (· ((subst hS; have b11 := hB.c 11 _ rfl; have b12 := hB.c 12 _ rfl); go_simp; (try simp only [Act.put, List.setIfInBounds_toArray, List.set_cons_zero, List.set_cons_succ]); exact hK.out _ (rfl))); (· rfl)))
    ((refine Ser.step (a1 := ?_) rfl (fun L w1 K' Q' hS hi hR hd hK => ?_) ?_ ?_; rotate_left); (· (go_simp; go_wp2_with ((refine (hF _).mono ?_; rintro e w2 ⟨rfl, rfl⟩)); (try simp only [Act.put, List.setIfInBounds_toArray, List.set_cons_zero, List.set_cons_succ]); exact hK.out _ (rfl))); (· rfl))
    iterate 2 (((refine Ser.step (a1 := ?_) rfl (fun L w1 K' Q' hS hi hR hd hK => ?_) ?_ ?_; rotate_left); (· ((subst hS); go_simp; (try simp only [Act.put, List.setIfInBounds_toArray, List.set_cons_zero, List.set_cons_succ]); exact hK.out _ (rfl))); (· rfl)))
    refine Ser.nil fun w4 hS4 => ?_
    subst hS4
    have hb4 := hb1.drew
    clear hb1 hF hB
    go_wp2
    go_ret
    exact ⟨rfl, hb4⟩
  · have g := lit_f (l := [105, 110, 116]) e1
    rw [decide_eq_false e1, Bool.false_and]
    clear e1 hF
    go_enter Tryd.func15, Tryd.ntmps15
    go_wp2_with fail
    refine wp_region_ser (S := fun _ v => v = W.drew) rfl (by kernel_rfl) rfl ?_
    iterate 15 (first | ((refine Ser.step (a1 := ?_) rfl (fun L w1 K' Q' hS hi hR hd hK => ?_) ?_ ?_; rotate_left); (· ((subst hS); go_simp; (try simp only [Act.put, List.setIfInBounds_toArray, List.set_cons_zero, List.set_cons_succ]); exact hK.out _ (rfl))); (· rfl)) | ((refine Ser.step (a1 := ?_) rfl (fun L w1 K' Q' hS hi hR hd hK => ?_) ?_ ?_; rotate_left); (· ((subst hS; have b11 := hB.c 11 _ rfl); go_simp; (try simp only [Act.put, List.setIfInBounds_toArray, List.set_cons_zero, List.set_cons_succ]); exact hK.out _ (rfl))); (· rfl)) | (refine Ser.skip rfl (fun L w1 hS hi => (hS)) ?_; (try simp only [Act.put, List.setIfInBounds_toArray, List.set_cons_zero, List.set_cons_succ])))
    refine Ser.nil fun w4 hS4 => ?_
    subst hS4
    have hb4 := hb1.drew
    clear hb1 hB
    go_wp2
    go_ret
    exact ⟨rfl, hb4⟩

set_option maxHeartbeats 8000000 in
set_option maxRecDepth 100000 in
theorem right_31 {w0 wa w : World} (h0 : Below w0.heap.size w0 w) (ha : Below wa.heap.size wa w) {v : Value} {p : Pg} {x : Is} {d : ByteArray} {l : List ByteArray} {u1 u2 u3 u4 v1 v2 v3 t : Value} (hq : ValQ w0 wa v p x d l u1 u2 u3 u4 v1 v2 v3 t) (hop : x.op = 31) :
    Calls Tryd.prog 15 #[v] w fun e w' => e = .returned (.bool (callB p x d l)) ∧ Below w.heap.size w w' := by
  have hqv := hq
  obtain ⟨rfl, hp, -, -, hl⟩ := hq
  have hb1 := (Below.refl w.heap.size w).alloc (Nat.le_refl _) (.cells #[.bool p.ssa, u1, u2, u3, u4, .int .i64 x.op, .string x.d, .string x.n, v1, v2, v3, .string d, t] 52)
  have hB := Box.alloc w [.bool p.ssa, u1, u2, u3, u4, .int .i64 x.op, .string x.d, .string x.n, v1, v2, v3, .string d, t] 52
  have hlw := hB.lt
  have g14 : decide (x.op ≤ 14) = false := decide_eq_false (by omega)
  have g18 : decide (x.op ≤ 18) = false := decide_eq_false (by omega)
  have g21 : decide (x.op ≤ 21) = false := decide_eq_false (by omega)
  have e22 : (x.op == 22) = false := by simp only [beq_eq_false_iff_ne]; omega
  have e23 : (x.op == 23) = false := by simp only [beq_eq_false_iff_ne]; omega
  have e24 : (x.op == 24) = false := by simp only [beq_eq_false_iff_ne]; omega
  have e25 : (x.op == 25) = false := by simp only [beq_eq_false_iff_ne]; omega
  have e26 : (x.op == 26) = false := by simp only [beq_eq_false_iff_ne]; omega
  have e27 : (x.op == 27) = false := by simp only [beq_eq_false_iff_ne]; omega
  have e28 : (x.op == 28) = false := by simp only [beq_eq_false_iff_ne]; omega
  have e29 : (x.op == 29) = false := by simp only [beq_eq_false_iff_ne]; omega
  have e30 : (x.op == 30) = false := by simp only [beq_eq_false_iff_ne]; omega
  have e31 : (x.op == 31) = true := by simp only [beq_iff_eq]; exact hop
  clear hop
  have hlv := hl
  obtain ⟨q1, m1, rfl⟩ := hl.slice
  have hC := lookF_val (bthen' h0 hb1) hp x.n
  obtain ⟨R, hR⟩ : ∃ R : Bool, R = callB p x d l := ⟨_, rfl⟩
  rw [← hR]
  unfold callB at hR
  clear hqv hp hl
  go_enter Tryd.func15, Tryd.ntmps15
  go_wp2_with fail
  refine hC.mono ?_
  rintro e w1 ⟨hb2, ho⟩
  have hb := bthen' hb1 hb2
  have hB1 := hB.nx hb2
  clear hC hb2 hB
  cases hr : findB Fn.n x.n p.fs with
  | none =>
    rw [hr] at ho hR
    obtain rfl : e = _ := ho
    have hR2 : Hid (R = false) := Lib.hid hR
    have hb3 := hb.alloc hb.size (.cells #[.string ⟨#[]⟩, .string ⟨#[]⟩, .slice none 0 0, .slice none 0 0, .slice none 0 0] 30)
    clear hr hR hb hb1 hB1
    go_wp2_with fail
    go_ret
    exact ⟨by rw [hR2.out]; rfl, hb3⟩
  | some k =>
    rw [hr] at ho hR
    obtain ⟨v5, g1, g2, g3, rfl, rfl, hz, hkp, hkv, hkb⟩ := ho
    obtain ⟨pg, kg, rfl⟩ := hkv.slice
    obtain ⟨ph, kh, rfl⟩ := hkb.slice
    clear hkv hkb
    obtain ⟨pf, kf, rfl⟩ := hkp.slice
    replace hR : R = (fitB l k.ps && decide (d = k.r)) := hR
    have hb3 := hb.alloc hb.size (.cells #[.string k.n, .string k.r, .slice pf k.ps.length kf, .slice pg k.vs.length kg, .slice ph k.bs.length kh] 30)
    have hlw := hB1.lt
    have hB2 := hB1.al (.cells #[.string k.n, .string k.r, .slice pf k.ps.length kf, .slice pg k.vs.length kg, .slice ph k.bs.length kh] 30)
    have hV := Box.alloc w1 [.string k.n, .string k.r, .slice pf k.ps.length kf, .slice pg k.vs.length kg, .slice ph k.bs.length kh] 30
    have hF := fit_val (bthen' ha hb3) (bthen' h0 hb3) hlv hkp
    have e12 := hB2.c 12 _ rfl
    generalize fitB l k.ps = R1 at *
    clear hr hb hb1 hB1 hlv hkp
    replace hR := Lib.hid hR
    go_wp2_with fail
    refine hF.mono ?_
    rintro e w2 ⟨rfl, hb4⟩
    have hb5 := bthen' hb3 hb4
    have e11 := (hB2.nx hb4).c 11 _ rfl
    have r1 := (hV.nx hb4).c 1 _ rfl
    clear hF hB2 hV hb4 hb3
    replace hR := hR.out
    cases R1
    · have hR2 : Hid (R = false) := Lib.hid hR
      clear hR
      go_wp2_with fail
      go_ret
      exact ⟨by rw [hR2.out]; rfl, hb5⟩
    · rw [Bool.true_and] at hR
      by_cases e1 : d = k.r
      · have g := seq_t e1
        have hR2 : Hid (R = true) := Lib.hid (by rw [hR, decide_eq_true e1])
        clear hR e1
        go_wp2_with fail
        go_ret
        exact ⟨by rw [hR2.out]; rfl, hb5⟩
      · have g := seq_f e1
        have hR2 : Hid (R = false) := Lib.hid (by rw [hR, decide_eq_false e1])
        clear hR e1
        go_wp2_with fail
        go_ret
        exact ⟨by rw [hR2.out]; rfl, hb5⟩

set_option maxHeartbeats 8000000 in
set_option maxRecDepth 100000 in
theorem right_32 {w0 wa w : World} (h0 : Below w0.heap.size w0 w) (ha : Below wa.heap.size wa w) {v : Value} {p : Pg} {x : Is} {d : ByteArray} {l : List ByteArray} {u1 u2 u3 u4 v1 v2 v3 t : Value} (hq : ValQ w0 wa v p x d l u1 u2 u3 u4 v1 v2 v3 t) (hop : x.op = 32) :
    Calls Tryd.prog 15 #[v] w fun e w' => e = .returned (.bool (extB p x d l)) ∧ Below w.heap.size w w' := by
  have hqv := hq
  obtain ⟨rfl, hp, -, -, hl⟩ := hq
  have hb1 := (Below.refl w.heap.size w).alloc (Nat.le_refl _) (.cells #[.bool p.ssa, u1, u2, u3, u4, .int .i64 x.op, .string x.d, .string x.n, v1, v2, v3, .string d, t] 52)
  have hB := Box.alloc w [.bool p.ssa, u1, u2, u3, u4, .int .i64 x.op, .string x.d, .string x.n, v1, v2, v3, .string d, t] 52
  have hlw := hB.lt
  have g14 : decide (x.op ≤ 14) = false := decide_eq_false (by omega)
  have g18 : decide (x.op ≤ 18) = false := decide_eq_false (by omega)
  have g21 : decide (x.op ≤ 21) = false := decide_eq_false (by omega)
  have e22 : (x.op == 22) = false := by simp only [beq_eq_false_iff_ne]; omega
  have e23 : (x.op == 23) = false := by simp only [beq_eq_false_iff_ne]; omega
  have e24 : (x.op == 24) = false := by simp only [beq_eq_false_iff_ne]; omega
  have e25 : (x.op == 25) = false := by simp only [beq_eq_false_iff_ne]; omega
  have e26 : (x.op == 26) = false := by simp only [beq_eq_false_iff_ne]; omega
  have e27 : (x.op == 27) = false := by simp only [beq_eq_false_iff_ne]; omega
  have e28 : (x.op == 28) = false := by simp only [beq_eq_false_iff_ne]; omega
  have e29 : (x.op == 29) = false := by simp only [beq_eq_false_iff_ne]; omega
  have e30 : (x.op == 30) = false := by simp only [beq_eq_false_iff_ne]; omega
  have e31 : (x.op == 31) = false := by simp only [beq_eq_false_iff_ne]; omega
  have e32 : (x.op == 32) = true := by simp only [beq_iff_eq]; exact hop
  clear hop
  obtain ⟨q1, m1, rfl⟩ := hl.slice
  have hC := lookX_val (bthen' h0 hb1) hp x.n
  obtain ⟨R, hR⟩ : ∃ R : Bool, R = extB p x d l := ⟨_, rfl⟩
  rw [← hR]
  unfold extB at hR
  clear hp hl
  go_enter Tryd.func15, Tryd.ntmps15
  go_wp2_with fail
  refine hC.mono ?_
  rintro e w1 ⟨hb2, ho⟩
  have hb := bthen' hb1 hb2
  have hB1 := hB.nx hb2
  clear hC hb2 hB
  cases hr : findB Ex.n x.n p.xs with
  | none =>
    rw [hr] at ho hR
    obtain rfl : e = _ := ho
    have hR2 : Hid (R = false) := Lib.hid hR
    have hb3 := hb.alloc hb.size (.cells #[.string ⟨#[]⟩, .int .i64 0] 77)
    clear hr hR hb hb1 hB1 hqv
    go_wp2_with fail
    go_ret
    exact ⟨by rw [hR2.out]; rfl, hb3⟩
  | some k =>
    rw [hr] at ho hR
    obtain ⟨rfl, hz⟩ := ho
    replace hR : R = (decide ((l.length : Int) = k.k) && allB l intS d intS) := hR
    have hb3 := hb.alloc hb.size (.cells #[.string k.n, .int .i64 k.k] 77)
    have hlw := hB1.lt
    have hB2 := hB1.al (.cells #[.string k.n, .int .i64 k.k] 77)
    have hF := all_val (bthen' ha hb3) hqv intS intS
    clear hr hb hb1 hB1 hqv
    by_cases e1 : (l.length : Int) = k.k
    · have g : ((l.length : Int) == k.k) = true := by simpa using e1
      rw [decide_eq_true e1, Bool.true_and] at hR
      rw [← hR] at hF
      clear hR e1
      generalize l.length = nl at *
      have e0 := hB2.c 0 _ rfl
      have e1 := hB2.c 1 _ rfl
      have e2 := hB2.c 2 _ rfl
      have e3 := hB2.c 3 _ rfl
      have e4 := hB2.c 4 _ rfl
      have e5 := hB2.c 5 _ rfl
      have e6 := hB2.c 6 _ rfl
      have e7 := hB2.c 7 _ rfl
      have e8 := hB2.c 8 _ rfl
      have e9 := hB2.c 9 _ rfl
      have e10 := hB2.c 10 _ rfl
      have e11 := hB2.c 11 _ rfl
      have e12 := hB2.c 12 _ rfl
      clear hB2
      go_wp2_with fail
      refine hF.mono ?_
      rintro e w2 ⟨rfl, hb4⟩
      have hb5 := bthen' hb3 hb4
      clear hF hb4 hb3 e0 e1 e2 e3 e4 e5 e6 e7 e8 e9 e10 e11 e12
      go_wp2_with fail
      go_ret
      exact ⟨rfl, hb5⟩
    · have g : ((l.length : Int) == k.k) = false := by simpa using e1
      have hR2 : Hid (R = false) := Lib.hid (by rw [hR, decide_eq_false e1]; rfl)
      have e12 := hB2.c 12 _ rfl
      clear hR e1 hF hB2
      generalize l.length = nl at *
      go_wp2_with fail
      go_ret
      exact ⟨by rw [hR2.out]; rfl, hb3⟩
end Go.Proofs.YtjohjpjpfglkkaaDoor
