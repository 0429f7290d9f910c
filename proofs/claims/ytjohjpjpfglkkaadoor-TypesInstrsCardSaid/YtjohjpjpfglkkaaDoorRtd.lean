/- What is asked of an instruction's types: global. -/
import Derived.Test.YtjohjpjpfglkkaaDoorRtc
namespace Go.Proofs.YtjohjpjpfglkkaaDoor
open Go.RowKit

set_option maxHeartbeats 8000000 in
theorem global_val {w0 wa w : World} (h0 : Below w0.heap.size w0 w) (ha : Below wa.heap.size wa w) {v : Value} {p : Pg} {x : Is} {d : ByteArray} {l : List ByteArray} {u1 u2 u3 u4 v1 v2 v3 t : Value} (hq : ValQ w0 wa v p x d l u1 u2 u3 u4 v1 v2 v3 t) {s : ByteArray} (hls : x.op ≠ 29 → l[0]? = some s) :
    Calls Tryd.prog 45 #[v] w fun e w' => e = .returned (.bool (globB p x d s)) ∧ Below w.heap.size w w' := by
  obtain ⟨rfl, hp, -, -, hl⟩ := hq
  obtain ⟨q1, m1, rfl, -, n1, hl⟩ := hl
  have hb1 := (Below.refl w.heap.size w).alloc (Nat.le_refl _) (.cells #[.bool p.ssa, u1, u2, u3, u4, .int .i64 x.op, .string x.d, .string x.n, v1, v2, v3, .string d, .slice q1 l.length m1] 52)
  have hB := Box.alloc w [.bool p.ssa, u1, u2, u3, u4, .int .i64 x.op, .string x.d, .string x.n, v1, v2, v3, .string d, .slice q1 l.length m1] 52
  have hC := lookV_val (bthen' h0 hb1) hp x.n
  obtain ⟨R, hR⟩ : ∃ R : Bool, R = globB p x d s := ⟨_, rfl⟩
  rw [← hR]
  unfold globB at hR
  clear hp
  go_enter Tryd.func45, Tryd.ntmps45
  go_wp2_with fail
  refine hC.mono ?_
  rintro e w1 ⟨hb2, ho⟩
  have hb := bthen' hb1 hb2
  have hB := hB.nx hb2
  clear hC hb1 hb2
  by_cases e1 : x.op = 29
  · have g1 : ((x.op : Int) == 29) = true := by simpa using e1
    cases hr : findB Vr.n x.n p.gs with
    | none =>
      rw [hr] at ho hR
      obtain rfl : e = _ := ho
      have hR2 : Hid (R = false) := Lib.hid hR
      have hb3 := hb.alloc hb.size (.cells #[.string ⟨#[]⟩, .string ⟨#[]⟩] 60)
      have hB2 := hB.al (.cells #[.string ⟨#[]⟩, .string ⟨#[]⟩] 60)
      have b5 := hB2.c 5 _ rfl
      clear hr hR hB hb hB2 e1 hl hls
      go_wp2_with fail
      go_ret
      exact ⟨by rw [hR2.out]; rfl, hb3⟩
    | some k =>
      rw [hr] at ho hR
      obtain ⟨rfl, hz1, hz2⟩ := ho
      replace hR : R = if x.op = 29 then decide (k.t = d) else fitsB s k.t := hR
      rw [if_pos e1] at hR
      have hb3 := hb.alloc hb.size (.cells #[.string k.n, .string k.t] 60)
      have hB2 := hB.al (.cells #[.string k.n, .string k.t] 60)
      have b5 := hB2.c 5 _ rfl
      have b11 := hB2.c 11 _ rfl
      have hl1 := hB.lt
      by_cases e2 : k.t = d
      · have g := seq_t e2
        have hR2 : Hid (R = true) := Lib.hid (by rw [hR, decide_eq_true e2])
        clear hr hR hB hb hB2 e1 e2 hl hls
        go_wp2_with fail
        go_ret
        exact ⟨by rw [hR2.out]; rfl, hb3⟩
      · have g := seq_f e2
        have hR2 : Hid (R = false) := Lib.hid (by rw [hR, decide_eq_false e2])
        clear hr hR hB hb hB2 e1 e2 hl hls
        go_wp2_with fail
        go_ret
        exact ⟨by rw [hR2.out]; rfl, hb3⟩
  · have g1 : ((x.op : Int) == 29) = false := by simpa using e1
    have hls := hls e1
    obtain ⟨la, rfl, d0, -⟩ := hl 0 s hls
    have hl0 : 0 < l.length := (List.getElem?_eq_some_iff.1 hls).1
    replace d0 : wa.cell? la = some (.string s) := d0
    have hl0I : (0 : Int) < (l.length : Int) := by omega
    generalize l.length = nl at *
    clear hls hl
    cases hr : findB Vr.n x.n p.gs with
    | none =>
      rw [hr] at ho hR
      obtain rfl : e = _ := ho
      have hR2 : Hid (R = false) := Lib.hid hR
      have hb3 := hb.alloc hb.size (.cells #[.string ⟨#[]⟩, .string ⟨#[]⟩] 60)
      have hB2 := hB.al (.cells #[.string ⟨#[]⟩, .string ⟨#[]⟩] 60)
      have b5 := hB2.c 5 _ rfl
      clear hr hR hB hb e1
      go_wp2_with fail
      refine wp_region_ser (S := fun _ v => Below w.heap.size w v) rfl (by kernel_rfl) hb3.drew ?_
      iterate 11 (first | ((refine Ser.step (a1 := ?_) rfl (fun L w1 K' Q' hS hi hR hd hK => ?_) ?_ ?_; rotate_left); (· ((skip); go_simp; (try simp only [Act.put, List.setIfInBounds_toArray, List.set_cons_zero, List.set_cons_succ]); exact hK.out _ (hS))); (· rfl)) | (refine Ser.skip rfl (fun L w1 hS hi => (hS)) ?_; (try simp only [Act.put, List.setIfInBounds_toArray, List.set_cons_zero, List.set_cons_succ])))
      refine Ser.nil fun w4 hS4 => ?_
      clear hb3 b5 hB2
      go_wp2
      go_ret
      exact ⟨by rw [hR2.out]; rfl, hS4⟩
    | some k =>
      rw [hr] at ho hR
      obtain ⟨rfl, hz1, hz2⟩ := ho
      replace hR : R = if x.op = 29 then decide (k.t = d) else fitsB s k.t := hR
      rw [if_neg e1] at hR
      have hb3 := hb.alloc hb.size (.cells #[.string k.n, .string k.t] 60)
      have hB2 := hB.al (.cells #[.string k.n, .string k.t] 60)
      have hV := Box.alloc w1 [.string k.n, .string k.t] 60
      have d0 := keepc (bthen' ha hb3) d0
      have b5 := hB2.c 5 _ rfl
      have hF := fun v => fits_val s k.t v
      rw [← hR] at hF
      clear hr hR hB hb e1
      go_wp2_with fail
      refine wp_region_ser (S := fun _ v => v = (w1.alloc (.cells #[.string k.n, .string k.t] 60)).drew) rfl (by kernel_rfl) rfl ?_
      iterate 8 (first | ((refine Ser.step (a1 := ?_) rfl (fun L w1 K' Q' hS hi hR hd hK => ?_) ?_ ?_; rotate_left); (· ((subst hS); go_simp; (try simp only [Act.put, List.setIfInBounds_toArray, List.set_cons_zero, List.set_cons_succ]); exact hK.out _ (rfl))); (· rfl)) | ((refine Ser.step (a1 := ?_) rfl (fun L w1 K' Q' hS hi hR hd hK => ?_) ?_ ?_; rotate_left); (· ((subst hS; have b12 := hB2.c 12 _ rfl; have r1 := hV.c 1 _ rfl); go_simp; (try simp only [Act.put, List.setIfInBounds_toArray, List.set_cons_zero, List.set_cons_succ]); exact hK.out _ (rfl))); (· rfl)))
      ((refine Ser.step (a1 := ?_) rfl (fun L w1 K' Q' hS hi hR hd hK => ?_) ?_ ?_; rotate_left); (· (go_simp; go_wp2_with ((refine (hF _).mono ?_; rintro e w2 ⟨rfl, rfl⟩)); (try simp only [Act.put, List.setIfInBounds_toArray, List.set_cons_zero, List.set_cons_succ]); exact hK.out _ (rfl))); (· rfl))
      iterate 2 (((refine Ser.step (a1 := ?_) rfl (fun L w1 K' Q' hS hi hR hd hK => ?_) ?_ ?_; rotate_left); (· ((subst hS); go_simp; (try simp only [Act.put, List.setIfInBounds_toArray, List.set_cons_zero, List.set_cons_succ]); exact hK.out _ (rfl))); (· rfl)))
      refine Ser.nil fun w4 hS4 => ?_
      subst hS4
      have hb4 := hb3.drew
      clear hb3 b5 hB2
      go_wp2
      go_ret
      exact ⟨rfl, hb4⟩
end Go.Proofs.YtjohjpjpfglkkaaDoor
