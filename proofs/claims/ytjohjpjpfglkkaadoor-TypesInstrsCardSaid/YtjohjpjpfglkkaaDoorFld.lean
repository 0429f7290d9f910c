/- Fields and globals. -/
import Derived.Test.YtjohjpjpfglkkaaDoorVar
namespace Go.Proofs.YtjohjpjpfglkkaaDoor
open Go.RowKit

theorem row_nil {α : Type} {E : World → Addr → α → Prop} {sz : Nat} {w : World} : Row E sz w (.slice none 0 0) [] := ⟨none, 0, rfl, fun _ => ⟨rfl, rfl⟩, Nat.zero_le _, fun i x h => by cases h⟩
theorem fieldOf_yes {p : Pg} {c x : ByteArray} {k : Cl} (h : findB Cl.n c p.cs = some k) : fieldOf p c x = findB Vr.n x k.fs := by simp only [fieldOf, h]
theorem fieldOf_no {p : Pg} {c x : ByteArray} (h : findB Cl.n c p.cs = none) : fieldOf p c x = none := by simp only [fieldOf, h]
set_option maxHeartbeats 4000000 in
theorem fld_val {w0 w : World} (h0 : Below w0.heap.size w0 w) {p : Pg} {v u1 u2 u3 u4 : Value} (hp : ValP w0 v p u1 u2 u3 u4) (c x : ByteArray) :
    Calls Tryd.prog 57 #[v, .string c, .string x] w fun e w' => Below w.heap.size w w' ∧ OutV w0 (fieldOf p c x) e := by
  have hpv := hp
  obtain ⟨rfl, hc, hg, hx, hf⟩ := hp
  obtain ⟨p1, k1, rfl⟩ := hc.slice
  obtain ⟨p2, k2, rfl⟩ := hg.slice
  obtain ⟨p3, k3, rfl⟩ := hx.slice
  obtain ⟨p4, k4, rfl⟩ := hf.slice
  clear hc hg hx hf
  have hb1 := (Below.refl w.heap.size w).alloc (Nat.le_refl _) (.cells #[.bool p.ssa, .slice p1 p.cs.length k1, .slice p2 p.gs.length k2, .slice p3 p.xs.length k3, .slice p4 p.fs.length k4] 27)
  have hb2 := hb1.alloc hb1.size (.cells #[.string ⟨#[]⟩, .string ⟨#[]⟩] 60)
  have hB := Box.alloc (w.alloc (.cells #[.bool p.ssa, .slice p1 p.cs.length k1, .slice p2 p.gs.length k2, .slice p3 p.xs.length k3, .slice p4 p.fs.length k4] 27)) [.string ⟨#[]⟩, .string ⟨#[]⟩] 60
  have hs : (w.alloc (.cells #[.bool p.ssa, .slice p1 p.cs.length k1, .slice p2 p.gs.length k2, .slice p3 p.xs.length k3, .slice p4 p.fs.length k4] 27)).heap.size = w.heap.size + 1 := by simp
  rw [hs] at hB
  have hC := lookC_val (bthen' h0 hb2) hpv c
  have hw1 : w.heap.size ≤ w.heap.size + 1 := Nat.le_succ _
  clear hb1 hs hpv
  obtain ⟨R, hR⟩ : ∃ R, R = fieldOf p c x := ⟨_, rfl⟩
  rw [← hR]
  go_enter Tryd.func57, Tryd.ntmps57
  go_wp2_with fail
  refine hC.mono ?_
  rintro e w1 ⟨hb3, ho⟩
  have hb13 := bthen' hb2 hb3
  have hB1 := hB.nx hb3
  have hl1 := hB1.lt
  clear hC hb2 hb3 hB
  cases hr : findB Cl.n c p.cs with
  | none =>
    rw [hr] at ho
    obtain rfl : e = _ := ho
    rw [fieldOf_no hr] at hR
    subst hR
    clear hr
    cases hcase : decide (0 = 0)
    case true =>
      first
        | (exact absurd hcase (by decide))
        | (have b0 := hB1.c 0 _ rfl
           have b1 := hB1.c 1 _ rfl
           have g0 := hB1.f 0 (by simp)
           have g1 := hB1.f 1 (by simp)
           have hb6 := (hb13.setCell (p := ⟨w.heap.size + 1, 0, none⟩) hw1 (.string ⟨#[]⟩)).setCell (p := ⟨w.heap.size + 1, 1, none⟩) hw1 (.string ⟨#[]⟩)
           have hb6 := hb6.alloc hb6.size (.cells #[.string ⟨#[]⟩, .slice none 0 0] 67)
           clear hb13 hB1 hcase
           go_wp2_with fail
           ((try simp only [Exit.inBlock, Exit.then]); refine bodyPost_ret_by (v := (.tuple #[.agg #[.string ⟨#[]⟩, .string ⟨#[]⟩], .bool false])) ((results_cell_tmp rfl _ _ _).trans (by go_simp; try rfl)) rfl ?_)
           exact ⟨hb6, rfl⟩)
    case false =>
      first
        | (exact absurd hcase (by decide))
        | (have hb4 := hb13.alloc hb13.size (.cells #[.string ⟨#[]⟩, .slice none 0 0] 67)
           have hB2 := hB1.al (.cells #[.string ⟨#[]⟩, .slice none 0 0] 67)
           have hD := findV_val (bthen' h0 hb4) (row_nil (E := AtV) (sz := 2) (w := w0)) x
           clear hb13 hB1 hcase
           go_wp2_with fail
           refine hD.mono ?_
           rintro e w2 ⟨hb5, ho⟩
           obtain rfl : e = _ := ho
           have hb15 := bthen' hb4 hb5
           have hB3 := hB2.nx hb5
           have b0 := hB3.c 0 _ rfl
           have b1 := hB3.c 1 _ rfl
           have g0 := hB3.f 0 (by simp)
           have g1 := hB3.f 1 (by simp)
           have hb6 := (hb15.setCell (p := ⟨w.heap.size + 1, 0, none⟩) hw1 (.string ⟨#[]⟩)).setCell (p := ⟨w.heap.size + 1, 1, none⟩) hw1 (.string ⟨#[]⟩)
           clear hD hb4 hb5 hb15 hB2 hB3
           go_wp2_with fail
           ((try simp only [Exit.inBlock, Exit.then]); refine bodyPost_ret_by (v := (.tuple #[.agg #[.string ⟨#[]⟩, .string ⟨#[]⟩], .bool false])) ((results_cell_tmp rfl _ _ _).trans (by go_simp; try rfl)) rfl ?_)
           exact ⟨hb6, rfl⟩)
  | some k =>
    rw [hr] at ho
    obtain ⟨v1, uf, rfl, rfl, hz, hkf⟩ := ho
    obtain ⟨pf, kf, rfl⟩ := hkf.slice
    rw [fieldOf_yes hr] at hR
    clear hr
    have hb4 := hb13.alloc hb13.size (.cells #[.string k.n, .slice pf k.fs.length kf] 67)
    have hB2 := hB1.al (.cells #[.string k.n, .slice pf k.fs.length kf] 67)
    have hD := findV_val (bthen' h0 hb4) hkf x
    clear hb13 hB1 hkf
    go_wp2_with fail
    refine hD.mono ?_
    rintro e w2 ⟨hb5, ho⟩
    have hb15 := bthen' hb4 hb5
    have hB3 := hB2.nx hb5
    have b0 := hB3.c 0 _ rfl
    have b1 := hB3.c 1 _ rfl
    have g0 := hB3.f 0 (by simp)
    have g1 := hB3.f 1 (by simp)
    rw [← hR] at ho
    clear hD hb4 hb5 hB2 hB3 hR
    cases R with
    | none =>
      obtain rfl : e = _ := ho
      have hb6 := (hb15.setCell (p := ⟨w.heap.size + 1, 0, none⟩) hw1 (.string ⟨#[]⟩)).setCell (p := ⟨w.heap.size + 1, 1, none⟩) hw1 (.string ⟨#[]⟩)
      clear hb15
      go_wp2_with fail
      ((try simp only [Exit.inBlock, Exit.then]); refine bodyPost_ret_by (v := (.tuple #[.agg #[.string ⟨#[]⟩, .string ⟨#[]⟩], .bool false])) ((results_cell_tmp rfl _ _ _).trans (by go_simp; try rfl)) rfl ?_)
      exact ⟨hb6, rfl⟩
    | some y =>
      obtain ⟨rfl, hz1, hz2⟩ := ho
      have hb6 := (hb15.setCell (p := ⟨w.heap.size + 1, 0, none⟩) hw1 (.string y.n)).setCell (p := ⟨w.heap.size + 1, 1, none⟩) hw1 (.string y.t)
      clear hb15
      go_wp2_with fail
      ((try simp only [Exit.inBlock, Exit.then]); refine bodyPost_ret_by (v := (.tuple #[.agg #[.string y.n, .string y.t], .bool true])) ((results_cell_tmp rfl _ _ _).trans (by go_simp; try rfl)) rfl ?_)
      exact ⟨hb6, rfl, hz1, hz2⟩
set_option maxHeartbeats 4000000 in
theorem rfld_val {w0 w : World} (h0 : Below w0.heap.size w0 w) {p : Pg} {v u1 u2 u3 u4 : Value} (hp : ValP w0 v p u1 u2 u3 u4) (c x : ByteArray) :
    Calls Tryd.prog 22 #[v, .string c, .string x] w fun e w' => Below w.heap.size w w' ∧ OutV w0 (fieldOf p c x) e := by
  have hpv := hp
  obtain ⟨rfl, hc, hg, hx, hf⟩ := hp
  obtain ⟨p1, k1, rfl⟩ := hc.slice
  obtain ⟨p2, k2, rfl⟩ := hg.slice
  obtain ⟨p3, k3, rfl⟩ := hx.slice
  obtain ⟨p4, k4, rfl⟩ := hf.slice
  clear hc hg hx hf
  have hb1 := (Below.refl w.heap.size w).alloc (Nat.le_refl _) (.cells #[.bool p.ssa, .slice p1 p.cs.length k1, .slice p2 p.gs.length k2, .slice p3 p.xs.length k3, .slice p4 p.fs.length k4] 27)
  have hb2 := hb1.alloc hb1.size (.cells #[.string ⟨#[]⟩, .string ⟨#[]⟩] 60)
  have hB := Box.alloc (w.alloc (.cells #[.bool p.ssa, .slice p1 p.cs.length k1, .slice p2 p.gs.length k2, .slice p3 p.xs.length k3, .slice p4 p.fs.length k4] 27)) [.string ⟨#[]⟩, .string ⟨#[]⟩] 60
  have hs : (w.alloc (.cells #[.bool p.ssa, .slice p1 p.cs.length k1, .slice p2 p.gs.length k2, .slice p3 p.xs.length k3, .slice p4 p.fs.length k4] 27)).heap.size = w.heap.size + 1 := by simp
  rw [hs] at hB
  have hC := rlookC_val (bthen' h0 hb2) hpv c
  have hw1 : w.heap.size ≤ w.heap.size + 1 := Nat.le_succ _
  clear hb1 hs hpv
  obtain ⟨R, hR⟩ : ∃ R, R = fieldOf p c x := ⟨_, rfl⟩
  rw [← hR]
  go_enter Tryd.func22, Tryd.ntmps22
  go_wp2_with fail
  refine hC.mono ?_
  rintro e w1 ⟨hb3, ho⟩
  have hb13 := bthen' hb2 hb3
  have hB1 := hB.nx hb3
  have hl1 := hB1.lt
  clear hC hb2 hb3 hB
  cases hr : findB Cl.n c p.cs with
  | none =>
    rw [hr] at ho
    obtain rfl : e = _ := ho
    rw [fieldOf_no hr] at hR
    subst hR
    clear hr
    cases hcase : decide (1 = 0)
    case true =>
      first
        | (exact absurd hcase (by decide))
        | (have b0 := hB1.c 0 _ rfl
           have b1 := hB1.c 1 _ rfl
           have g0 := hB1.f 0 (by simp)
           have g1 := hB1.f 1 (by simp)
           have hb6 := (hb13.setCell (p := ⟨w.heap.size + 1, 0, none⟩) hw1 (.string ⟨#[]⟩)).setCell (p := ⟨w.heap.size + 1, 1, none⟩) hw1 (.string ⟨#[]⟩)
           have hb6 := hb6.alloc hb6.size (.cells #[.string ⟨#[]⟩, .slice none 0 0] 67)
           clear hb13 hB1 hcase
           go_wp2_with fail
           ((try simp only [Exit.inBlock, Exit.then]); refine bodyPost_ret_by (v := (.tuple #[.agg #[.string ⟨#[]⟩, .string ⟨#[]⟩], .bool false])) ((results_cell_tmp rfl _ _ _).trans (by go_simp; try rfl)) rfl ?_)
           exact ⟨hb6, rfl⟩)
    case false =>
      first
        | (exact absurd hcase (by decide))
        | (have hb4 := hb13.alloc hb13.size (.cells #[.string ⟨#[]⟩, .slice none 0 0] 67)
           have hB2 := hB1.al (.cells #[.string ⟨#[]⟩, .slice none 0 0] 67)
           have hD := in_val (bthen' h0 hb4) (row_nil (E := AtV) (sz := 2) (w := w0)) x
           clear hb13 hB1 hcase
           go_wp2_with fail
           refine hD.mono ?_
           rintro e w2 ⟨hb5, ho⟩
           obtain rfl : e = _ := ho
           have hb15 := bthen' hb4 hb5
           have hB3 := hB2.nx hb5
           have b0 := hB3.c 0 _ rfl
           have b1 := hB3.c 1 _ rfl
           have g0 := hB3.f 0 (by simp)
           have g1 := hB3.f 1 (by simp)
           have hb6 := (hb15.setCell (p := ⟨w.heap.size + 1, 0, none⟩) hw1 (.string ⟨#[]⟩)).setCell (p := ⟨w.heap.size + 1, 1, none⟩) hw1 (.string ⟨#[]⟩)
           clear hD hb4 hb5 hb15 hB2 hB3
           go_wp2_with fail
           ((try simp only [Exit.inBlock, Exit.then]); refine bodyPost_ret_by (v := (.tuple #[.agg #[.string ⟨#[]⟩, .string ⟨#[]⟩], .bool false])) ((results_cell_tmp rfl _ _ _).trans (by go_simp; try rfl)) rfl ?_)
           exact ⟨hb6, rfl⟩)
  | some k =>
    rw [hr] at ho
    obtain ⟨v1, uf, rfl, rfl, hz, hkf⟩ := ho
    obtain ⟨pf, kf, rfl⟩ := hkf.slice
    rw [fieldOf_yes hr] at hR
    clear hr
    have hb4 := hb13.alloc hb13.size (.cells #[.string k.n, .slice pf k.fs.length kf] 67)
    have hB2 := hB1.al (.cells #[.string k.n, .slice pf k.fs.length kf] 67)
    have hD := in_val (bthen' h0 hb4) hkf x
    clear hb13 hB1 hkf
    go_wp2_with fail
    refine hD.mono ?_
    rintro e w2 ⟨hb5, ho⟩
    have hb15 := bthen' hb4 hb5
    have hB3 := hB2.nx hb5
    have b0 := hB3.c 0 _ rfl
    have b1 := hB3.c 1 _ rfl
    have g0 := hB3.f 0 (by simp)
    have g1 := hB3.f 1 (by simp)
    rw [← hR] at ho
    clear hD hb4 hb5 hB2 hB3 hR
    cases R with
    | none =>
      obtain rfl : e = _ := ho
      have hb6 := (hb15.setCell (p := ⟨w.heap.size + 1, 0, none⟩) hw1 (.string ⟨#[]⟩)).setCell (p := ⟨w.heap.size + 1, 1, none⟩) hw1 (.string ⟨#[]⟩)
      clear hb15
      go_wp2_with fail
      ((try simp only [Exit.inBlock, Exit.then]); refine bodyPost_ret_by (v := (.tuple #[.agg #[.string ⟨#[]⟩, .string ⟨#[]⟩], .bool false])) ((results_cell_tmp rfl _ _ _).trans (by go_simp; try rfl)) rfl ?_)
      exact ⟨hb6, rfl⟩
    | some y =>
      obtain ⟨rfl, hz1, hz2⟩ := ho
      have hb6 := (hb15.setCell (p := ⟨w.heap.size + 1, 0, none⟩) hw1 (.string y.n)).setCell (p := ⟨w.heap.size + 1, 1, none⟩) hw1 (.string y.t)
      clear hb15
      go_wp2_with fail
      ((try simp only [Exit.inBlock, Exit.then]); refine bodyPost_ret_by (v := (.tuple #[.agg #[.string y.n, .string y.t], .bool true])) ((results_cell_tmp rfl _ _ _).trans (by go_simp; try rfl)) rfl ?_)
      exact ⟨hb6, rfl, hz1, hz2⟩
set_option maxHeartbeats 2000000 in
theorem rglob_val {w0 w : World} (h0 : Below w0.heap.size w0 w) {p : Pg} {v u1 u2 u3 u4 : Value} (hp : ValP w0 v p u1 u2 u3 u4) (x : ByteArray) :
    Calls Tryd.prog 24 #[v, .string x] w fun e w' => Below w.heap.size w w' ∧ OutV w0 (findB Vr.n x p.gs) e := by
  obtain ⟨rfl, hc, hg, hx, hf⟩ := hp
  have hb1 := (Below.refl w.heap.size w).alloc (Nat.le_refl _) (.cells #[.bool p.ssa, u1, u2, u3, u4] 27)
  have hb2 := hb1.alloc hb1.size (.cells #[.string ⟨#[]⟩, .string ⟨#[]⟩] 60)
  have hB := Box.alloc (w.alloc (.cells #[.bool p.ssa, u1, u2, u3, u4] 27)) [.string ⟨#[]⟩, .string ⟨#[]⟩] 60
  have hF := in_val (bthen' h0 hb2) hg x
  generalize findB Vr.n x p.gs = r at *
  have hs : (w.alloc (.cells #[.bool p.ssa, u1, u2, u3, u4] 27)).heap.size = w.heap.size + 1 := by simp
  rw [hs] at hB
  clear hb1 hc hg hx hf hs
  go_enter Tryd.func24, Tryd.ntmps24
  go_wp2_with fail
  refine hF.mono ?_
  rintro e w1 ⟨hb4, ho⟩
  have hB1 := hB.nx hb4
  have hb5 := bthen' hb2 hb4
  have hw1 : w.heap.size ≤ w.heap.size + 1 := by omega
  have b0 := hB1.c 0 _ rfl
  have b1 := hB1.c 1 _ rfl
  have g0 := hB1.f 0 (by simp)
  have g1 := hB1.f 1 (by simp)
  clear hF hB hb2 hb4 hB1
  cases r with
  | none =>
    obtain rfl : e = _ := ho
    have hb6 := (hb5.setCell (p := ⟨w.heap.size + 1, 0, none⟩) hw1 (.string ⟨#[]⟩)).setCell (p := ⟨w.heap.size + 1, 1, none⟩) hw1 (.string ⟨#[]⟩)
    go_wp2_with fail
    ((try simp only [Exit.inBlock, Exit.then]); refine bodyPost_ret_by (v := (.tuple #[.agg #[.string ⟨#[]⟩, .string ⟨#[]⟩], .bool false])) ((results_cell_tmp rfl _ _ _).trans (by go_simp; try rfl)) rfl ?_)
    exact ⟨hb6, rfl⟩
  | some c =>
    obtain ⟨rfl, hz⟩ := ho
    have hb6 := (hb5.setCell (p := ⟨w.heap.size + 1, 0, none⟩) hw1 (.string c.n)).setCell (p := ⟨w.heap.size + 1, 1, none⟩) hw1 (.string c.t)
    go_wp2_with fail
    ((try simp only [Exit.inBlock, Exit.then]); refine bodyPost_ret_by (v := (.tuple #[.agg #[.string c.n, .string c.t], .bool true])) ((results_cell_tmp rfl _ _ _).trans (by go_simp; try rfl)) rfl ?_)
    exact ⟨hb6, rfl, hz⟩
end Go.Proofs.YtjohjpjpfglkkaaDoor
