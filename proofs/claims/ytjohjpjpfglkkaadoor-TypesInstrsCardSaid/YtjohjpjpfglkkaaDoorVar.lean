/- A function's variables; arguments' types. -/
import Derived.Test.YtjohjpjpfglkkaaDoorRLook
namespace Go.Proofs.YtjohjpjpfglkkaaDoor
open Go.RowKit

theorem varOf_yes {f : Fn} {x : ByteArray} {v : Vr} (h : findB Vr.n x f.ps = some v) : varOf f x = some v := by simp only [varOf, h]
theorem varOf_no {f : Fn} {x : ByteArray} (h : findB Vr.n x f.ps = none) : varOf f x = findB Vr.n x f.vs := by simp only [varOf, h]
abbrev fBox (f : Fn) (u1 u2 u3 : Value) : List Value := [.string f.n, .string f.r, u1, u2, u3]
set_option maxHeartbeats 4000000 in
theorem var_val {w0 w : World} (h0 : Below w0.heap.size w0 w) {f : Fn} {v u1 u2 u3 : Value} (hf : ValF w0 v f u1 u2 u3) (x : ByteArray) :
    Calls Tryd.prog 40 #[v, .string x] w fun e w' => Below w.heap.size w w' ∧ OutV w0 (varOf f x) e := by
  obtain ⟨rfl, hz, hp, hv, hbk⟩ := hf
  obtain ⟨p1, k1, rfl⟩ := hp.slice
  obtain ⟨p2, k2, rfl⟩ := hv.slice
  obtain ⟨p3, k3, rfl⟩ := hbk.slice
  clear hbk
  have hb1 := (Below.refl w.heap.size w).alloc (Nat.le_refl _) (.cells #[.string f.n, .string f.r, .slice p1 f.ps.length k1, .slice p2 f.vs.length k2, .slice p3 f.bs.length k3] 30)
  have hb2 := hb1.alloc hb1.size (.cells #[.string ⟨#[]⟩, .string ⟨#[]⟩] 60)
  have hF := (Box.alloc w [.string f.n, .string f.r, .slice p1 f.ps.length k1, .slice p2 f.vs.length k2, .slice p3 f.bs.length k3] 30).al (.cells #[.string ⟨#[]⟩, .string ⟨#[]⟩] 60)
  have hB := Box.alloc (w.alloc (.cells #[.string f.n, .string f.r, .slice p1 f.ps.length k1, .slice p2 f.vs.length k2, .slice p3 f.bs.length k3] 30)) [.string ⟨#[]⟩, .string ⟨#[]⟩] 60
  have hs : (w.alloc (.cells #[.string f.n, .string f.r, .slice p1 f.ps.length k1, .slice p2 f.vs.length k2, .slice p3 f.bs.length k3] 30)).heap.size = w.heap.size + 1 := by simp
  rw [hs] at hB
  have hC := findV_val (bthen' h0 hb2) hp x
  have hw1 : w.heap.size ≤ w.heap.size + 1 := Nat.le_succ _
  clear hb1 hs hp
  obtain ⟨R, hR⟩ : ∃ R, R = varOf f x := ⟨_, rfl⟩
  rw [← hR]
  go_enter Tryd.func40, Tryd.ntmps40
  go_wp2_with fail
  refine hC.mono ?_
  rintro e w1 ⟨hb3, ho⟩
  have hb13 := bthen' hb2 hb3
  have hF1 := hF.nx hb3
  have hB1 := hB.nx hb3
  clear hC hb2 hb3 hF hB
  cases hr : findB Vr.n x f.ps with
  | some c =>
    rw [hr] at ho
    obtain ⟨rfl, hz1, hz2⟩ := ho
    rw [varOf_yes hr] at hR
    subst hR
    have hb6 := (hb13.setCell (p := ⟨w.heap.size + 1, 0, none⟩) hw1 (.string c.n)).setCell (p := ⟨w.heap.size + 1, 1, none⟩) hw1 (.string c.t)
    have hb6 := hb6.alloc hb6.size (.cells #[.string c.n, .string c.t] 60)
    have b0 := hB1.c 0 _ rfl
    have b1 := hB1.c 1 _ rfl
    have g0 := hB1.f 0 (by simp)
    have g1 := hB1.f 1 (by simp)
    have hl1 := hB1.lt
    clear hr hv hF1 hB1 hb13
    go_wp2
    ((try simp only [Exit.inBlock, Exit.then]); refine bodyPost_ret_by (v := (.tuple #[.agg #[.string c.n, .string c.t], .bool true])) ((results_cell_tmp rfl _ _ _).trans (by go_simp; try rfl)) rfl ?_)
    exact ⟨hb6, rfl, hz1, hz2⟩
  | none =>
    rw [hr] at ho
    obtain rfl : e = _ := ho
    rw [varOf_no hr] at hR
    have hb4 := hb13.alloc hb13.size (.cells #[.string ⟨#[]⟩, .string ⟨#[]⟩] 60)
    have hF2 := hF1.al (.cells #[.string ⟨#[]⟩, .string ⟨#[]⟩] 60)
    have hB2 := hB1.al (.cells #[.string ⟨#[]⟩, .string ⟨#[]⟩] 60)
    have hC := findV_val (bthen' h0 hb4) hv x
    have a3 := hF2.c 3 _ rfl
    clear hr hv hF1 hB1 hF2 hb13
    go_wp2_with fail
    refine hC.mono ?_
    rintro e w2 ⟨hb5, ho⟩
    have hB3 := hB2.nx hb5
    have hb15 := bthen' hb4 hb5
    have b0 := hB3.c 0 _ rfl
    have b1 := hB3.c 1 _ rfl
    have g0 := hB3.f 0 (by simp)
    have g1 := hB3.f 1 (by simp)
    clear hC hb4 hb5 hB2 hB3 a3
    cases hr : findB Vr.n x f.vs with
    | some c =>
      rw [hr] at ho hR
      subst hR
      obtain ⟨rfl, hz1, hz2⟩ := ho
      have hb6 := (hb15.setCell (p := ⟨w.heap.size + 1, 0, none⟩) hw1 (.string c.n)).setCell (p := ⟨w.heap.size + 1, 1, none⟩) hw1 (.string c.t)
      clear hr hb15
      go_wp2
      ((try simp only [Exit.inBlock, Exit.then]); refine bodyPost_ret_by (v := (.tuple #[.agg #[.string c.n, .string c.t], .bool true])) ((results_cell_tmp rfl _ _ _).trans (by go_simp; try rfl)) rfl ?_)
      exact ⟨hb6, rfl, hz1, hz2⟩
    | none =>
      rw [hr] at ho hR
      subst hR
      obtain rfl : e = _ := ho
      have hb6 := (hb15.setCell (p := ⟨w.heap.size + 1, 0, none⟩) hw1 (.string ⟨#[]⟩)).setCell (p := ⟨w.heap.size + 1, 1, none⟩) hw1 (.string ⟨#[]⟩)
      clear hr hb15
      go_wp2
      ((try simp only [Exit.inBlock, Exit.then]); refine bodyPost_ret_by (v := (.tuple #[.agg #[.string ⟨#[]⟩, .string ⟨#[]⟩], .bool false])) ((results_cell_tmp rfl _ _ _).trans (by go_simp; try rfl)) rfl ?_)
      exact ⟨hb6, rfl⟩
set_option maxHeartbeats 4000000 in
theorem rvar_val {w0 w : World} (h0 : Below w0.heap.size w0 w) {f : Fn} {v u1 u2 u3 : Value} (hf : ValF w0 v f u1 u2 u3) (x : ByteArray) :
    Calls Tryd.prog 17 #[v, .string x] w fun e w' => Below w.heap.size w w' ∧ OutV w0 (varOf f x) e := by
  obtain ⟨rfl, hz, hp, hv, hbk⟩ := hf
  obtain ⟨p1, k1, rfl⟩ := hp.slice
  obtain ⟨p2, k2, rfl⟩ := hv.slice
  obtain ⟨p3, k3, rfl⟩ := hbk.slice
  clear hbk
  have hb1 := (Below.refl w.heap.size w).alloc (Nat.le_refl _) (.cells #[.string f.n, .string f.r, .slice p1 f.ps.length k1, .slice p2 f.vs.length k2, .slice p3 f.bs.length k3] 30)
  have hb2 := hb1.alloc hb1.size (.cells #[.string ⟨#[]⟩, .string ⟨#[]⟩] 60)
  have hF := (Box.alloc w [.string f.n, .string f.r, .slice p1 f.ps.length k1, .slice p2 f.vs.length k2, .slice p3 f.bs.length k3] 30).al (.cells #[.string ⟨#[]⟩, .string ⟨#[]⟩] 60)
  have hB := Box.alloc (w.alloc (.cells #[.string f.n, .string f.r, .slice p1 f.ps.length k1, .slice p2 f.vs.length k2, .slice p3 f.bs.length k3] 30)) [.string ⟨#[]⟩, .string ⟨#[]⟩] 60
  have hs : (w.alloc (.cells #[.string f.n, .string f.r, .slice p1 f.ps.length k1, .slice p2 f.vs.length k2, .slice p3 f.bs.length k3] 30)).heap.size = w.heap.size + 1 := by simp
  rw [hs] at hB
  have hC := in_val (bthen' h0 hb2) hp x
  have hw1 : w.heap.size ≤ w.heap.size + 1 := Nat.le_succ _
  clear hb1 hs hp
  obtain ⟨R, hR⟩ : ∃ R, R = varOf f x := ⟨_, rfl⟩
  rw [← hR]
  go_enter Tryd.func17, Tryd.ntmps17
  go_wp2_with fail
  refine hC.mono ?_
  rintro e w1 ⟨hb3, ho⟩
  have hb13 := bthen' hb2 hb3
  have hF1 := hF.nx hb3
  have hB1 := hB.nx hb3
  clear hC hb2 hb3 hF hB
  cases hr : findB Vr.n x f.ps with
  | some c =>
    rw [hr] at ho
    obtain ⟨rfl, hz1, hz2⟩ := ho
    rw [varOf_yes hr] at hR
    subst hR
    have hb6 := (hb13.setCell (p := ⟨w.heap.size + 1, 0, none⟩) hw1 (.string c.n)).setCell (p := ⟨w.heap.size + 1, 1, none⟩) hw1 (.string c.t)
    have hb6 := hb6.alloc hb6.size (.cells #[.string c.n, .string c.t] 60)
    have b0 := hB1.c 0 _ rfl
    have b1 := hB1.c 1 _ rfl
    have g0 := hB1.f 0 (by simp)
    have g1 := hB1.f 1 (by simp)
    have hl1 := hB1.lt
    clear hr hv hF1 hB1 hb13
    go_wp2
    ((try simp only [Exit.inBlock, Exit.then]); refine bodyPost_ret_by (v := (.tuple #[.agg #[.string c.n, .string c.t], .bool true])) ((results_cell_tmp rfl _ _ _).trans (by go_simp; try rfl)) rfl ?_)
    exact ⟨hb6, rfl, hz1, hz2⟩
  | none =>
    rw [hr] at ho
    obtain rfl : e = _ := ho
    rw [varOf_no hr] at hR
    have hb4 := hb13.alloc hb13.size (.cells #[.string ⟨#[]⟩, .string ⟨#[]⟩] 60)
    have hF2 := hF1.al (.cells #[.string ⟨#[]⟩, .string ⟨#[]⟩] 60)
    have hB2 := hB1.al (.cells #[.string ⟨#[]⟩, .string ⟨#[]⟩] 60)
    have hC := in_val (bthen' h0 hb4) hv x
    have a3 := hF2.c 3 _ rfl
    clear hr hv hF1 hB1 hF2 hb13
    go_wp2_with fail
    refine hC.mono ?_
    rintro e w2 ⟨hb5, ho⟩
    have hB3 := hB2.nx hb5
    have hb15 := bthen' hb4 hb5
    have b0 := hB3.c 0 _ rfl
    have b1 := hB3.c 1 _ rfl
    have g0 := hB3.f 0 (by simp)
    have g1 := hB3.f 1 (by simp)
    clear hC hb4 hb5 hB2 hB3 a3
    cases hr : findB Vr.n x f.vs with
    | some c =>
      rw [hr] at ho hR
      subst hR
      obtain ⟨rfl, hz1, hz2⟩ := ho
      have hb6 := (hb15.setCell (p := ⟨w.heap.size + 1, 0, none⟩) hw1 (.string c.n)).setCell (p := ⟨w.heap.size + 1, 1, none⟩) hw1 (.string c.t)
      clear hr hb15
      go_wp2
      ((try simp only [Exit.inBlock, Exit.then]); refine bodyPost_ret_by (v := (.tuple #[.agg #[.string c.n, .string c.t], .bool true])) ((results_cell_tmp rfl _ _ _).trans (by go_simp; try rfl)) rfl ?_)
      exact ⟨hb6, rfl, hz1, hz2⟩
    | none =>
      rw [hr] at ho hR
      subst hR
      obtain rfl : e = _ := ho
      have hb6 := (hb15.setCell (p := ⟨w.heap.size + 1, 0, none⟩) hw1 (.string ⟨#[]⟩)).setCell (p := ⟨w.heap.size + 1, 1, none⟩) hw1 (.string ⟨#[]⟩)
      clear hr hb15
      go_wp2
      ((try simp only [Exit.inBlock, Exit.then]); refine bodyPost_ret_by (v := (.tuple #[.agg #[.string ⟨#[]⟩, .string ⟨#[]⟩], .bool false])) ((results_cell_tmp rfl _ _ _).trans (by go_simp; try rfl)) rfl ?_)
      exact ⟨hb6, rfl⟩
set_option maxHeartbeats 4000000 in
theorem of_val {w0 w : World} (h0 : Below w0.heap.size w0 w) {f : Fn} {v u1 u2 u3 : Value} (hf : ValF w0 v f u1 u2 u3) (a : Ag) :
    Calls Tryd.prog 35 #[v, .agg #[.int .i64 a.k, .string a.s, .int .i64 a.n]] w fun e w' => Below w.heap.size w w' ∧ OutS (tyOf f a) e := by
  obtain ⟨k, s, n⟩ := a
  have hfv := hf
  obtain ⟨rfl, hz, hp, hv, hbk⟩ := hf
  obtain ⟨p1, k1, rfl⟩ := hp.slice
  obtain ⟨p2, k2, rfl⟩ := hv.slice
  obtain ⟨p3, k3, rfl⟩ := hbk.slice
  clear hbk hp hv
  unfold tyOf
  dsimp only
  have hb1 := (Below.refl w.heap.size w).alloc (Nat.le_refl _) (.cells #[.string f.n, .string f.r, .slice p1 f.ps.length k1, .slice p2 f.vs.length k2, .slice p3 f.bs.length k3] 30)
  have hb2 := hb1.alloc hb1.size (.cells #[.int .i64 k, .string s, .int .i64 n] 42)
  have hC := var_val (bthen' h0 hb2) hfv s
  clear hb1
  by_cases e1 : k = 1
  · rw [if_pos e1]
    subst e1
    generalize hr : varOf f s = r at *
    clear hr
    go_enter Tryd.func35, Tryd.ntmps35
    go_wp2_with fail
    refine hC.mono ?_
    rintro e w1 ⟨hb3, ho⟩
    have hb13 := bthen' hb2 hb3
    clear hC hb2 hb3
    cases r with
    | some c =>
      obtain ⟨rfl, hz1, hz2⟩ := ho
      have hb6 := hb13.alloc hb13.size (.cells #[.string c.n, .string c.t] 60)
      clear hb13
      go_wp2
      go_ret2
      exact ⟨hb6, rfl, hz2⟩
    | none =>
      obtain rfl : e = _ := ho
      have hb6 := hb13.alloc hb13.size (.cells #[.string ⟨#[]⟩, .string ⟨#[]⟩] 60)
      clear hb13
      go_wp2
      go_ret2
      exact ⟨hb6, rfl⟩
  · rw [if_neg e1]
    clear hC
    have hb6 := hb2.alloc hb2.size (.cells #[.string ⟨#[]⟩, .string ⟨#[]⟩, .string intS, .string floatS, .string nullS] 100)
    by_cases e2 : k = 2
    · rw [if_pos e2]
      subst e2
      clear e1
      go_enter Tryd.func35, Tryd.ntmps35
      go_wp2
      go_ret2
      exact ⟨by first | exact hb6 | exact hb2, rfl, by unfold Sz; decide⟩
    · rw [if_neg e2]
      by_cases e3 : k = 3
      · rw [if_pos e3]
        subst e3
        clear e1 e2
        go_enter Tryd.func35, Tryd.ntmps35
        go_wp2
        go_ret2
        exact ⟨by first | exact hb6 | exact hb2, rfl, by unfold Sz; decide⟩
      · rw [if_neg e3]
        by_cases e4 : k = 4
        · rw [if_pos e4]
          subst e4
          clear e1 e2 e3
          go_enter Tryd.func35, Tryd.ntmps35
          go_wp2
          go_ret2
          exact ⟨by first | exact hb6 | exact hb2, rfl, by unfold Sz; decide⟩
        · rw [if_neg e4]
          clear hb6
          by_cases g2 : 2 ≤ k
          · have g4 : ¬ k ≤ 4 := by omega
            go_enter Tryd.func35, Tryd.ntmps35
            go_wp2
            go_ret2
            exact ⟨hb2, rfl⟩
          · go_enter Tryd.func35, Tryd.ntmps35
            go_wp2
            go_ret2
            exact ⟨hb2, rfl⟩
set_option maxHeartbeats 4000000 in
theorem rof_val {w0 w : World} (h0 : Below w0.heap.size w0 w) {f : Fn} {v u1 u2 u3 : Value} (hf : ValF w0 v f u1 u2 u3) (a : Ag) :
    Calls Tryd.prog 18 #[v, .agg #[.int .i64 a.k, .string a.s, .int .i64 a.n]] w fun e w' => Below w.heap.size w w' ∧ OutS (tyOf f a) e := by
  obtain ⟨k, s, n⟩ := a
  have hfv := hf
  obtain ⟨rfl, hz, hp, hv, hbk⟩ := hf
  obtain ⟨p1, k1, rfl⟩ := hp.slice
  obtain ⟨p2, k2, rfl⟩ := hv.slice
  obtain ⟨p3, k3, rfl⟩ := hbk.slice
  clear hbk hp hv
  unfold tyOf
  dsimp only
  have hb1 := (Below.refl w.heap.size w).alloc (Nat.le_refl _) (.cells #[.string f.n, .string f.r, .slice p1 f.ps.length k1, .slice p2 f.vs.length k2, .slice p3 f.bs.length k3] 30)
  have hb2 := hb1.alloc hb1.size (.cells #[.int .i64 k, .string s, .int .i64 n] 42)
  have hC := rvar_val (bthen' h0 hb2) hfv s
  clear hb1
  by_cases e1 : k = 1
  · rw [if_pos e1]
    subst e1
    generalize hr : varOf f s = r at *
    clear hr
    go_enter Tryd.func18, Tryd.ntmps18
    go_wp2_with fail
    refine hC.mono ?_
    rintro e w1 ⟨hb3, ho⟩
    have hb13 := bthen' hb2 hb3
    clear hC hb2 hb3
    cases r with
    | some c =>
      obtain ⟨rfl, hz1, hz2⟩ := ho
      have hb6 := hb13.alloc hb13.size (.cells #[.string c.n, .string c.t] 60)
      clear hb13
      go_wp2
      go_ret2
      exact ⟨hb6, rfl, hz2⟩
    | none =>
      obtain rfl : e = _ := ho
      have hb6 := hb13.alloc hb13.size (.cells #[.string ⟨#[]⟩, .string ⟨#[]⟩] 60)
      clear hb13
      go_wp2
      go_ret2
      exact ⟨hb6, rfl⟩
  · rw [if_neg e1]
    clear hC
    have hb6 := hb2.alloc hb2.size (.cells #[.string ⟨#[]⟩, .string ⟨#[]⟩, .string intS, .string floatS, .string nullS] 100)
    by_cases e2 : k = 2
    · rw [if_pos e2]
      subst e2
      clear e1
      go_enter Tryd.func18, Tryd.ntmps18
      go_wp2
      go_ret2
      exact ⟨by first | exact hb6 | exact hb2, rfl, by unfold Sz; decide⟩
    · rw [if_neg e2]
      by_cases e3 : k = 3
      · rw [if_pos e3]
        subst e3
        clear e1 e2
        go_enter Tryd.func18, Tryd.ntmps18
        go_wp2
        go_ret2
        exact ⟨by first | exact hb6 | exact hb2, rfl, by unfold Sz; decide⟩
      · rw [if_neg e3]
        by_cases e4 : k = 4
        · rw [if_pos e4]
          subst e4
          clear e1 e2 e3
          go_enter Tryd.func18, Tryd.ntmps18
          go_wp2
          go_ret2
          exact ⟨by first | exact hb6 | exact hb2, rfl, by unfold Sz; decide⟩
        · rw [if_neg e4]
          clear hb6
          by_cases g2 : 2 ≤ k
          · have g4 : ¬ k ≤ 4 := by omega
            go_enter Tryd.func18, Tryd.ntmps18
            go_wp2
            go_ret2
            exact ⟨hb2, rfl⟩
          · go_enter Tryd.func18, Tryd.ntmps18
            go_wp2
            go_ret2
            exact ⟨hb2, rfl⟩
end Go.Proofs.YtjohjpjpfglkkaaDoor
