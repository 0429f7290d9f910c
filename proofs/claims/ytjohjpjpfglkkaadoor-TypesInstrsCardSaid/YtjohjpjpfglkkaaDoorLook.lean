/- The program's Class, Func, Global, Extern. -/
import Derived.Test.YtjohjpjpfglkkaaDoorFind
namespace Go.Proofs.YtjohjpjpfglkkaaDoor
open Go.RowKit

set_option maxHeartbeats 2000000 in
theorem lookC_val {w0 w : World} (h0 : Below w0.heap.size w0 w) {p : Pg} {v u1 u2 u3 u4 : Value} (hp : ValP w0 v p u1 u2 u3 u4) (x : ByteArray) :
    Calls Tryd.prog 53 #[v, .string x] w fun e w' => Below w.heap.size w w' ∧ OutC w0 (findB Cl.n x p.cs) e := by
  obtain ⟨rfl, hc, hg, hx, hf⟩ := hp
  have hb1 := (Below.refl w.heap.size w).alloc (Nat.le_refl _) (.cells #[.bool p.ssa, u1, u2, u3, u4] 27)
  have hb2 := (Below.refl (w.alloc (.cells #[.bool p.ssa, u1, u2, u3, u4] 27)).heap.size (w.alloc (.cells #[.bool p.ssa, u1, u2, u3, u4] 27))).alloc (Nat.le_refl _) (.cells #[.string ⟨#[]⟩, .slice none 0 0] 67)
  have hb3 := bthen' hb1 hb2
  have hB := Box.alloc (w.alloc (.cells #[.bool p.ssa, u1, u2, u3, u4] 27)) [(.string ⟨#[]⟩), (.slice none 0 0)] 67
  have hF := findC_val (bthen' h0 hb3) hc x
  generalize findB Cl.n x p.cs = r at *
  have hs : (w.alloc (.cells #[.bool p.ssa, u1, u2, u3, u4] 27)).heap.size = w.heap.size + 1 := by simp
  rw [hs] at hB
  clear hb1 hb2 hc hg hx hf hs
  go_enter Tryd.func53, Tryd.ntmps53
  go_wp2_with fail
  refine hF.mono ?_
  rintro e w1 ⟨hb4, ho⟩
  have hB1 := hB.nx hb4
  have hb5 := bthen' hb3 hb4
  have f0 := fun i hi => hB1.f i hi
  have hw1 : w.heap.size ≤ w.heap.size + 1 := by omega
  clear hF hB hb3 hb4
  cases r with
  | none =>
    obtain rfl : e = _ := ho
    have hb6 := hb5
    have hb6 := hb6.setCell (p := ⟨w.heap.size + 1, 0, none⟩) hw1 (.string ⟨#[]⟩)
    have hb6 := hb6.setCell (p := ⟨w.heap.size + 1, 1, none⟩) hw1 (.slice none 0 0)
    have c0 := hB1.c 0 _ rfl
    have g0 := f0 0 (by simp)
    have c1 := hB1.c 1 _ rfl
    have g1 := f0 1 (by simp)
    go_wp2_with fail
    ((try simp only [Exit.inBlock, Exit.then]); refine bodyPost_ret_by (v := (.tuple #[.agg #[.string ⟨#[]⟩, .slice none 0 0], .bool false])) ((results_cell_tmp rfl _ _ _).trans (by go_simp; try rfl)) rfl ?_)
    exact ⟨hb6, rfl⟩
  | some c =>
    obtain ⟨v2, u1, rfl, hv⟩ := ho
    obtain ⟨rfl, hz, hr1⟩ := hv
    obtain ⟨p1, k1, rfl⟩ := hr1.slice
    have hb6 := hb5
    have hb6 := hb6.setCell (p := ⟨w.heap.size + 1, 0, none⟩) hw1 (.string c.n)
    have hb6 := hb6.setCell (p := ⟨w.heap.size + 1, 1, none⟩) hw1 (.slice p1 c.fs.length k1)
    have c0 := hB1.c 0 _ rfl
    have g0 := f0 0 (by simp)
    have c1 := hB1.c 1 _ rfl
    have g1 := f0 1 (by simp)
    have hst := hB1.lt
    go_wp2_with fail
    ((try simp only [Exit.inBlock, Exit.then]); refine bodyPost_ret_by (v := (.tuple #[.agg #[.string c.n, .slice p1 c.fs.length k1], .bool true])) ((results_cell_tmp rfl _ _ _).trans (by go_simp; try rfl)) rfl ?_)
    exact ⟨hb6, _, _, rfl, ⟨rfl, hz, hr1⟩⟩
set_option maxHeartbeats 2000000 in
theorem lookF_val {w0 w : World} (h0 : Below w0.heap.size w0 w) {p : Pg} {v u1 u2 u3 u4 : Value} (hp : ValP w0 v p u1 u2 u3 u4) (x : ByteArray) :
    Calls Tryd.prog 46 #[v, .string x] w fun e w' => Below w.heap.size w w' ∧ OutF w0 (findB Fn.n x p.fs) e := by
  obtain ⟨rfl, hc, hg, hx, hf⟩ := hp
  have hb1 := (Below.refl w.heap.size w).alloc (Nat.le_refl _) (.cells #[.bool p.ssa, u1, u2, u3, u4] 27)
  have hb2 := (Below.refl (w.alloc (.cells #[.bool p.ssa, u1, u2, u3, u4] 27)).heap.size (w.alloc (.cells #[.bool p.ssa, u1, u2, u3, u4] 27))).alloc (Nat.le_refl _) (.cells #[.string ⟨#[]⟩, .string ⟨#[]⟩, .slice none 0 0, .slice none 0 0, .slice none 0 0] 30)
  have hb3 := bthen' hb1 hb2
  have hB := Box.alloc (w.alloc (.cells #[.bool p.ssa, u1, u2, u3, u4] 27)) [(.string ⟨#[]⟩), (.string ⟨#[]⟩), (.slice none 0 0), (.slice none 0 0), (.slice none 0 0)] 30
  have hF := findF_val (bthen' h0 hb3) hf x
  generalize findB Fn.n x p.fs = r at *
  have hs : (w.alloc (.cells #[.bool p.ssa, u1, u2, u3, u4] 27)).heap.size = w.heap.size + 1 := by simp
  rw [hs] at hB
  clear hb1 hb2 hc hg hx hf hs
  go_enter Tryd.func46, Tryd.ntmps46
  go_wp2_with fail
  refine hF.mono ?_
  rintro e w1 ⟨hb4, ho⟩
  have hB1 := hB.nx hb4
  have hb5 := bthen' hb3 hb4
  have f0 := fun i hi => hB1.f i hi
  have hw1 : w.heap.size ≤ w.heap.size + 1 := by omega
  clear hF hB hb3 hb4
  cases r with
  | none =>
    obtain rfl : e = _ := ho
    have hb6 := hb5
    have hb6 := hb6.setCell (p := ⟨w.heap.size + 1, 0, none⟩) hw1 (.string ⟨#[]⟩)
    have hb6 := hb6.setCell (p := ⟨w.heap.size + 1, 1, none⟩) hw1 (.string ⟨#[]⟩)
    have hb6 := hb6.setCell (p := ⟨w.heap.size + 1, 2, none⟩) hw1 (.slice none 0 0)
    have hb6 := hb6.setCell (p := ⟨w.heap.size + 1, 3, none⟩) hw1 (.slice none 0 0)
    have hb6 := hb6.setCell (p := ⟨w.heap.size + 1, 4, none⟩) hw1 (.slice none 0 0)
    have c0 := hB1.c 0 _ rfl
    have g0 := f0 0 (by simp)
    have c1 := hB1.c 1 _ rfl
    have g1 := f0 1 (by simp)
    have c2 := hB1.c 2 _ rfl
    have g2 := f0 2 (by simp)
    have c3 := hB1.c 3 _ rfl
    have g3 := f0 3 (by simp)
    have c4 := hB1.c 4 _ rfl
    have g4 := f0 4 (by simp)
    go_wp2_with fail
    ((try simp only [Exit.inBlock, Exit.then]); refine bodyPost_ret_by (v := (.tuple #[.agg #[.string ⟨#[]⟩, .string ⟨#[]⟩, .slice none 0 0, .slice none 0 0, .slice none 0 0], .bool false])) ((results_cell_tmp rfl _ _ _).trans (by go_simp; try rfl)) rfl ?_)
    exact ⟨hb6, rfl⟩
  | some c =>
    obtain ⟨v2, u1, u2, u3, rfl, hv⟩ := ho
    obtain ⟨rfl, hz, hr1, hr2, hr3⟩ := hv
    obtain ⟨p1, k1, rfl⟩ := hr1.slice
    obtain ⟨p2, k2, rfl⟩ := hr2.slice
    obtain ⟨p3, k3, rfl⟩ := hr3.slice
    have hb6 := hb5
    have hb6 := hb6.setCell (p := ⟨w.heap.size + 1, 0, none⟩) hw1 (.string c.n)
    have hb6 := hb6.setCell (p := ⟨w.heap.size + 1, 1, none⟩) hw1 (.string c.r)
    have hb6 := hb6.setCell (p := ⟨w.heap.size + 1, 2, none⟩) hw1 (.slice p1 c.ps.length k1)
    have hb6 := hb6.setCell (p := ⟨w.heap.size + 1, 3, none⟩) hw1 (.slice p2 c.vs.length k2)
    have hb6 := hb6.setCell (p := ⟨w.heap.size + 1, 4, none⟩) hw1 (.slice p3 c.bs.length k3)
    have c0 := hB1.c 0 _ rfl
    have g0 := f0 0 (by simp)
    have c1 := hB1.c 1 _ rfl
    have g1 := f0 1 (by simp)
    have c2 := hB1.c 2 _ rfl
    have g2 := f0 2 (by simp)
    have c3 := hB1.c 3 _ rfl
    have g3 := f0 3 (by simp)
    have c4 := hB1.c 4 _ rfl
    have g4 := f0 4 (by simp)
    have hst := hB1.lt
    go_wp2_with fail
    ((try simp only [Exit.inBlock, Exit.then]); refine bodyPost_ret_by (v := (.tuple #[.agg #[.string c.n, .string c.r, .slice p1 c.ps.length k1, .slice p2 c.vs.length k2, .slice p3 c.bs.length k3], .bool true])) ((results_cell_tmp rfl _ _ _).trans (by go_simp; try rfl)) rfl ?_)
    exact ⟨hb6, _, _, _, _, rfl, ⟨rfl, hz, hr1, hr2, hr3⟩⟩
set_option maxHeartbeats 2000000 in
theorem lookV_val {w0 w : World} (h0 : Below w0.heap.size w0 w) {p : Pg} {v u1 u2 u3 u4 : Value} (hp : ValP w0 v p u1 u2 u3 u4) (x : ByteArray) :
    Calls Tryd.prog 58 #[v, .string x] w fun e w' => Below w.heap.size w w' ∧ OutV w0 (findB Vr.n x p.gs) e := by
  obtain ⟨rfl, hc, hg, hx, hf⟩ := hp
  have hb1 := (Below.refl w.heap.size w).alloc (Nat.le_refl _) (.cells #[.bool p.ssa, u1, u2, u3, u4] 27)
  have hb2 := (Below.refl (w.alloc (.cells #[.bool p.ssa, u1, u2, u3, u4] 27)).heap.size (w.alloc (.cells #[.bool p.ssa, u1, u2, u3, u4] 27))).alloc (Nat.le_refl _) (.cells #[.string ⟨#[]⟩, .string ⟨#[]⟩] 60)
  have hb3 := bthen' hb1 hb2
  have hB := Box.alloc (w.alloc (.cells #[.bool p.ssa, u1, u2, u3, u4] 27)) [(.string ⟨#[]⟩), (.string ⟨#[]⟩)] 60
  have hF := findV_val (bthen' h0 hb3) hg x
  generalize findB Vr.n x p.gs = r at *
  have hs : (w.alloc (.cells #[.bool p.ssa, u1, u2, u3, u4] 27)).heap.size = w.heap.size + 1 := by simp
  rw [hs] at hB
  clear hb1 hb2 hc hg hx hf hs
  go_enter Tryd.func58, Tryd.ntmps58
  go_wp2_with fail
  refine hF.mono ?_
  rintro e w1 ⟨hb4, ho⟩
  have hB1 := hB.nx hb4
  have hb5 := bthen' hb3 hb4
  have f0 := fun i hi => hB1.f i hi
  have hw1 : w.heap.size ≤ w.heap.size + 1 := by omega
  clear hF hB hb3 hb4
  cases r with
  | none =>
    obtain rfl : e = _ := ho
    have hb6 := hb5
    have hb6 := hb6.setCell (p := ⟨w.heap.size + 1, 0, none⟩) hw1 (.string ⟨#[]⟩)
    have hb6 := hb6.setCell (p := ⟨w.heap.size + 1, 1, none⟩) hw1 (.string ⟨#[]⟩)
    have c0 := hB1.c 0 _ rfl
    have g0 := f0 0 (by simp)
    have c1 := hB1.c 1 _ rfl
    have g1 := f0 1 (by simp)
    go_wp2_with fail
    ((try simp only [Exit.inBlock, Exit.then]); refine bodyPost_ret_by (v := (.tuple #[.agg #[.string ⟨#[]⟩, .string ⟨#[]⟩], .bool false])) ((results_cell_tmp rfl _ _ _).trans (by go_simp; try rfl)) rfl ?_)
    exact ⟨hb6, rfl⟩
  | some c =>
    obtain ⟨rfl, hz⟩ := ho
    have hb6 := hb5
    have hb6 := hb6.setCell (p := ⟨w.heap.size + 1, 0, none⟩) hw1 (.string c.n)
    have hb6 := hb6.setCell (p := ⟨w.heap.size + 1, 1, none⟩) hw1 (.string c.t)
    have c0 := hB1.c 0 _ rfl
    have g0 := f0 0 (by simp)
    have c1 := hB1.c 1 _ rfl
    have g1 := f0 1 (by simp)
    go_wp2_with fail
    ((try simp only [Exit.inBlock, Exit.then]); refine bodyPost_ret_by (v := (.tuple #[.agg #[.string c.n, .string c.t], .bool true])) ((results_cell_tmp rfl _ _ _).trans (by go_simp; try rfl)) rfl ?_)
    exact ⟨hb6, rfl, hz⟩
set_option maxHeartbeats 2000000 in
theorem lookX_val {w0 w : World} (h0 : Below w0.heap.size w0 w) {p : Pg} {v u1 u2 u3 u4 : Value} (hp : ValP w0 v p u1 u2 u3 u4) (x : ByteArray) :
    Calls Tryd.prog 48 #[v, .string x] w fun e w' => Below w.heap.size w w' ∧ OutX w0 (findB Ex.n x p.xs) e := by
  obtain ⟨rfl, hc, hg, hx, hf⟩ := hp
  have hb1 := (Below.refl w.heap.size w).alloc (Nat.le_refl _) (.cells #[.bool p.ssa, u1, u2, u3, u4] 27)
  have hb2 := (Below.refl (w.alloc (.cells #[.bool p.ssa, u1, u2, u3, u4] 27)).heap.size (w.alloc (.cells #[.bool p.ssa, u1, u2, u3, u4] 27))).alloc (Nat.le_refl _) (.cells #[.string ⟨#[]⟩, .int .i64 0] 77)
  have hb3 := bthen' hb1 hb2
  have hB := Box.alloc (w.alloc (.cells #[.bool p.ssa, u1, u2, u3, u4] 27)) [(.string ⟨#[]⟩), (.int .i64 0)] 77
  have hF := findX_val (bthen' h0 hb3) hx x
  generalize findB Ex.n x p.xs = r at *
  have hs : (w.alloc (.cells #[.bool p.ssa, u1, u2, u3, u4] 27)).heap.size = w.heap.size + 1 := by simp
  rw [hs] at hB
  clear hb1 hb2 hc hg hx hf hs
  go_enter Tryd.func48, Tryd.ntmps48
  go_wp2_with fail
  refine hF.mono ?_
  rintro e w1 ⟨hb4, ho⟩
  have hB1 := hB.nx hb4
  have hb5 := bthen' hb3 hb4
  have f0 := fun i hi => hB1.f i hi
  have hw1 : w.heap.size ≤ w.heap.size + 1 := by omega
  clear hF hB hb3 hb4
  cases r with
  | none =>
    obtain rfl : e = _ := ho
    have hb6 := hb5
    have hb6 := hb6.setCell (p := ⟨w.heap.size + 1, 0, none⟩) hw1 (.string ⟨#[]⟩)
    have hb6 := hb6.setCell (p := ⟨w.heap.size + 1, 1, none⟩) hw1 (.int .i64 0)
    have c0 := hB1.c 0 _ rfl
    have g0 := f0 0 (by simp)
    have c1 := hB1.c 1 _ rfl
    have g1 := f0 1 (by simp)
    go_wp2_with fail
    ((try simp only [Exit.inBlock, Exit.then]); refine bodyPost_ret_by (v := (.tuple #[.agg #[.string ⟨#[]⟩, .int .i64 0], .bool false])) ((results_cell_tmp rfl _ _ _).trans (by go_simp; try rfl)) rfl ?_)
    exact ⟨hb6, rfl⟩
  | some c =>
    obtain ⟨rfl, hz⟩ := ho
    have hb6 := hb5
    have hb6 := hb6.setCell (p := ⟨w.heap.size + 1, 0, none⟩) hw1 (.string c.n)
    have hb6 := hb6.setCell (p := ⟨w.heap.size + 1, 1, none⟩) hw1 (.int .i64 c.k)
    have c0 := hB1.c 0 _ rfl
    have g0 := f0 0 (by simp)
    have c1 := hB1.c 1 _ rfl
    have g1 := f0 1 (by simp)
    go_wp2_with fail
    ((try simp only [Exit.inBlock, Exit.then]); refine bodyPost_ret_by (v := (.tuple #[.agg #[.string c.n, .int .i64 c.k], .bool true])) ((results_cell_tmp rfl _ _ _).trans (by go_simp; try rfl)) rfl ?_)
    exact ⟨hb6, rfl, hz⟩
end Go.Proofs.YtjohjpjpfglkkaaDoor
