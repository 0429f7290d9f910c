/- lateenlaw15: shifted, to. -/
import Derived.Test.YtndakhnplnamdaaHeapJ
import Derived.Test.YtndakhnplnamdaaAlike
namespace Go.Proofs.Ytndakhnplnamdaa
open Go.RowKit

set_option maxHeartbeats 1000000 in
theorem shifted_val (ph : Option Addr) (n ch f : Nat) (hn : n ≤ 1000) (hf : f ≤ 1000) (s : ByteArray) (x : Int) (s' : ByteArray) (x' : Int) (h : shiftV n f (s, x) = (s', x')) (w : World) :
    Calls Try.prog 21 #[.slice ph n ch, .agg #[.string s, .int .i64 x], .int .i64 (f : Int)] w fun e w' => e = .returned (.agg #[.string s', .int .i64 x']) ∧ Below w.heap.size w w' := by
  unfold shiftV at h
  rcases hl : leadsB n (s, x) with _ | _
  · rw [if_neg (by rw [hl]; simp)] at h
    simp only [Prod.mk.injEq] at h
    obtain ⟨rfl, rfl⟩ := h
    have HL := Lib.hid hl
    clear hl
    go_enter Try.func21, Try.ntmps21
    go_wp2_with fail
    refine (leads_val ph n ch (by omega) s x _ HL.out _).mono ?_
    rintro e w1 ⟨rfl, hb⟩
    obtain ⟨hx, hr, hB⟩ := boxes2 (c1 := [.string s, .int .i64 x]) (c2 := [.string { data := #[] }, .int .i64 0]) hb
    have a0 := hx.c 0 _ rfl
    have a1 := hx.c 1 _ rfl
    have r0 := hr.c 0 _ rfl
    have r1 := hr.c 1 _ rfl
    have f0 := hr.f 0 (by simp)
    have f1 := hr.f 1 (by simp)
    clear hx hr hb
    go_wp2
    ((try simp only [Exit.inBlock, Exit.then]); refine bodyPost_ret_by (v := (.agg #[.string s, .int .i64 x])) ((results_cell1 rfl _ _ _).trans (by go_simp; try rfl)) rfl ⟨rfl, ?_⟩)
    (repeat (first | with_reducible assumption | exact (Below.refl _ _).alloc (Nat.le_refl _) _ | exact Below.refl _ _ | (refine Below.drew ?_) | (refine Below.setCell ?_ ?_ _; rotate_left; first | exact Nat.le_refl _ | (dsimp only; omega)) | (refine Below.alloc ?_ ?_ _; rotate_left; first | exact Nat.le_refl _ | (simp; omega) | simp)))
  · rw [if_pos hl] at h
    simp only [Prod.mk.injEq] at h
    obtain ⟨rfl, rfl⟩ := h
    have HL := Lib.hid hl
    have hi := leadsI hl
    clear hl
    go_enter Try.func21, Try.ntmps21
    go_wp2_with fail
    refine (leads_val ph n ch (by omega) s x _ HL.out _).mono ?_
    rintro e w1 ⟨rfl, hb⟩
    obtain ⟨hx, hr, hB⟩ := boxes2 (c1 := [.string s, .int .i64 x]) (c2 := [.string { data := #[] }, .int .i64 0]) hb
    have a0 := hx.c 0 _ rfl
    have a1 := hx.c 1 _ rfl
    have g1 := hx.f 1 (by simp)
    have r0 := hr.c 0 _ rfl
    have r1 := hr.c 1 _ rfl
    have f0 := hr.f 0 (by simp)
    have f1 := hr.f 1 (by simp)
    have ew : IntKind.i64.wrap (x + (f : Int)) = x + (f : Int) := IntWalk.i64_in _ (by omega)
    clear hx hr hb
    go_wp2
    ((try simp only [Exit.inBlock, Exit.then]); refine bodyPost_ret_by (v := (.agg #[.string s, .int .i64 (x + (f : Int))])) ((results_cell1 rfl _ _ _).trans (by go_simp; try rfl)) rfl ⟨rfl, ?_⟩)
    (repeat (first | with_reducible assumption | exact (Below.refl _ _).alloc (Nat.le_refl _) _ | exact Below.refl _ _ | (refine Below.drew ?_) | (refine Below.setCell ?_ ?_ _; rotate_left; first | exact Nat.le_refl _ | (dsimp only; omega)) | (refine Below.alloc ?_ ?_ _; rotate_left; first | exact Nat.le_refl _ | (simp; omega) | simp)))
theorem to_val (k : Int) (w : World) : Calls Try.prog 24 #[.int .i64 k] w fun e w' => e = .returned (.agg #[.string { data := #[114, 101, 102] }, .int .i64 k]) ∧ Below w.heap.size w w' := by
  go_enter Try.func24, Try.ntmps24
  go_wp2
  ((try simp only [Exit.inBlock, Exit.then]); refine bodyPost_ret_by (v := (.agg #[.string { data := #[114, 101, 102] }, .int .i64 k])) ((results_cell1 rfl _ _ _).trans (by go_simp; try rfl)) rfl ⟨rfl, ?_⟩)
  (repeat (first | with_reducible assumption | exact (Below.refl _ _).alloc (Nat.le_refl _) _ | exact Below.refl _ _ | (refine Below.drew ?_) | (refine Below.setCell ?_ ?_ _; rotate_left; first | exact Nat.le_refl _ | (dsimp only; omega)) | (refine Below.alloc ?_ ?_ _; rotate_left; first | exact Nat.le_refl _ | (simp; omega) | simp)))
end Go.Proofs.Ytndakhnplnamdaa
