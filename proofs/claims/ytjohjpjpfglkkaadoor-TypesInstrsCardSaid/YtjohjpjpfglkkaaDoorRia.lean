/- The reference's forms of instructions; whether types fit variables, one by one. -/
import Derived.Test.YtjohjpjpfglkkaaDoorRth
namespace Go.Proofs.YtjohjpjpfglkkaaDoor
open Go.RowKit

/-- the words of the instructions lie there -/
def Words (w : World) : Prop := ∀ r, r < 35 → ∃ s : ByteArray, w.cell? ⟨0, r, none⟩ = some (.string s)
theorem Words.kp {w w' : World} (h : Words w) (hb : Below w.heap.size w w') : Words w' := fun r hr => by
  obtain ⟨s, hs⟩ := h r hr
  exact ⟨s, keepc hb hs⟩
theorem formOf_out {op : Int} (h : op < 1 ∨ 34 < op) : formOf op = none := by
  unfold formOf
  rw [if_neg (by omega), if_neg (by omega), if_neg (by omega), if_neg (by omega), if_neg (by omega), if_neg (by omega), if_neg (by omega), if_neg (by omega), if_neg (by omega), if_neg (by omega), if_neg (by omega), if_neg (by omega)]
set_option maxHeartbeats 8000000 in
set_option maxRecDepth 100000 in
theorem rforms_val (op : Int) (w : World) (hW : Words w) : Calls Tryd.prog 16 #[.int .i64 op] w fun e w' => Below w.heap.size w w' ∧ OutFm (formOf op) e := by
  by_cases h1 : op < 1
  · rw [formOf_out (.inl h1)]
    have h1b : decide (op < 1) = true := decide_eq_true h1
    go_enter Tryd.func16, Tryd.ntmps16
    go_wp2
    ((try simp only [Exit.inBlock, Exit.then]); refine bodyPost_ret_by (v := (.tuple #[.agg #[.string ⟨#[]⟩, .bool false, .bool false, .int .i64 0, .int .i64 0], .bool false])) ((results_cell_tmp rfl _ _ _).trans (by go_simp; try rfl)) rfl ?_)
    refine ⟨?_, rfl⟩
    (repeat (first | with_reducible assumption | exact (Below.refl _ _).alloc (Nat.le_refl _) _ | exact Below.refl _ _ | (refine Below.drew ?_) | (refine Below.setCell ?_ ?_ _; rotate_left; first | exact Nat.le_refl _ | (dsimp only; omega)) | (refine Below.alloc ?_ ?_ _; rotate_left; first | exact Nat.le_refl _ | (simp; omega) | simp)))
  by_cases h2 : 34 < op
  · rw [formOf_out (.inr h2)]
    have h1b : decide (op < 1) = false := decide_eq_false h1
    have h2b : decide (34 < op) = true := decide_eq_true h2
    go_enter Tryd.func16, Tryd.ntmps16
    go_wp2
    ((try simp only [Exit.inBlock, Exit.then]); refine bodyPost_ret_by (v := (.tuple #[.agg #[.string ⟨#[]⟩, .bool false, .bool false, .int .i64 0, .int .i64 0], .bool false])) ((results_cell_tmp rfl _ _ _).trans (by go_simp; try rfl)) rfl ?_)
    refine ⟨?_, rfl⟩
    (repeat (first | with_reducible assumption | exact (Below.refl _ _).alloc (Nat.le_refl _) _ | exact Below.refl _ _ | (refine Below.drew ?_) | (refine Below.setCell ?_ ?_ _; rotate_left; first | exact Nat.le_refl _ | (dsimp only; omega)) | (refine Below.alloc ?_ ?_ _; rotate_left; first | exact Nat.le_refl _ | (simp; omega) | simp)))
  have hop : op = 1 ∨ op = 2 ∨ op = 3 ∨ op = 4 ∨ op = 5 ∨ op = 6 ∨ op = 7 ∨ op = 8 ∨ op = 9 ∨ op = 10 ∨ op = 11 ∨ op = 12 ∨ op = 13 ∨ op = 14 ∨ op = 15 ∨ op = 16 ∨ op = 17 ∨ op = 18 ∨ op = 19 ∨ op = 20 ∨ op = 21 ∨ op = 22 ∨ op = 23 ∨ op = 24 ∨ op = 25 ∨ op = 26 ∨ op = 27 ∨ op = 28 ∨ op = 29 ∨ op = 30 ∨ op = 31 ∨ op = 32 ∨ op = 33 ∨ op = 34 := by omega
  rcases hop with rfl | rfl | rfl | rfl | rfl | rfl | rfl | rfl | rfl | rfl | rfl | rfl | rfl | rfl | rfl | rfl | rfl | rfl | rfl | rfl | rfl | rfl | rfl | rfl | rfl | rfl | rfl | rfl | rfl | rfl | rfl | rfl | rfl | rfl
  · obtain ⟨s, hs⟩ := hW 1 (by decide)
    have hs2 := fun o => keepc ((Below.refl w.heap.size w).alloc (Nat.le_refl _) o) hs
    clear hW h1 h2
    go_enter Tryd.func16, Tryd.ntmps16
    go_wp2
    ((try simp only [Exit.inBlock, Exit.then]); refine bodyPost_ret_by (v := (.tuple #[.agg #[.string s, .bool true, .bool false, .int .i64 2, .int .i64 2], .bool true])) ((results_cell_tmp rfl _ _ _).trans (by go_simp; try rfl)) rfl ?_)
    refine ⟨?_, s, rfl⟩
    (repeat (first | with_reducible assumption | exact (Below.refl _ _).alloc (Nat.le_refl _) _ | exact Below.refl _ _ | (refine Below.drew ?_) | (refine Below.setCell ?_ ?_ _; rotate_left; first | exact Nat.le_refl _ | (dsimp only; omega)) | (refine Below.alloc ?_ ?_ _; rotate_left; first | exact Nat.le_refl _ | (simp; omega) | simp)))
  · obtain ⟨s, hs⟩ := hW 2 (by decide)
    have hs2 := fun o => keepc ((Below.refl w.heap.size w).alloc (Nat.le_refl _) o) hs
    clear hW h1 h2
    go_enter Tryd.func16, Tryd.ntmps16
    go_wp2
    ((try simp only [Exit.inBlock, Exit.then]); refine bodyPost_ret_by (v := (.tuple #[.agg #[.string s, .bool true, .bool false, .int .i64 2, .int .i64 2], .bool true])) ((results_cell_tmp rfl _ _ _).trans (by go_simp; try rfl)) rfl ?_)
    refine ⟨?_, s, rfl⟩
    (repeat (first | with_reducible assumption | exact (Below.refl _ _).alloc (Nat.le_refl _) _ | exact Below.refl _ _ | (refine Below.drew ?_) | (refine Below.setCell ?_ ?_ _; rotate_left; first | exact Nat.le_refl _ | (dsimp only; omega)) | (refine Below.alloc ?_ ?_ _; rotate_left; first | exact Nat.le_refl _ | (simp; omega) | simp)))
  · obtain ⟨s, hs⟩ := hW 3 (by decide)
    have hs2 := fun o => keepc ((Below.refl w.heap.size w).alloc (Nat.le_refl _) o) hs
    clear hW h1 h2
    go_enter Tryd.func16, Tryd.ntmps16
    go_wp2
    ((try simp only [Exit.inBlock, Exit.then]); refine bodyPost_ret_by (v := (.tuple #[.agg #[.string s, .bool true, .bool false, .int .i64 2, .int .i64 2], .bool true])) ((results_cell_tmp rfl _ _ _).trans (by go_simp; try rfl)) rfl ?_)
    refine ⟨?_, s, rfl⟩
    (repeat (first | with_reducible assumption | exact (Below.refl _ _).alloc (Nat.le_refl _) _ | exact Below.refl _ _ | (refine Below.drew ?_) | (refine Below.setCell ?_ ?_ _; rotate_left; first | exact Nat.le_refl _ | (dsimp only; omega)) | (refine Below.alloc ?_ ?_ _; rotate_left; first | exact Nat.le_refl _ | (simp; omega) | simp)))
  · obtain ⟨s, hs⟩ := hW 4 (by decide)
    have hs2 := fun o => keepc ((Below.refl w.heap.size w).alloc (Nat.le_refl _) o) hs
    clear hW h1 h2
    go_enter Tryd.func16, Tryd.ntmps16
    go_wp2
    ((try simp only [Exit.inBlock, Exit.then]); refine bodyPost_ret_by (v := (.tuple #[.agg #[.string s, .bool true, .bool false, .int .i64 2, .int .i64 2], .bool true])) ((results_cell_tmp rfl _ _ _).trans (by go_simp; try rfl)) rfl ?_)
    refine ⟨?_, s, rfl⟩
    (repeat (first | with_reducible assumption | exact (Below.refl _ _).alloc (Nat.le_refl _) _ | exact Below.refl _ _ | (refine Below.drew ?_) | (refine Below.setCell ?_ ?_ _; rotate_left; first | exact Nat.le_refl _ | (dsimp only; omega)) | (refine Below.alloc ?_ ?_ _; rotate_left; first | exact Nat.le_refl _ | (simp; omega) | simp)))
  · obtain ⟨s, hs⟩ := hW 5 (by decide)
    have hs2 := fun o => keepc ((Below.refl w.heap.size w).alloc (Nat.le_refl _) o) hs
    clear hW h1 h2
    go_enter Tryd.func16, Tryd.ntmps16
    go_wp2
    ((try simp only [Exit.inBlock, Exit.then]); refine bodyPost_ret_by (v := (.tuple #[.agg #[.string s, .bool true, .bool false, .int .i64 2, .int .i64 2], .bool true])) ((results_cell_tmp rfl _ _ _).trans (by go_simp; try rfl)) rfl ?_)
    refine ⟨?_, s, rfl⟩
    (repeat (first | with_reducible assumption | exact (Below.refl _ _).alloc (Nat.le_refl _) _ | exact Below.refl _ _ | (refine Below.drew ?_) | (refine Below.setCell ?_ ?_ _; rotate_left; first | exact Nat.le_refl _ | (dsimp only; omega)) | (refine Below.alloc ?_ ?_ _; rotate_left; first | exact Nat.le_refl _ | (simp; omega) | simp)))
  · obtain ⟨s, hs⟩ := hW 6 (by decide)
    have hs2 := fun o => keepc ((Below.refl w.heap.size w).alloc (Nat.le_refl _) o) hs
    clear hW h1 h2
    go_enter Tryd.func16, Tryd.ntmps16
    go_wp2
    ((try simp only [Exit.inBlock, Exit.then]); refine bodyPost_ret_by (v := (.tuple #[.agg #[.string s, .bool true, .bool false, .int .i64 2, .int .i64 2], .bool true])) ((results_cell_tmp rfl _ _ _).trans (by go_simp; try rfl)) rfl ?_)
    refine ⟨?_, s, rfl⟩
    (repeat (first | with_reducible assumption | exact (Below.refl _ _).alloc (Nat.le_refl _) _ | exact Below.refl _ _ | (refine Below.drew ?_) | (refine Below.setCell ?_ ?_ _; rotate_left; first | exact Nat.le_refl _ | (dsimp only; omega)) | (refine Below.alloc ?_ ?_ _; rotate_left; first | exact Nat.le_refl _ | (simp; omega) | simp)))
  · obtain ⟨s, hs⟩ := hW 7 (by decide)
    have hs2 := fun o => keepc ((Below.refl w.heap.size w).alloc (Nat.le_refl _) o) hs
    clear hW h1 h2
    go_enter Tryd.func16, Tryd.ntmps16
    go_wp2
    ((try simp only [Exit.inBlock, Exit.then]); refine bodyPost_ret_by (v := (.tuple #[.agg #[.string s, .bool true, .bool false, .int .i64 2, .int .i64 2], .bool true])) ((results_cell_tmp rfl _ _ _).trans (by go_simp; try rfl)) rfl ?_)
    refine ⟨?_, s, rfl⟩
    (repeat (first | with_reducible assumption | exact (Below.refl _ _).alloc (Nat.le_refl _) _ | exact Below.refl _ _ | (refine Below.drew ?_) | (refine Below.setCell ?_ ?_ _; rotate_left; first | exact Nat.le_refl _ | (dsimp only; omega)) | (refine Below.alloc ?_ ?_ _; rotate_left; first | exact Nat.le_refl _ | (simp; omega) | simp)))
  · obtain ⟨s, hs⟩ := hW 8 (by decide)
    have hs2 := fun o => keepc ((Below.refl w.heap.size w).alloc (Nat.le_refl _) o) hs
    clear hW h1 h2
    go_enter Tryd.func16, Tryd.ntmps16
    go_wp2
    ((try simp only [Exit.inBlock, Exit.then]); refine bodyPost_ret_by (v := (.tuple #[.agg #[.string s, .bool true, .bool false, .int .i64 2, .int .i64 2], .bool true])) ((results_cell_tmp rfl _ _ _).trans (by go_simp; try rfl)) rfl ?_)
    refine ⟨?_, s, rfl⟩
    (repeat (first | with_reducible assumption | exact (Below.refl _ _).alloc (Nat.le_refl _) _ | exact Below.refl _ _ | (refine Below.drew ?_) | (refine Below.setCell ?_ ?_ _; rotate_left; first | exact Nat.le_refl _ | (dsimp only; omega)) | (refine Below.alloc ?_ ?_ _; rotate_left; first | exact Nat.le_refl _ | (simp; omega) | simp)))
  · obtain ⟨s, hs⟩ := hW 9 (by decide)
    have hs2 := fun o => keepc ((Below.refl w.heap.size w).alloc (Nat.le_refl _) o) hs
    clear hW h1 h2
    go_enter Tryd.func16, Tryd.ntmps16
    go_wp2
    ((try simp only [Exit.inBlock, Exit.then]); refine bodyPost_ret_by (v := (.tuple #[.agg #[.string s, .bool true, .bool false, .int .i64 2, .int .i64 2], .bool true])) ((results_cell_tmp rfl _ _ _).trans (by go_simp; try rfl)) rfl ?_)
    refine ⟨?_, s, rfl⟩
    (repeat (first | with_reducible assumption | exact (Below.refl _ _).alloc (Nat.le_refl _) _ | exact Below.refl _ _ | (refine Below.drew ?_) | (refine Below.setCell ?_ ?_ _; rotate_left; first | exact Nat.le_refl _ | (dsimp only; omega)) | (refine Below.alloc ?_ ?_ _; rotate_left; first | exact Nat.le_refl _ | (simp; omega) | simp)))
  · obtain ⟨s, hs⟩ := hW 10 (by decide)
    have hs2 := fun o => keepc ((Below.refl w.heap.size w).alloc (Nat.le_refl _) o) hs
    clear hW h1 h2
    go_enter Tryd.func16, Tryd.ntmps16
    go_wp2
    ((try simp only [Exit.inBlock, Exit.then]); refine bodyPost_ret_by (v := (.tuple #[.agg #[.string s, .bool true, .bool false, .int .i64 2, .int .i64 2], .bool true])) ((results_cell_tmp rfl _ _ _).trans (by go_simp; try rfl)) rfl ?_)
    refine ⟨?_, s, rfl⟩
    (repeat (first | with_reducible assumption | exact (Below.refl _ _).alloc (Nat.le_refl _) _ | exact Below.refl _ _ | (refine Below.drew ?_) | (refine Below.setCell ?_ ?_ _; rotate_left; first | exact Nat.le_refl _ | (dsimp only; omega)) | (refine Below.alloc ?_ ?_ _; rotate_left; first | exact Nat.le_refl _ | (simp; omega) | simp)))
  · obtain ⟨s, hs⟩ := hW 11 (by decide)
    have hs2 := fun o => keepc ((Below.refl w.heap.size w).alloc (Nat.le_refl _) o) hs
    clear hW h1 h2
    go_enter Tryd.func16, Tryd.ntmps16
    go_wp2
    ((try simp only [Exit.inBlock, Exit.then]); refine bodyPost_ret_by (v := (.tuple #[.agg #[.string s, .bool true, .bool false, .int .i64 2, .int .i64 2], .bool true])) ((results_cell_tmp rfl _ _ _).trans (by go_simp; try rfl)) rfl ?_)
    refine ⟨?_, s, rfl⟩
    (repeat (first | with_reducible assumption | exact (Below.refl _ _).alloc (Nat.le_refl _) _ | exact Below.refl _ _ | (refine Below.drew ?_) | (refine Below.setCell ?_ ?_ _; rotate_left; first | exact Nat.le_refl _ | (dsimp only; omega)) | (refine Below.alloc ?_ ?_ _; rotate_left; first | exact Nat.le_refl _ | (simp; omega) | simp)))
  · obtain ⟨s, hs⟩ := hW 12 (by decide)
    have hs2 := fun o => keepc ((Below.refl w.heap.size w).alloc (Nat.le_refl _) o) hs
    clear hW h1 h2
    go_enter Tryd.func16, Tryd.ntmps16
    go_wp2
    ((try simp only [Exit.inBlock, Exit.then]); refine bodyPost_ret_by (v := (.tuple #[.agg #[.string s, .bool true, .bool false, .int .i64 2, .int .i64 2], .bool true])) ((results_cell_tmp rfl _ _ _).trans (by go_simp; try rfl)) rfl ?_)
    refine ⟨?_, s, rfl⟩
    (repeat (first | with_reducible assumption | exact (Below.refl _ _).alloc (Nat.le_refl _) _ | exact Below.refl _ _ | (refine Below.drew ?_) | (refine Below.setCell ?_ ?_ _; rotate_left; first | exact Nat.le_refl _ | (dsimp only; omega)) | (refine Below.alloc ?_ ?_ _; rotate_left; first | exact Nat.le_refl _ | (simp; omega) | simp)))
  · obtain ⟨s, hs⟩ := hW 13 (by decide)
    have hs2 := fun o => keepc ((Below.refl w.heap.size w).alloc (Nat.le_refl _) o) hs
    clear hW h1 h2
    go_enter Tryd.func16, Tryd.ntmps16
    go_wp2
    ((try simp only [Exit.inBlock, Exit.then]); refine bodyPost_ret_by (v := (.tuple #[.agg #[.string s, .bool true, .bool false, .int .i64 2, .int .i64 2], .bool true])) ((results_cell_tmp rfl _ _ _).trans (by go_simp; try rfl)) rfl ?_)
    refine ⟨?_, s, rfl⟩
    (repeat (first | with_reducible assumption | exact (Below.refl _ _).alloc (Nat.le_refl _) _ | exact Below.refl _ _ | (refine Below.drew ?_) | (refine Below.setCell ?_ ?_ _; rotate_left; first | exact Nat.le_refl _ | (dsimp only; omega)) | (refine Below.alloc ?_ ?_ _; rotate_left; first | exact Nat.le_refl _ | (simp; omega) | simp)))
  · obtain ⟨s, hs⟩ := hW 14 (by decide)
    have hs2 := fun o => keepc ((Below.refl w.heap.size w).alloc (Nat.le_refl _) o) hs
    clear hW h1 h2
    go_enter Tryd.func16, Tryd.ntmps16
    go_wp2
    ((try simp only [Exit.inBlock, Exit.then]); refine bodyPost_ret_by (v := (.tuple #[.agg #[.string s, .bool true, .bool false, .int .i64 2, .int .i64 2], .bool true])) ((results_cell_tmp rfl _ _ _).trans (by go_simp; try rfl)) rfl ?_)
    refine ⟨?_, s, rfl⟩
    (repeat (first | with_reducible assumption | exact (Below.refl _ _).alloc (Nat.le_refl _) _ | exact Below.refl _ _ | (refine Below.drew ?_) | (refine Below.setCell ?_ ?_ _; rotate_left; first | exact Nat.le_refl _ | (dsimp only; omega)) | (refine Below.alloc ?_ ?_ _; rotate_left; first | exact Nat.le_refl _ | (simp; omega) | simp)))
  · obtain ⟨s, hs⟩ := hW 15 (by decide)
    have hs2 := fun o => keepc ((Below.refl w.heap.size w).alloc (Nat.le_refl _) o) hs
    clear hW h1 h2
    go_enter Tryd.func16, Tryd.ntmps16
    go_wp2
    ((try simp only [Exit.inBlock, Exit.then]); refine bodyPost_ret_by (v := (.tuple #[.agg #[.string s, .bool true, .bool false, .int .i64 2, .int .i64 2], .bool true])) ((results_cell_tmp rfl _ _ _).trans (by go_simp; try rfl)) rfl ?_)
    refine ⟨?_, s, rfl⟩
    (repeat (first | with_reducible assumption | exact (Below.refl _ _).alloc (Nat.le_refl _) _ | exact Below.refl _ _ | (refine Below.drew ?_) | (refine Below.setCell ?_ ?_ _; rotate_left; first | exact Nat.le_refl _ | (dsimp only; omega)) | (refine Below.alloc ?_ ?_ _; rotate_left; first | exact Nat.le_refl _ | (simp; omega) | simp)))
  · obtain ⟨s, hs⟩ := hW 16 (by decide)
    have hs2 := fun o => keepc ((Below.refl w.heap.size w).alloc (Nat.le_refl _) o) hs
    clear hW h1 h2
    go_enter Tryd.func16, Tryd.ntmps16
    go_wp2
    ((try simp only [Exit.inBlock, Exit.then]); refine bodyPost_ret_by (v := (.tuple #[.agg #[.string s, .bool true, .bool false, .int .i64 2, .int .i64 2], .bool true])) ((results_cell_tmp rfl _ _ _).trans (by go_simp; try rfl)) rfl ?_)
    refine ⟨?_, s, rfl⟩
    (repeat (first | with_reducible assumption | exact (Below.refl _ _).alloc (Nat.le_refl _) _ | exact Below.refl _ _ | (refine Below.drew ?_) | (refine Below.setCell ?_ ?_ _; rotate_left; first | exact Nat.le_refl _ | (dsimp only; omega)) | (refine Below.alloc ?_ ?_ _; rotate_left; first | exact Nat.le_refl _ | (simp; omega) | simp)))
  · obtain ⟨s, hs⟩ := hW 17 (by decide)
    have hs2 := fun o => keepc ((Below.refl w.heap.size w).alloc (Nat.le_refl _) o) hs
    clear hW h1 h2
    go_enter Tryd.func16, Tryd.ntmps16
    go_wp2
    ((try simp only [Exit.inBlock, Exit.then]); refine bodyPost_ret_by (v := (.tuple #[.agg #[.string s, .bool true, .bool false, .int .i64 2, .int .i64 2], .bool true])) ((results_cell_tmp rfl _ _ _).trans (by go_simp; try rfl)) rfl ?_)
    refine ⟨?_, s, rfl⟩
    (repeat (first | with_reducible assumption | exact (Below.refl _ _).alloc (Nat.le_refl _) _ | exact Below.refl _ _ | (refine Below.drew ?_) | (refine Below.setCell ?_ ?_ _; rotate_left; first | exact Nat.le_refl _ | (dsimp only; omega)) | (refine Below.alloc ?_ ?_ _; rotate_left; first | exact Nat.le_refl _ | (simp; omega) | simp)))
  · obtain ⟨s, hs⟩ := hW 18 (by decide)
    have hs2 := fun o => keepc ((Below.refl w.heap.size w).alloc (Nat.le_refl _) o) hs
    clear hW h1 h2
    go_enter Tryd.func16, Tryd.ntmps16
    go_wp2
    ((try simp only [Exit.inBlock, Exit.then]); refine bodyPost_ret_by (v := (.tuple #[.agg #[.string s, .bool true, .bool false, .int .i64 2, .int .i64 2], .bool true])) ((results_cell_tmp rfl _ _ _).trans (by go_simp; try rfl)) rfl ?_)
    refine ⟨?_, s, rfl⟩
    (repeat (first | with_reducible assumption | exact (Below.refl _ _).alloc (Nat.le_refl _) _ | exact Below.refl _ _ | (refine Below.drew ?_) | (refine Below.setCell ?_ ?_ _; rotate_left; first | exact Nat.le_refl _ | (dsimp only; omega)) | (refine Below.alloc ?_ ?_ _; rotate_left; first | exact Nat.le_refl _ | (simp; omega) | simp)))
  · obtain ⟨s, hs⟩ := hW 19 (by decide)
    have hs2 := fun o => keepc ((Below.refl w.heap.size w).alloc (Nat.le_refl _) o) hs
    clear hW h1 h2
    go_enter Tryd.func16, Tryd.ntmps16
    go_wp2
    ((try simp only [Exit.inBlock, Exit.then]); refine bodyPost_ret_by (v := (.tuple #[.agg #[.string s, .bool true, .bool false, .int .i64 2, .int .i64 2], .bool true])) ((results_cell_tmp rfl _ _ _).trans (by go_simp; try rfl)) rfl ?_)
    refine ⟨?_, s, rfl⟩
    (repeat (first | with_reducible assumption | exact (Below.refl _ _).alloc (Nat.le_refl _) _ | exact Below.refl _ _ | (refine Below.drew ?_) | (refine Below.setCell ?_ ?_ _; rotate_left; first | exact Nat.le_refl _ | (dsimp only; omega)) | (refine Below.alloc ?_ ?_ _; rotate_left; first | exact Nat.le_refl _ | (simp; omega) | simp)))
  · obtain ⟨s, hs⟩ := hW 20 (by decide)
    have hs2 := fun o => keepc ((Below.refl w.heap.size w).alloc (Nat.le_refl _) o) hs
    clear hW h1 h2
    go_enter Tryd.func16, Tryd.ntmps16
    go_wp2
    ((try simp only [Exit.inBlock, Exit.then]); refine bodyPost_ret_by (v := (.tuple #[.agg #[.string s, .bool true, .bool false, .int .i64 2, .int .i64 2], .bool true])) ((results_cell_tmp rfl _ _ _).trans (by go_simp; try rfl)) rfl ?_)
    refine ⟨?_, s, rfl⟩
    (repeat (first | with_reducible assumption | exact (Below.refl _ _).alloc (Nat.le_refl _) _ | exact Below.refl _ _ | (refine Below.drew ?_) | (refine Below.setCell ?_ ?_ _; rotate_left; first | exact Nat.le_refl _ | (dsimp only; omega)) | (refine Below.alloc ?_ ?_ _; rotate_left; first | exact Nat.le_refl _ | (simp; omega) | simp)))
  · obtain ⟨s, hs⟩ := hW 21 (by decide)
    have hs2 := fun o => keepc ((Below.refl w.heap.size w).alloc (Nat.le_refl _) o) hs
    clear hW h1 h2
    go_enter Tryd.func16, Tryd.ntmps16
    go_wp2
    ((try simp only [Exit.inBlock, Exit.then]); refine bodyPost_ret_by (v := (.tuple #[.agg #[.string s, .bool true, .bool false, .int .i64 2, .int .i64 2], .bool true])) ((results_cell_tmp rfl _ _ _).trans (by go_simp; try rfl)) rfl ?_)
    refine ⟨?_, s, rfl⟩
    (repeat (first | with_reducible assumption | exact (Below.refl _ _).alloc (Nat.le_refl _) _ | exact Below.refl _ _ | (refine Below.drew ?_) | (refine Below.setCell ?_ ?_ _; rotate_left; first | exact Nat.le_refl _ | (dsimp only; omega)) | (refine Below.alloc ?_ ?_ _; rotate_left; first | exact Nat.le_refl _ | (simp; omega) | simp)))
  · obtain ⟨s, hs⟩ := hW 22 (by decide)
    have hs2 := fun o => keepc ((Below.refl w.heap.size w).alloc (Nat.le_refl _) o) hs
    clear hW h1 h2
    go_enter Tryd.func16, Tryd.ntmps16
    go_wp2
    ((try simp only [Exit.inBlock, Exit.then]); refine bodyPost_ret_by (v := (.tuple #[.agg #[.string s, .bool true, .bool false, .int .i64 1, .int .i64 1], .bool true])) ((results_cell_tmp rfl _ _ _).trans (by go_simp; try rfl)) rfl ?_)
    refine ⟨?_, s, rfl⟩
    (repeat (first | with_reducible assumption | exact (Below.refl _ _).alloc (Nat.le_refl _) _ | exact Below.refl _ _ | (refine Below.drew ?_) | (refine Below.setCell ?_ ?_ _; rotate_left; first | exact Nat.le_refl _ | (dsimp only; omega)) | (refine Below.alloc ?_ ?_ _; rotate_left; first | exact Nat.le_refl _ | (simp; omega) | simp)))
  · obtain ⟨s, hs⟩ := hW 23 (by decide)
    have hs2 := fun o => keepc ((Below.refl w.heap.size w).alloc (Nat.le_refl _) o) hs
    clear hW h1 h2
    go_enter Tryd.func16, Tryd.ntmps16
    go_wp2
    ((try simp only [Exit.inBlock, Exit.then]); refine bodyPost_ret_by (v := (.tuple #[.agg #[.string s, .bool true, .bool false, .int .i64 1, .int .i64 1], .bool true])) ((results_cell_tmp rfl _ _ _).trans (by go_simp; try rfl)) rfl ?_)
    refine ⟨?_, s, rfl⟩
    (repeat (first | with_reducible assumption | exact (Below.refl _ _).alloc (Nat.le_refl _) _ | exact Below.refl _ _ | (refine Below.drew ?_) | (refine Below.setCell ?_ ?_ _; rotate_left; first | exact Nat.le_refl _ | (dsimp only; omega)) | (refine Below.alloc ?_ ?_ _; rotate_left; first | exact Nat.le_refl _ | (simp; omega) | simp)))
  · obtain ⟨s, hs⟩ := hW 24 (by decide)
    have hs2 := fun o => keepc ((Below.refl w.heap.size w).alloc (Nat.le_refl _) o) hs
    clear hW h1 h2
    go_enter Tryd.func16, Tryd.ntmps16
    go_wp2
    ((try simp only [Exit.inBlock, Exit.then]); refine bodyPost_ret_by (v := (.tuple #[.agg #[.string s, .bool true, .bool false, .int .i64 1, .int .i64 1], .bool true])) ((results_cell_tmp rfl _ _ _).trans (by go_simp; try rfl)) rfl ?_)
    refine ⟨?_, s, rfl⟩
    (repeat (first | with_reducible assumption | exact (Below.refl _ _).alloc (Nat.le_refl _) _ | exact Below.refl _ _ | (refine Below.drew ?_) | (refine Below.setCell ?_ ?_ _; rotate_left; first | exact Nat.le_refl _ | (dsimp only; omega)) | (refine Below.alloc ?_ ?_ _; rotate_left; first | exact Nat.le_refl _ | (simp; omega) | simp)))
  · obtain ⟨s, hs⟩ := hW 25 (by decide)
    have hs2 := fun o => keepc ((Below.refl w.heap.size w).alloc (Nat.le_refl _) o) hs
    clear hW h1 h2
    go_enter Tryd.func16, Tryd.ntmps16
    go_wp2
    ((try simp only [Exit.inBlock, Exit.then]); refine bodyPost_ret_by (v := (.tuple #[.agg #[.string s, .bool true, .bool true, .int .i64 0, .int .i64 8], .bool true])) ((results_cell_tmp rfl _ _ _).trans (by go_simp; try rfl)) rfl ?_)
    refine ⟨?_, s, rfl⟩
    (repeat (first | with_reducible assumption | exact (Below.refl _ _).alloc (Nat.le_refl _) _ | exact Below.refl _ _ | (refine Below.drew ?_) | (refine Below.setCell ?_ ?_ _; rotate_left; first | exact Nat.le_refl _ | (dsimp only; omega)) | (refine Below.alloc ?_ ?_ _; rotate_left; first | exact Nat.le_refl _ | (simp; omega) | simp)))
  · obtain ⟨s, hs⟩ := hW 26 (by decide)
    have hs2 := fun o => keepc ((Below.refl w.heap.size w).alloc (Nat.le_refl _) o) hs
    clear hW h1 h2
    go_enter Tryd.func16, Tryd.ntmps16
    go_wp2
    ((try simp only [Exit.inBlock, Exit.then]); refine bodyPost_ret_by (v := (.tuple #[.agg #[.string s, .bool true, .bool true, .int .i64 1, .int .i64 1], .bool true])) ((results_cell_tmp rfl _ _ _).trans (by go_simp; try rfl)) rfl ?_)
    refine ⟨?_, s, rfl⟩
    (repeat (first | with_reducible assumption | exact (Below.refl _ _).alloc (Nat.le_refl _) _ | exact Below.refl _ _ | (refine Below.drew ?_) | (refine Below.setCell ?_ ?_ _; rotate_left; first | exact Nat.le_refl _ | (dsimp only; omega)) | (refine Below.alloc ?_ ?_ _; rotate_left; first | exact Nat.le_refl _ | (simp; omega) | simp)))
  · obtain ⟨s, hs⟩ := hW 27 (by decide)
    have hs2 := fun o => keepc ((Below.refl w.heap.size w).alloc (Nat.le_refl _) o) hs
    clear hW h1 h2
    go_enter Tryd.func16, Tryd.ntmps16
    go_wp2
    ((try simp only [Exit.inBlock, Exit.then]); refine bodyPost_ret_by (v := (.tuple #[.agg #[.string s, .bool false, .bool true, .int .i64 2, .int .i64 2], .bool true])) ((results_cell_tmp rfl _ _ _).trans (by go_simp; try rfl)) rfl ?_)
    refine ⟨?_, s, rfl⟩
    (repeat (first | with_reducible assumption | exact (Below.refl _ _).alloc (Nat.le_refl _) _ | exact Below.refl _ _ | (refine Below.drew ?_) | (refine Below.setCell ?_ ?_ _; rotate_left; first | exact Nat.le_refl _ | (dsimp only; omega)) | (refine Below.alloc ?_ ?_ _; rotate_left; first | exact Nat.le_refl _ | (simp; omega) | simp)))
  · obtain ⟨s, hs⟩ := hW 28 (by decide)
    have hs2 := fun o => keepc ((Below.refl w.heap.size w).alloc (Nat.le_refl _) o) hs
    clear hW h1 h2
    go_enter Tryd.func16, Tryd.ntmps16
    go_wp2
    ((try simp only [Exit.inBlock, Exit.then]); refine bodyPost_ret_by (v := (.tuple #[.agg #[.string s, .bool true, .bool false, .int .i64 2, .int .i64 2], .bool true])) ((results_cell_tmp rfl _ _ _).trans (by go_simp; try rfl)) rfl ?_)
    refine ⟨?_, s, rfl⟩
    (repeat (first | with_reducible assumption | exact (Below.refl _ _).alloc (Nat.le_refl _) _ | exact Below.refl _ _ | (refine Below.drew ?_) | (refine Below.setCell ?_ ?_ _; rotate_left; first | exact Nat.le_refl _ | (dsimp only; omega)) | (refine Below.alloc ?_ ?_ _; rotate_left; first | exact Nat.le_refl _ | (simp; omega) | simp)))
  · obtain ⟨s, hs⟩ := hW 29 (by decide)
    have hs2 := fun o => keepc ((Below.refl w.heap.size w).alloc (Nat.le_refl _) o) hs
    clear hW h1 h2
    go_enter Tryd.func16, Tryd.ntmps16
    go_wp2
    ((try simp only [Exit.inBlock, Exit.then]); refine bodyPost_ret_by (v := (.tuple #[.agg #[.string s, .bool true, .bool true, .int .i64 0, .int .i64 0], .bool true])) ((results_cell_tmp rfl _ _ _).trans (by go_simp; try rfl)) rfl ?_)
    refine ⟨?_, s, rfl⟩
    (repeat (first | with_reducible assumption | exact (Below.refl _ _).alloc (Nat.le_refl _) _ | exact Below.refl _ _ | (refine Below.drew ?_) | (refine Below.setCell ?_ ?_ _; rotate_left; first | exact Nat.le_refl _ | (dsimp only; omega)) | (refine Below.alloc ?_ ?_ _; rotate_left; first | exact Nat.le_refl _ | (simp; omega) | simp)))
  · obtain ⟨s, hs⟩ := hW 30 (by decide)
    have hs2 := fun o => keepc ((Below.refl w.heap.size w).alloc (Nat.le_refl _) o) hs
    clear hW h1 h2
    go_enter Tryd.func16, Tryd.ntmps16
    go_wp2
    ((try simp only [Exit.inBlock, Exit.then]); refine bodyPost_ret_by (v := (.tuple #[.agg #[.string s, .bool false, .bool true, .int .i64 1, .int .i64 1], .bool true])) ((results_cell_tmp rfl _ _ _).trans (by go_simp; try rfl)) rfl ?_)
    refine ⟨?_, s, rfl⟩
    (repeat (first | with_reducible assumption | exact (Below.refl _ _).alloc (Nat.le_refl _) _ | exact Below.refl _ _ | (refine Below.drew ?_) | (refine Below.setCell ?_ ?_ _; rotate_left; first | exact Nat.le_refl _ | (dsimp only; omega)) | (refine Below.alloc ?_ ?_ _; rotate_left; first | exact Nat.le_refl _ | (simp; omega) | simp)))
  · obtain ⟨s, hs⟩ := hW 31 (by decide)
    have hs2 := fun o => keepc ((Below.refl w.heap.size w).alloc (Nat.le_refl _) o) hs
    clear hW h1 h2
    go_enter Tryd.func16, Tryd.ntmps16
    go_wp2
    ((try simp only [Exit.inBlock, Exit.then]); refine bodyPost_ret_by (v := (.tuple #[.agg #[.string s, .bool true, .bool true, .int .i64 0, .int .i64 8], .bool true])) ((results_cell_tmp rfl _ _ _).trans (by go_simp; try rfl)) rfl ?_)
    refine ⟨?_, s, rfl⟩
    (repeat (first | with_reducible assumption | exact (Below.refl _ _).alloc (Nat.le_refl _) _ | exact Below.refl _ _ | (refine Below.drew ?_) | (refine Below.setCell ?_ ?_ _; rotate_left; first | exact Nat.le_refl _ | (dsimp only; omega)) | (refine Below.alloc ?_ ?_ _; rotate_left; first | exact Nat.le_refl _ | (simp; omega) | simp)))
  · obtain ⟨s, hs⟩ := hW 32 (by decide)
    have hs2 := fun o => keepc ((Below.refl w.heap.size w).alloc (Nat.le_refl _) o) hs
    clear hW h1 h2
    go_enter Tryd.func16, Tryd.ntmps16
    go_wp2
    ((try simp only [Exit.inBlock, Exit.then]); refine bodyPost_ret_by (v := (.tuple #[.agg #[.string s, .bool true, .bool true, .int .i64 0, .int .i64 8], .bool true])) ((results_cell_tmp rfl _ _ _).trans (by go_simp; try rfl)) rfl ?_)
    refine ⟨?_, s, rfl⟩
    (repeat (first | with_reducible assumption | exact (Below.refl _ _).alloc (Nat.le_refl _) _ | exact Below.refl _ _ | (refine Below.drew ?_) | (refine Below.setCell ?_ ?_ _; rotate_left; first | exact Nat.le_refl _ | (dsimp only; omega)) | (refine Below.alloc ?_ ?_ _; rotate_left; first | exact Nat.le_refl _ | (simp; omega) | simp)))
  · obtain ⟨s, hs⟩ := hW 33 (by decide)
    have hs2 := fun o => keepc ((Below.refl w.heap.size w).alloc (Nat.le_refl _) o) hs
    clear hW h1 h2
    go_enter Tryd.func16, Tryd.ntmps16
    go_wp2
    ((try simp only [Exit.inBlock, Exit.then]); refine bodyPost_ret_by (v := (.tuple #[.agg #[.string s, .bool false, .bool false, .int .i64 1, .int .i64 1], .bool true])) ((results_cell_tmp rfl _ _ _).trans (by go_simp; try rfl)) rfl ?_)
    refine ⟨?_, s, rfl⟩
    (repeat (first | with_reducible assumption | exact (Below.refl _ _).alloc (Nat.le_refl _) _ | exact Below.refl _ _ | (refine Below.drew ?_) | (refine Below.setCell ?_ ?_ _; rotate_left; first | exact Nat.le_refl _ | (dsimp only; omega)) | (refine Below.alloc ?_ ?_ _; rotate_left; first | exact Nat.le_refl _ | (simp; omega) | simp)))
  · obtain ⟨s, hs⟩ := hW 34 (by decide)
    have hs2 := fun o => keepc ((Below.refl w.heap.size w).alloc (Nat.le_refl _) o) hs
    clear hW h1 h2
    go_enter Tryd.func16, Tryd.ntmps16
    go_wp2
    ((try simp only [Exit.inBlock, Exit.then]); refine bodyPost_ret_by (v := (.tuple #[.agg #[.string s, .bool false, .bool false, .int .i64 0, .int .i64 0], .bool true])) ((results_cell_tmp rfl _ _ _).trans (by go_simp; try rfl)) rfl ?_)
    refine ⟨?_, s, rfl⟩
    (repeat (first | with_reducible assumption | exact (Below.refl _ _).alloc (Nat.le_refl _) _ | exact Below.refl _ _ | (refine Below.drew ?_) | (refine Below.setCell ?_ ?_ _; rotate_left; first | exact Nat.le_refl _ | (dsimp only; omega)) | (refine Below.alloc ?_ ?_ _; rotate_left; first | exact Nat.le_refl _ | (simp; omega) | simp)))
set_option maxHeartbeats 4000000 in
theorem each_val {wa w9 w : World} (ha : Below wa.heap.size wa w) (h9 : Below w9.heap.size w9 w) {l : List ByteArray} {t : Value} (hl : Row AtS 1 wa t l) {vs : List Vr} {u : Value} (hv : Row AtV 2 w9 u vs) :
    Calls Tryd.prog 21 #[t, u] w fun e w' => e = .returned (.bool (fitB l vs)) ∧ Below w.heap.size w w' := by
  obtain ⟨p1, k1, rfl, -, n1, hl⟩ := hl
  obtain ⟨p2, k2, rfl, -, n2, hv⟩ := hv
  generalize hf : fitB l vs = r0
  replace hf := Lib.hid hf
  go_enter Tryd.func21, Tryd.ntmps21
  go_wp2
  go_loopw [5] (fun i wr => ∃ q : Nat, q ≤ l.length ∧ q ≤ vs.length ∧ i = .int .i64 (q : Int) ∧ Hid (fitB (l.drop q) (vs.drop q) = r0) ∧ Below w.heap.size w wr) (fun i _ => l.length - (intOf i).toNat)
  case atStart => exact ⟨0, Nat.zero_le _, Nat.zero_le _, rfl, hf, Below.refl _ _⟩
  case round =>
    clear hf
    obtain ⟨q, hq, hq2, rfl, hf, hb⟩ := hrel
    replace hf := hf.out
    by_cases hend : q = l.length
    · subst hend
      rw [List.drop_length] at hf
      by_cases hen2 : l.length = vs.length
      · rw [show vs.drop l.length = [] by rw [hen2, List.drop_length]] at hf
        replace hf : true = r0 := hf
        subst hf
        have hen3 : ((l.length : Int) == (vs.length : Int)) = true := by simp [hen2]
        rw [← hen2] at hen3
        rw [← hen2]
        clear hl hv hen2
        go_wp2
        go_ret
        exact ⟨rfl, hb⟩
      · have hd : fitB [] (vs.drop l.length) = false := by
          rw [fitB_len]
          simp
          omega
        rw [hd] at hf
        subst hf
        have hen3 : ((l.length : Int) == (vs.length : Int)) = false := by
          rw [beq_eq_false_iff_ne]
          omega
        have hen4 : ¬ l.length = vs.length := hen2
        clear hl hv hen2 hd
        go_wp2
        go_ret
        exact ⟨rfl, hb⟩
    · have hlt : q < l.length := by omega
      have hltI : (q : Int) < (l.length : Int) := by omega
      obtain ⟨a, rfl, c0, -⟩ := hl q l[q] (by simp [hlt])
      rw [Nat.mul_one] at c0
      replace c0 := keepc (bthen' ha hb) c0
      have hdr := (Below.refl wr.heap.size wr).drew
      by_cases hen2 : q = vs.length
      · have hd : fitB (l.drop q) (vs.drop q) = false := by
          rw [fitB_len]
          simp
          omega
        rw [hd] at hf
        subst hf
        have h3 : ¬ (q : Int) < (vs.length : Int) := by omega
        have h3b : decide ((vs.length : Int) ≤ (q : Int)) = true := decide_eq_true (by omega)
        have h3c : (vs.length : Int) ≤ (q : Int) := by omega
        have h3d : vs.length ≤ q := by omega
        clear hl hv hen2 hd
        go_wp2_with fail
        refine wp_region_ser (S := fun _ v => Below wr.heap.size wr v) rfl (by kernel_rfl) hdr ?_
        iterate 17 (first | ((refine Ser.step (a1 := ?_) rfl (fun L w1 K' Q' hS hi hR hd hK => ?_) ?_ ?_; rotate_left); (· ((skip); go_simp; (try simp only [Act.put, List.setIfInBounds_toArray, List.set_cons_zero, List.set_cons_succ]); exact hK.out _ (hS))); (· rfl)) | (refine Ser.skip rfl (fun L w1 hS hi => (hS)) ?_; (try simp only [Act.put, List.setIfInBounds_toArray, List.set_cons_zero, List.set_cons_succ])))
        refine Ser.nil fun w4 hS4 => ?_
        have hb5 := bthen' hb hS4
        clear c0 hdr
        go_wp2_with fail
        go_ret
        exact ⟨rfl, hb5⟩
      · have hlt2 : q < vs.length := by omega
        have hlt2I : (q : Int) < (vs.length : Int) := by omega
        have h3b : decide ((vs.length : Int) ≤ (q : Int)) = false := decide_eq_false (by omega)
        have h3c : ¬ (vs.length : Int) ≤ (q : Int) := by omega
        have h3d : ¬ vs.length ≤ q := by omega
        rw [List.drop_eq_getElem_cons hlt, List.drop_eq_getElem_cons hlt2, fitB] at hf
        obtain ⟨b, rfl, -, d1, -⟩ := hv q vs[q] (by simp [hlt2])
        replace d1 := keepc (bthen' h9 hb) d1
        clear hl hv
        generalize l[q] = s at *
        generalize vs[q] = y at *
        have hF := fun v => rfits_val s y.t v
        generalize fitsB s y.t = kk at *
        replace hf := Lib.hid hf
        go_wp2_with fail
        refine wp_region_ser (S := fun _ v => Below wr.heap.size wr v) rfl (by kernel_rfl) hdr ?_
        iterate 17 (first | ((refine Ser.step (a1 := ?_) rfl (fun L w1 K' Q' hS hi hR hd hK => ?_) ?_ ?_; rotate_left); (· ((skip); go_simp; (try simp only [Act.put, List.setIfInBounds_toArray, List.set_cons_zero, List.set_cons_succ]); exact hK.out _ (hS))); (· rfl)) | ((refine Ser.step (a1 := ?_) rfl (fun L w1 K' Q' hS hi hR hd hK => ?_) ?_ ?_; rotate_left); (· ((replace c0 := keepc hS c0; replace d1 := keepc hS d1); go_simp; (try simp only [Act.put, List.setIfInBounds_toArray, List.set_cons_zero, List.set_cons_succ]); exact hK.out _ (hS))); (· rfl)) | ((refine Ser.step (a1 := ?_) rfl (fun L w1 K' Q' hS hi hR hd hK => ?_) ?_ ?_; rotate_left); (· (go_simp; go_wp2_with ((refine (hF _).mono ?_; rintro e w2 ⟨rfl, rfl⟩)); (try simp only [Act.put, List.setIfInBounds_toArray, List.set_cons_zero, List.set_cons_succ]); exact hK.out _ (hS))); (· rfl)))
        refine Ser.nil fun w4 hS4 => ?_
        have hb5 := bthen' hb hS4
        replace hf := hf.out
        clear hF hdr c0 d1
        cases kk
        · replace hf : false = r0 := hf
          subst hf
          go_wp2_with fail
          go_ret
          exact ⟨rfl, hb5⟩
        · rw [Bool.true_and] at hf
          replace hf := Lib.hid hf
          go_wp2_with fail
          go_roundw
          case rel => exact ⟨q + 1, by omega, by omega, by go_num, hf, hb5⟩
          case measure => simp [intOf]; omega
end Go.Proofs.YtjohjpjpfglkkaaDoor
