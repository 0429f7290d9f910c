/- The forms of instructions: syntax.Of. -/
import Derived.Test.YtjohjpjpfglkkaaDoorTyp
namespace Go.Proofs.YtjohjpjpfglkkaaDoor
open Go.RowKit

structure Fm where (d n : Bool) (l m : Int)
def formOf (op : Int) : Option Fm :=
  if 1 ≤ op ∧ op ≤ 21 then some ⟨true, false, 2, 2⟩ else if 22 ≤ op ∧ op ≤ 24 then some ⟨true, false, 1, 1⟩
  else if op = 25 then some ⟨true, true, 0, 8⟩ else if op = 26 then some ⟨true, true, 1, 1⟩ else if op = 27 then some ⟨false, true, 2, 2⟩ else if op = 28 then some ⟨true, false, 2, 2⟩
  else if op = 29 then some ⟨true, true, 0, 0⟩ else if op = 30 then some ⟨false, true, 1, 1⟩ else if op = 31 then some ⟨true, true, 0, 8⟩ else if op = 32 then some ⟨true, true, 0, 8⟩
  else if op = 33 then some ⟨false, false, 1, 1⟩ else if op = 34 then some ⟨false, false, 0, 0⟩ else none
def OutFm (r : Option Fm) (e : Ending) : Prop := match r with
  | some f => ∃ t : ByteArray, e = .returned (.tuple #[.agg #[.string t, .bool f.d, .bool f.n, .int .i64 f.l, .int .i64 f.m], .bool true])
  | none => e = .returned (.tuple #[.agg #[.string ⟨#[]⟩, .bool false, .bool false, .int .i64 0, .int .i64 0], .bool false])
def OutStr (e : Ending) : Prop := ∃ t : ByteArray, e = .returned (.string t)

set_option maxHeartbeats 2000000 in
theorem nth_val (s : ByteArray) (hs : 1 ≤ s.size ∧ s.size ≤ 200) (n : Int) (hn : 1 ≤ n ∧ n ≤ 30) (w : World) : Calls Tryd.prog 55 #[.string s, .int .i64 n] w fun e w' => w = w' ∧ OutStr e := by
  go_enter Tryd.func55, Tryd.ntmps55
  go_wp2
  go_loopw [1, 5, 6] (fun m f i wr => ∃ q a : Nat, ∃ k : Int, q ≤ s.size ∧ a < q ∧ i = .int .i64 (q : Int) ∧ f = .int .i64 (a : Int) ∧ m = .int .i64 k ∧ 1 ≤ k ∧ k ≤ 30 ∧ wr = w) (fun _ _ i _ => s.size - (intOf i).toNat)
  case atStart => exact ⟨1, 0, n, hs.1, by omega, rfl, rfl, rfl, hn.1, hn.2, rfl⟩
  case round =>
    obtain ⟨q, a, k, hq, ha, rfl, rfl, rfl, hk1, hk2, rfl⟩ := hrel
    by_cases hend : q = s.size
    · subst hend
      go_wp2
      go_ret
      exact ⟨rfl, _, rfl⟩
    · have hlt : q < s.size := by omega
      have hqI : (q : Int) < (s.size : Int) := by omega
      generalize hcc : s[q] = c
      have hcell : s[q] = c := hcc
      clear hcc hend
      by_cases h32 : c = 32
      · subst h32
        have hc : (((32 : UInt8).toNat : Nat) : Int) = 32 := rfl
        by_cases hk : k = 1
        · subst hk
          go_wp2
          go_ret
          exact ⟨rfl, _, rfl⟩
        · have hk0 : (k - 1 == 0) = false := by simp; omega
          go_wp2
          go_roundw
          case rel => exact ⟨q + 1, q, k - 1, by omega, by omega, by go_num, rfl, by go_num, by omega, by omega, trivial⟩
          case measure => simp [intOf]; omega
      · have hc : ((c.toNat : Int) != 32) = true := by simp only [bne_iff_ne]; exact fun h => h32 (UInt8.toNat_inj.1 (by show c.toNat = 32; omega))
        go_wp2
        go_roundw
        case rel => exact ⟨q + 1, a, k, by omega, by omega, by go_num, rfl, rfl, hk1, hk2, trivial⟩
        case measure => simp [intOf]; omega
theorem formOf_lo {op : Int} (h : 1 ≤ op ∧ op ≤ 21) : formOf op = some ⟨true, false, 2, 2⟩ := by unfold formOf; rw [if_pos h]
theorem formOf_mi {op : Int} (h : 22 ≤ op ∧ op ≤ 24) : formOf op = some ⟨true, false, 1, 1⟩ := by unfold formOf; rw [if_neg (by omega), if_pos h]
theorem formOf_no {op : Int} (h : op < 1 ∨ 34 < op) : formOf op = none := by
  unfold formOf
  rw [if_neg (by omega), if_neg (by omega), if_neg (by omega), if_neg (by omega), if_neg (by omega), if_neg (by omega), if_neg (by omega), if_neg (by omega), if_neg (by omega), if_neg (by omega), if_neg (by omega), if_neg (by omega)]
set_option maxHeartbeats 8000000 in
theorem form_val (op : Int) (w : World) : Calls Tryd.prog 39 #[.int .i64 op] w fun e w' => Below w.heap.size w w' ∧ OutFm (formOf op) e := by
  have hb := (Below.refl w.heap.size w).alloc (Nat.le_refl _) (.cells #[.string ⟨#[]⟩, .bool false, .bool false, .int .i64 0, .int .i64 0] 94)
  have hB := Box.alloc w [.string ⟨#[]⟩, .bool false, .bool false, .int .i64 0, .int .i64 0] 94
  have g0 := hB.f 0 (by simp)
  have g1 := hB.f 1 (by simp)
  have g2 := hB.f 2 (by simp)
  have g3 := hB.f 3 (by simp)
  have g4 := hB.f 4 (by simp)
  have b0 := hB.c 0 _ rfl
  have b1 := hB.c 1 _ rfl
  have b2 := hB.c 2 _ rfl
  have b3 := hB.c 3 _ rfl
  have b4 := hB.c 4 _ rfl
  clear hB
  by_cases h1 : 1 ≤ op ∧ op ≤ 21
  · rw [formOf_lo h1]
    obtain ⟨l1, l2⟩ := h1
    go_enter Tryd.func39, Tryd.ntmps39
    go_wp2_with fail
    refine (nth_val _ (by decide) op ⟨l1, by omega⟩ _).mono ?_
    rintro e w1 ⟨rfl, t, rfl⟩
    go_wp2_with fail
    ((try simp only [Exit.inBlock, Exit.then]); refine bodyPost_ret_by (v := (.tuple #[.agg #[.string t, .bool true, .bool false, .int .i64 2, .int .i64 2], .bool true])) ((results_cell_tmp rfl _ _ _).trans (by go_simp; try rfl)) rfl ?_)
    exact ⟨by (repeat (first | with_reducible assumption | exact (Below.refl _ _).alloc (Nat.le_refl _) _ | exact Below.refl _ _ | (refine Below.drew ?_) | (refine Below.setCell ?_ ?_ _; rotate_left; first | exact Nat.le_refl _ | (dsimp only; omega)) | (refine Below.alloc ?_ ?_ _; rotate_left; first | exact Nat.le_refl _ | (simp; omega) | simp))), _, rfl⟩
  by_cases h2 : 22 ≤ op ∧ op ≤ 24
  · rw [formOf_mi h2]
    obtain ⟨l1, l2⟩ := h2
    have l3 : ¬ op ≤ 21 := by omega
    have l4 : 1 ≤ op := by omega
    have hr : IntKind.i64.wrap (op - 21) = op - 21 := by rw [IntKind.wrap_i64]; omega
    clear h1
    go_enter Tryd.func39, Tryd.ntmps39
    go_wp2_with fail
    refine (nth_val _ (by decide) (op - 21) ⟨by omega, by omega⟩ _).mono ?_
    rintro e w1 ⟨rfl, t, rfl⟩
    go_wp2_with fail
    ((try simp only [Exit.inBlock, Exit.then]); refine bodyPost_ret_by (v := (.tuple #[.agg #[.string t, .bool true, .bool false, .int .i64 1, .int .i64 1], .bool true])) ((results_cell_tmp rfl _ _ _).trans (by go_simp; try rfl)) rfl ?_)
    exact ⟨by (repeat (first | with_reducible assumption | exact (Below.refl _ _).alloc (Nat.le_refl _) _ | exact Below.refl _ _ | (refine Below.drew ?_) | (refine Below.setCell ?_ ?_ _; rotate_left; first | exact Nat.le_refl _ | (dsimp only; omega)) | (refine Below.alloc ?_ ?_ _; rotate_left; first | exact Nat.le_refl _ | (simp; omega) | simp))), _, rfl⟩
  by_cases e25 : op = 25
  · subst e25
    rw [show formOf 25 = some ⟨true, true, 0, 8⟩ from rfl]
    clear h1 h2 
    go_enter Tryd.func39, Tryd.ntmps39
    go_wp2_with fail
    ((try simp only [Exit.inBlock, Exit.then]); refine bodyPost_ret_by (v := (.tuple #[.agg #[.string ⟨#[110, 101, 119]⟩, .bool true, .bool true, .int .i64 0, .int .i64 8], .bool true])) ((results_cell_tmp rfl _ _ _).trans (by go_simp; try rfl)) rfl ?_)
    exact ⟨by (repeat (first | with_reducible assumption | exact (Below.refl _ _).alloc (Nat.le_refl _) _ | exact Below.refl _ _ | (refine Below.drew ?_) | (refine Below.setCell ?_ ?_ _; rotate_left; first | exact Nat.le_refl _ | (dsimp only; omega)) | (refine Below.alloc ?_ ?_ _; rotate_left; first | exact Nat.le_refl _ | (simp; omega) | simp))), _, rfl⟩
  by_cases e26 : op = 26
  · subst e26
    rw [show formOf 26 = some ⟨true, true, 1, 1⟩ from rfl]
    clear h1 h2 e25
    go_enter Tryd.func39, Tryd.ntmps39
    go_wp2_with fail
    ((try simp only [Exit.inBlock, Exit.then]); refine bodyPost_ret_by (v := (.tuple #[.agg #[.string ⟨#[108, 111, 97, 100]⟩, .bool true, .bool true, .int .i64 1, .int .i64 1], .bool true])) ((results_cell_tmp rfl _ _ _).trans (by go_simp; try rfl)) rfl ?_)
    exact ⟨by (repeat (first | with_reducible assumption | exact (Below.refl _ _).alloc (Nat.le_refl _) _ | exact Below.refl _ _ | (refine Below.drew ?_) | (refine Below.setCell ?_ ?_ _; rotate_left; first | exact Nat.le_refl _ | (dsimp only; omega)) | (refine Below.alloc ?_ ?_ _; rotate_left; first | exact Nat.le_refl _ | (simp; omega) | simp))), _, rfl⟩
  by_cases e27 : op = 27
  · subst e27
    rw [show formOf 27 = some ⟨false, true, 2, 2⟩ from rfl]
    clear h1 h2 e25 e26
    go_enter Tryd.func39, Tryd.ntmps39
    go_wp2_with fail
    ((try simp only [Exit.inBlock, Exit.then]); refine bodyPost_ret_by (v := (.tuple #[.agg #[.string ⟨#[115, 116, 111, 114, 101]⟩, .bool false, .bool true, .int .i64 2, .int .i64 2], .bool true])) ((results_cell_tmp rfl _ _ _).trans (by go_simp; try rfl)) rfl ?_)
    exact ⟨by (repeat (first | with_reducible assumption | exact (Below.refl _ _).alloc (Nat.le_refl _) _ | exact Below.refl _ _ | (refine Below.drew ?_) | (refine Below.setCell ?_ ?_ _; rotate_left; first | exact Nat.le_refl _ | (dsimp only; omega)) | (refine Below.alloc ?_ ?_ _; rotate_left; first | exact Nat.le_refl _ | (simp; omega) | simp))), _, rfl⟩
  by_cases e28 : op = 28
  · subst e28
    rw [show formOf 28 = some ⟨true, false, 2, 2⟩ from rfl]
    clear h1 h2 e25 e26 e27
    go_enter Tryd.func39, Tryd.ntmps39
    go_wp2_with fail
    ((try simp only [Exit.inBlock, Exit.then]); refine bodyPost_ret_by (v := (.tuple #[.agg #[.string ⟨#[115, 97, 109, 101]⟩, .bool true, .bool false, .int .i64 2, .int .i64 2], .bool true])) ((results_cell_tmp rfl _ _ _).trans (by go_simp; try rfl)) rfl ?_)
    exact ⟨by (repeat (first | with_reducible assumption | exact (Below.refl _ _).alloc (Nat.le_refl _) _ | exact Below.refl _ _ | (refine Below.drew ?_) | (refine Below.setCell ?_ ?_ _; rotate_left; first | exact Nat.le_refl _ | (dsimp only; omega)) | (refine Below.alloc ?_ ?_ _; rotate_left; first | exact Nat.le_refl _ | (simp; omega) | simp))), _, rfl⟩
  by_cases e29 : op = 29
  · subst e29
    rw [show formOf 29 = some ⟨true, true, 0, 0⟩ from rfl]
    clear h1 h2 e25 e26 e27 e28
    go_enter Tryd.func39, Tryd.ntmps39
    go_wp2_with fail
    ((try simp only [Exit.inBlock, Exit.then]); refine bodyPost_ret_by (v := (.tuple #[.agg #[.string ⟨#[103, 108, 111, 97, 100]⟩, .bool true, .bool true, .int .i64 0, .int .i64 0], .bool true])) ((results_cell_tmp rfl _ _ _).trans (by go_simp; try rfl)) rfl ?_)
    exact ⟨by (repeat (first | with_reducible assumption | exact (Below.refl _ _).alloc (Nat.le_refl _) _ | exact Below.refl _ _ | (refine Below.drew ?_) | (refine Below.setCell ?_ ?_ _; rotate_left; first | exact Nat.le_refl _ | (dsimp only; omega)) | (refine Below.alloc ?_ ?_ _; rotate_left; first | exact Nat.le_refl _ | (simp; omega) | simp))), _, rfl⟩
  by_cases e30 : op = 30
  · subst e30
    rw [show formOf 30 = some ⟨false, true, 1, 1⟩ from rfl]
    clear h1 h2 e25 e26 e27 e28 e29
    go_enter Tryd.func39, Tryd.ntmps39
    go_wp2_with fail
    ((try simp only [Exit.inBlock, Exit.then]); refine bodyPost_ret_by (v := (.tuple #[.agg #[.string ⟨#[103, 115, 116, 111, 114, 101]⟩, .bool false, .bool true, .int .i64 1, .int .i64 1], .bool true])) ((results_cell_tmp rfl _ _ _).trans (by go_simp; try rfl)) rfl ?_)
    exact ⟨by (repeat (first | with_reducible assumption | exact (Below.refl _ _).alloc (Nat.le_refl _) _ | exact Below.refl _ _ | (refine Below.drew ?_) | (refine Below.setCell ?_ ?_ _; rotate_left; first | exact Nat.le_refl _ | (dsimp only; omega)) | (refine Below.alloc ?_ ?_ _; rotate_left; first | exact Nat.le_refl _ | (simp; omega) | simp))), _, rfl⟩
  by_cases e31 : op = 31
  · subst e31
    rw [show formOf 31 = some ⟨true, true, 0, 8⟩ from rfl]
    clear h1 h2 e25 e26 e27 e28 e29 e30
    go_enter Tryd.func39, Tryd.ntmps39
    go_wp2_with fail
    ((try simp only [Exit.inBlock, Exit.then]); refine bodyPost_ret_by (v := (.tuple #[.agg #[.string ⟨#[99, 97, 108, 108]⟩, .bool true, .bool true, .int .i64 0, .int .i64 8], .bool true])) ((results_cell_tmp rfl _ _ _).trans (by go_simp; try rfl)) rfl ?_)
    exact ⟨by (repeat (first | with_reducible assumption | exact (Below.refl _ _).alloc (Nat.le_refl _) _ | exact Below.refl _ _ | (refine Below.drew ?_) | (refine Below.setCell ?_ ?_ _; rotate_left; first | exact Nat.le_refl _ | (dsimp only; omega)) | (refine Below.alloc ?_ ?_ _; rotate_left; first | exact Nat.le_refl _ | (simp; omega) | simp))), _, rfl⟩
  by_cases e32 : op = 32
  · subst e32
    rw [show formOf 32 = some ⟨true, true, 0, 8⟩ from rfl]
    clear h1 h2 e25 e26 e27 e28 e29 e30 e31
    go_enter Tryd.func39, Tryd.ntmps39
    go_wp2_with fail
    ((try simp only [Exit.inBlock, Exit.then]); refine bodyPost_ret_by (v := (.tuple #[.agg #[.string ⟨#[101, 120, 116]⟩, .bool true, .bool true, .int .i64 0, .int .i64 8], .bool true])) ((results_cell_tmp rfl _ _ _).trans (by go_simp; try rfl)) rfl ?_)
    exact ⟨by (repeat (first | with_reducible assumption | exact (Below.refl _ _).alloc (Nat.le_refl _) _ | exact Below.refl _ _ | (refine Below.drew ?_) | (refine Below.setCell ?_ ?_ _; rotate_left; first | exact Nat.le_refl _ | (dsimp only; omega)) | (refine Below.alloc ?_ ?_ _; rotate_left; first | exact Nat.le_refl _ | (simp; omega) | simp))), _, rfl⟩
  by_cases e33 : op = 33
  · subst e33
    rw [show formOf 33 = some ⟨false, false, 1, 1⟩ from rfl]
    clear h1 h2 e25 e26 e27 e28 e29 e30 e31 e32
    go_enter Tryd.func39, Tryd.ntmps39
    go_wp2_with fail
    ((try simp only [Exit.inBlock, Exit.then]); refine bodyPost_ret_by (v := (.tuple #[.agg #[.string ⟨#[111, 117, 116]⟩, .bool false, .bool false, .int .i64 1, .int .i64 1], .bool true])) ((results_cell_tmp rfl _ _ _).trans (by go_simp; try rfl)) rfl ?_)
    exact ⟨by (repeat (first | with_reducible assumption | exact (Below.refl _ _).alloc (Nat.le_refl _) _ | exact Below.refl _ _ | (refine Below.drew ?_) | (refine Below.setCell ?_ ?_ _; rotate_left; first | exact Nat.le_refl _ | (dsimp only; omega)) | (refine Below.alloc ?_ ?_ _; rotate_left; first | exact Nat.le_refl _ | (simp; omega) | simp))), _, rfl⟩
  by_cases e34 : op = 34
  · subst e34
    rw [show formOf 34 = some ⟨false, false, 0, 0⟩ from rfl]
    clear h1 h2 e25 e26 e27 e28 e29 e30 e31 e32 e33
    go_enter Tryd.func39, Tryd.ntmps39
    go_wp2_with fail
    ((try simp only [Exit.inBlock, Exit.then]); refine bodyPost_ret_by (v := (.tuple #[.agg #[.string ⟨#[103, 117, 97, 114, 100]⟩, .bool false, .bool false, .int .i64 0, .int .i64 0], .bool true])) ((results_cell_tmp rfl _ _ _).trans (by go_simp; try rfl)) rfl ?_)
    exact ⟨by (repeat (first | with_reducible assumption | exact (Below.refl _ _).alloc (Nat.le_refl _) _ | exact Below.refl _ _ | (refine Below.drew ?_) | (refine Below.setCell ?_ ?_ _; rotate_left; first | exact Nat.le_refl _ | (dsimp only; omega)) | (refine Below.alloc ?_ ?_ _; rotate_left; first | exact Nat.le_refl _ | (simp; omega) | simp))), _, rfl⟩
  rw [formOf_no (by omega)]
  have f25 : (op == 25) = false := by simpa using e25
  have f26 : (op == 26) = false := by simpa using e26
  have f27 : (op == 27) = false := by simpa using e27
  have f28 : (op == 28) = false := by simpa using e28
  have f29 : (op == 29) = false := by simpa using e29
  have f30 : (op == 30) = false := by simpa using e30
  have f31 : (op == 31) = false := by simpa using e31
  have f32 : (op == 32) = false := by simpa using e32
  have f33 : (op == 33) = false := by simpa using e33
  have f34 : (op == 34) = false := by simpa using e34
  clear e25 e26 e27 e28 e29 e30 e31 e32 e33 e34
  by_cases h3 : op < 1
  · have l1 : ¬ 1 ≤ op := by omega
    have l2 : ¬ 22 ≤ op := by omega
    clear h1 h2 h3
    go_enter Tryd.func39, Tryd.ntmps39
    go_wp2_with fail
    ((try simp only [Exit.inBlock, Exit.then]); refine bodyPost_ret_by (v := (.tuple #[.agg #[.string ⟨#[]⟩, .bool false, .bool false, .int .i64 0, .int .i64 0], .bool false])) ((results_cell_tmp rfl _ _ _).trans (by go_simp; try rfl)) rfl ?_)
    exact ⟨by (repeat (first | with_reducible assumption | exact (Below.refl _ _).alloc (Nat.le_refl _) _ | exact Below.refl _ _ | (refine Below.drew ?_) | (refine Below.setCell ?_ ?_ _; rotate_left; first | exact Nat.le_refl _ | (dsimp only; omega)) | (refine Below.alloc ?_ ?_ _; rotate_left; first | exact Nat.le_refl _ | (simp; omega) | simp))), rfl⟩
  · have l1 : 1 ≤ op := by omega
    have l2 : ¬ op ≤ 21 := by omega
    have l3 : 22 ≤ op := by omega
    have l4 : ¬ op ≤ 24 := by omega
    clear h1 h2 h3
    go_enter Tryd.func39, Tryd.ntmps39
    go_wp2_with fail
    ((try simp only [Exit.inBlock, Exit.then]); refine bodyPost_ret_by (v := (.tuple #[.agg #[.string ⟨#[]⟩, .bool false, .bool false, .int .i64 0, .int .i64 0], .bool false])) ((results_cell_tmp rfl _ _ _).trans (by go_simp; try rfl)) rfl ?_)
    exact ⟨by (repeat (first | with_reducible assumption | exact (Below.refl _ _).alloc (Nat.le_refl _) _ | exact Below.refl _ _ | (refine Below.drew ?_) | (refine Below.setCell ?_ ?_ _; rotate_left; first | exact Nat.le_refl _ | (dsimp only; omega)) | (refine Below.alloc ?_ ?_ _; rotate_left; first | exact Nat.le_refl _ | (simp; omega) | simp))), rfl⟩
theorem formOf_le {op : Int} {f : Fm} (h : formOf op = some f) : f.m ≤ 8 := by
  by_cases h1 : 1 ≤ op ∧ op ≤ 21
  · rw [formOf_lo h1] at h; injection h with h; rw [← h]; decide
  by_cases h2 : 22 ≤ op ∧ op ≤ 24
  · rw [formOf_mi h2] at h; injection h with h; rw [← h]; decide
  by_cases h3 : op < 1 ∨ 34 < op
  · rw [formOf_no h3] at h; cases h
  have e : op = 25 ∨ op = 26 ∨ op = 27 ∨ op = 28 ∨ op = 29 ∨ op = 30 ∨ op = 31 ∨ op = 32 ∨ op = 33 ∨ op = 34 := by omega
  rcases e with rfl | rfl | rfl | rfl | rfl | rfl | rfl | rfl | rfl | rfl
  all_goals
    simp [formOf] at h
    rw [← h]
    decide
end Go.Proofs.YtjohjpjpfglkkaaDoor
