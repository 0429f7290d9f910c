/- The walks of package fold: an instruction of one argument, of others. -/
import Derived.Test.YtiheecgabfcigaaFoldF
namespace Go.Proofs.Ytiheecgabfcigaa
open Go.RowKit Num Flo

/-- what is done with one argument -/
def singleV (op K : Int) (s : ByteArray) (n : Int) : Int × ByteArray × Int × Bool :=
  if op = 24 then (K, s, n, true)
  else if op = 22 ∧ K = 2 then (3, .empty, ofIntV n, true)
  else if op = 23 ∧ K = 3 then (2, .empty, toIntV n, true)
  else (0, .empty, 0, false)

set_option maxHeartbeats 1000000 in
theorem single_val (op : Int) (d nm : ByteArray) (B o l cap : Nat) (hl : 0 < l) (_ : l ≤ 9223372036854775807) (pf po : Option Addr) (lf kf lo ko : Nat) (K : Int) (s : ByteArray) (n : Int) (hnr : -9223372036854775808 ≤ n ∧ n ≤ 9223372036854775807)
    (k : Int) (t : ByteArray) (j : Int) (b : Bool) (h : singleV op K s n = (k, t, j, b)) (w : World) (hB : B < w.heap.size)
    (h0 : w.cell? ⟨B, o, none⟩ = some (.int .i64 K)) (h1 : w.cell? ⟨B, o + 1, none⟩ = some (.string s)) (h2 : w.cell? ⟨B, o + 2, none⟩ = some (.int .i64 n)) :
    Calls Try.prog 15 #[.agg #[.int .i64 op, .string d, .string nm, .slice (some ⟨B, o, none⟩) l cap, .slice pf lf kf, .slice po lo ko]] w fun e w' => e = .returned (.tuple #[.agg #[.int .i64 k, .string t, .int .i64 j], .bool b]) ∧ Below w.heap.size w w' := by
  unfold singleV at h
  by_cases h24 : op = 24
  · rw [if_pos h24] at h
    simp only [Prod.mk.injEq] at h
    obtain ⟨rfl, rfl, rfl, rfl⟩ := h
    subst h24
    go_enter Try.func15, Try.ntmps15
    go_wp2
    ((try simp only [Exit.inBlock, Exit.then]); refine bodyPost_ret_by (v := (.tuple #[.agg #[.int .i64 _, .string _, .int .i64 _], .bool _])) ((results_cell_tmp rfl _ _ _).trans (by go_simp; try rfl)) rfl ⟨rfl, ?_⟩)
    (repeat (first | with_reducible assumption | exact (Below.refl _ _).alloc (Nat.le_refl _) _ | exact Below.refl _ _ | (refine Below.drew ?_) | (refine Below.setCell ?_ ?_ _; rotate_left; first | exact Nat.le_refl _ | (dsimp only; omega)) | (refine Below.alloc ?_ ?_ _; rotate_left; first | exact Nat.le_refl _ | (simp; omega) | simp)))
  rw [if_neg h24] at h
  have q24 : (op == 24) = false := by rw [beq_eq_false_iff_ne]; exact h24
  clear h24
  by_cases h22 : op = 22
  · subst h22
    by_cases hK : K = 2
    · rw [if_pos ⟨rfl, hK⟩] at h
      simp only [Prod.mk.injEq] at h
      obtain ⟨rfl, rfl, rfl, rfl⟩ := h
      subst hK
      go_enter Try.func15, Try.ntmps15
      go_wp2_with (first | ((with_reducible refine (ofint_any _ _).mono ?_); rintro e w1 ⟨rfl, rfl⟩) | ((with_reducible refine (point_val _ _).mono ?_); rintro e w1 ⟨rfl, hb⟩; obtain ⟨-, hr, -, hB'⟩ := boxes3 hb; (have r0 := (hr).c 0 _ rfl; have r1 := (hr).c 1 _ rfl; have r2 := (hr).c 2 _ rfl; have f0 := (hr).f 0 (by simp); have f1 := (hr).f 1 (by simp); have f2 := (hr).f 2 (by simp))))
      ((try simp only [Exit.inBlock, Exit.then]); refine bodyPost_ret_by (v := (.tuple #[.agg #[.int .i64 _, .string _, .int .i64 _], .bool _])) ((results_cell_tmp rfl _ _ _).trans (by go_simp; try rfl)) rfl ⟨rfl, ?_⟩)
      (repeat (first | with_reducible assumption | exact (Below.refl _ _).alloc (Nat.le_refl _) _ | exact Below.refl _ _ | (refine Below.drew ?_) | (refine Below.setCell ?_ ?_ _; rotate_left; first | exact Nat.le_refl _ | (dsimp only; omega)) | (refine Below.alloc ?_ ?_ _; rotate_left; first | exact Nat.le_refl _ | (simp; omega) | simp)))
    · rw [if_neg (fun e => hK e.2), if_neg (by omega)] at h
      simp only [Prod.mk.injEq] at h
      obtain ⟨rfl, rfl, rfl, rfl⟩ := h
      have q2 : (K == 2) = false := by rw [beq_eq_false_iff_ne]; exact hK
      clear hK
      go_enter Try.func15, Try.ntmps15
      go_wp2
      ((try simp only [Exit.inBlock, Exit.then]); refine bodyPost_ret_by (v := (.tuple #[.agg #[.int .i64 _, .string _, .int .i64 _], .bool _])) ((results_cell_tmp rfl _ _ _).trans (by go_simp; try rfl)) rfl ⟨rfl, ?_⟩)
      (repeat (first | with_reducible assumption | exact (Below.refl _ _).alloc (Nat.le_refl _) _ | exact Below.refl _ _ | (refine Below.drew ?_) | (refine Below.setCell ?_ ?_ _; rotate_left; first | exact Nat.le_refl _ | (dsimp only; omega)) | (refine Below.alloc ?_ ?_ _; rotate_left; first | exact Nat.le_refl _ | (simp; omega) | simp)))
  rw [if_neg (fun e => h22 e.1)] at h
  have q22 : (op == 22) = false := by rw [beq_eq_false_iff_ne]; exact h22
  clear h22
  by_cases h23 : op = 23
  · subst h23
    by_cases hK : K = 3
    · rw [if_pos ⟨rfl, hK⟩] at h
      simp only [Prod.mk.injEq] at h
      obtain ⟨rfl, rfl, rfl, rfl⟩ := h
      subst hK
      have hn := Lib.hid hnr
      clear hnr
      go_enter Try.func15, Try.ntmps15
      go_wp2_with (first | ((with_reducible refine (toint_any _ _ hn.out.1 hn.out.2).mono ?_); rintro e w1 ⟨rfl, rfl⟩) | ((with_reducible refine (whole_val _ _).mono ?_); rintro e w1 ⟨rfl, hb⟩; obtain ⟨-, hr, -, hB'⟩ := boxes3 hb; (have r0 := (hr).c 0 _ rfl; have r1 := (hr).c 1 _ rfl; have r2 := (hr).c 2 _ rfl; have f0 := (hr).f 0 (by simp); have f1 := (hr).f 1 (by simp); have f2 := (hr).f 2 (by simp))))
      ((try simp only [Exit.inBlock, Exit.then]); refine bodyPost_ret_by (v := (.tuple #[.agg #[.int .i64 _, .string _, .int .i64 _], .bool _])) ((results_cell_tmp rfl _ _ _).trans (by go_simp; try rfl)) rfl ⟨rfl, ?_⟩)
      (repeat (first | with_reducible assumption | exact (Below.refl _ _).alloc (Nat.le_refl _) _ | exact Below.refl _ _ | (refine Below.drew ?_) | (refine Below.setCell ?_ ?_ _; rotate_left; first | exact Nat.le_refl _ | (dsimp only; omega)) | (refine Below.alloc ?_ ?_ _; rotate_left; first | exact Nat.le_refl _ | (simp; omega) | simp)))
    · rw [if_neg (fun e => hK e.2)] at h
      simp only [Prod.mk.injEq] at h
      obtain ⟨rfl, rfl, rfl, rfl⟩ := h
      have q2 : (K == 3) = false := by rw [beq_eq_false_iff_ne]; exact hK
      clear hK
      go_enter Try.func15, Try.ntmps15
      go_wp2
      ((try simp only [Exit.inBlock, Exit.then]); refine bodyPost_ret_by (v := (.tuple #[.agg #[.int .i64 _, .string _, .int .i64 _], .bool _])) ((results_cell_tmp rfl _ _ _).trans (by go_simp; try rfl)) rfl ⟨rfl, ?_⟩)
      (repeat (first | with_reducible assumption | exact (Below.refl _ _).alloc (Nat.le_refl _) _ | exact Below.refl _ _ | (refine Below.drew ?_) | (refine Below.setCell ?_ ?_ _; rotate_left; first | exact Nat.le_refl _ | (dsimp only; omega)) | (refine Below.alloc ?_ ?_ _; rotate_left; first | exact Nat.le_refl _ | (simp; omega) | simp)))
  · rw [if_neg (fun e => h23 e.1)] at h
    simp only [Prod.mk.injEq] at h
    obtain ⟨rfl, rfl, rfl, rfl⟩ := h
    have q23 : (op == 23) = false := by rw [beq_eq_false_iff_ne]; exact h23
    clear h23
    go_enter Try.func15, Try.ntmps15
    go_wp2
    ((try simp only [Exit.inBlock, Exit.then]); refine bodyPost_ret_by (v := (.tuple #[.agg #[.int .i64 _, .string _, .int .i64 _], .bool _])) ((results_cell_tmp rfl _ _ _).trans (by go_simp; try rfl)) rfl ⟨rfl, ?_⟩)
    (repeat (first | with_reducible assumption | exact (Below.refl _ _).alloc (Nat.le_refl _) _ | exact Below.refl _ _ | (refine Below.drew ?_) | (refine Below.setCell ?_ ?_ _; rotate_left; first | exact Nat.le_refl _ | (dsimp only; omega)) | (refine Below.alloc ?_ ?_ _; rotate_left; first | exact Nat.le_refl _ | (simp; omega) | simp)))

/-- an instruction of one argument -/
theorem instr1_val (op : Int) (d nm : ByteArray) (B o cap : Nat) (pf po : Option Addr) (lf kf lo ko : Nat) (K : Int) (s : ByteArray) (n : Int) (hnr : -9223372036854775808 ≤ n ∧ n ≤ 9223372036854775807)
    (k : Int) (t : ByteArray) (j : Int) (b : Bool) (h : singleV op K s n = (k, t, j, b)) (w : World) (hB : B < w.heap.size)
    (h0 : w.cell? ⟨B, o, none⟩ = some (.int .i64 K)) (h1 : w.cell? ⟨B, o + 1, none⟩ = some (.string s)) (h2 : w.cell? ⟨B, o + 2, none⟩ = some (.int .i64 n)) :
    Calls Try.prog 8 #[.agg #[.int .i64 op, .string d, .string nm, .slice (some ⟨B, o, none⟩) 1 cap, .slice pf lf kf, .slice po lo ko]] w fun e w' => e = .returned (.tuple #[.agg #[.int .i64 k, .string t, .int .i64 j], .bool b]) ∧ Below w.heap.size w w' := by
  have H := Lib.hid h
  have HN := Lib.hid hnr
  clear h hnr
  have hb2 := (boxes2 (w := w) (c1 := [.int .i64 op, .string d, .string nm, .slice (some ⟨B, o, none⟩) 1 cap, .slice pf lf kf, .slice po lo ko]) (c2 := [.int .i64 0, .string { data := #[] }, .int .i64 0]) (t1 := 26) (t2 := 30) (Below.refl _ _)).2.2
  have H0 := (hb2.cell (p := ⟨B, o, none⟩) hB).trans h0
  have H1 := (hb2.cell (p := ⟨B, o + 1, none⟩) hB).trans h1
  have H2 := (hb2.cell (p := ⟨B, o + 2, none⟩) hB).trans h2
  have HB := Lib.hid (Nat.lt_of_lt_of_le hB hb2.size)
  clear hb2
  go_enter Try.func8, Try.ntmps8
  go_wp2_with ((with_reducible refine (single_val op d nm B o 1 cap (by decide) (by decide) pf po lf kf lo ko K s n HN.out k t j b H.out _ HB.out H0 H1 H2).mono ?_); rintro e w1 ⟨rfl, hb⟩; obtain ⟨-, hr, hB'⟩ := boxes2 hb; (have r0 := (hr).c 0 _ rfl; have r1 := (hr).c 1 _ rfl; have r2 := (hr).c 2 _ rfl; have f0 := (hr).f 0 (by simp); have f1 := (hr).f 1 (by simp); have f2 := (hr).f 2 (by simp)))
  ((try simp only [Exit.inBlock, Exit.then]); refine bodyPost_ret_by (v := (.tuple #[.agg #[.int .i64 _, .string _, .int .i64 _], .bool _])) ((results_cell_tmp rfl _ _ _).trans (by go_simp; try rfl)) rfl ⟨rfl, ?_⟩)
  (repeat (first | with_reducible assumption | exact (Below.refl _ _).alloc (Nat.le_refl _) _ | exact Below.refl _ _ | (refine Below.drew ?_) | (refine Below.setCell ?_ ?_ _; rotate_left; first | exact Nat.le_refl _ | (dsimp only; omega)) | (refine Below.alloc ?_ ?_ _; rotate_left; first | exact Nat.le_refl _ | (simp; omega) | simp)))

/-- an instruction of none, or of more than two arguments -/
theorem instrN_val (op : Int) (d nm : ByteArray) (pa : Option Addr) (l cap : Nat) (hl1 : l ≠ 1) (hl2 : l ≠ 2) (_ : l ≤ 9223372036854775807) (pf po : Option Addr) (lf kf lo ko : Nat) (w : World) :
    Calls Try.prog 8 #[.agg #[.int .i64 op, .string d, .string nm, .slice pa l cap, .slice pf lf kf, .slice po lo ko]] w fun e w' => e = .returned (.tuple #[.agg #[.int .i64 0, .string .empty, .int .i64 0], .bool false]) ∧ Below w.heap.size w w' := by
  have q1 : ((l : Int) == 1) = false := by rw [beq_eq_false_iff_ne]; omega
  have q2 : ((l : Int) != 2) = true := by rw [bne_iff_ne]; omega
  clear hl1 hl2
  go_enter Try.func8, Try.ntmps8
  go_wp2
  ((try simp only [Exit.inBlock, Exit.then]); refine bodyPost_ret_by (v := (.tuple #[.agg #[.int .i64 _, .string _, .int .i64 _], .bool _])) ((results_cell_tmp rfl _ _ _).trans (by go_simp; try rfl)) rfl ⟨rfl, ?_⟩)
  (repeat (first | with_reducible assumption | exact (Below.refl _ _).alloc (Nat.le_refl _) _ | exact Below.refl _ _ | (refine Below.drew ?_) | (refine Below.setCell ?_ ?_ _; rotate_left; first | exact Nat.le_refl _ | (dsimp only; omega)) | (refine Below.alloc ?_ ?_ _; rotate_left; first | exact Nat.le_refl _ | (simp; omega) | simp)))

/-- an instruction of two arguments that isn't folded -/
theorem instr2_not (op : Int) (d nm : ByteArray) (pa : Option Addr) (cap : Nat) (hd : (decide (1 ≤ op) && decide (op ≤ 21) || op == 28) = false) (pf po : Option Addr) (lf kf lo ko : Nat) (w : World) :
    Calls Try.prog 8 #[.agg #[.int .i64 op, .string d, .string nm, .slice pa 2 cap, .slice pf lf kf, .slice po lo ko]] w fun e w' => e = .returned (.tuple #[.agg #[.int .i64 0, .string .empty, .int .i64 0], .bool false]) ∧ Below w.heap.size w w' := by
  go_enter Try.func8, Try.ntmps8
  go_wp2_with ((with_reducible refine (double_val op false hd _).mono ?_); rintro e w1 ⟨rfl, rfl⟩)
  ((try simp only [Exit.inBlock, Exit.then]); refine bodyPost_ret_by (v := (.tuple #[.agg #[.int .i64 _, .string _, .int .i64 _], .bool _])) ((results_cell_tmp rfl _ _ _).trans (by go_simp; try rfl)) rfl ⟨rfl, ?_⟩)
  (repeat (first | with_reducible assumption | exact (Below.refl _ _).alloc (Nat.le_refl _) _ | exact Below.refl _ _ | (refine Below.drew ?_) | (refine Below.setCell ?_ ?_ _; rotate_left; first | exact Nat.le_refl _ | (dsimp only; omega)) | (refine Below.alloc ?_ ?_ _; rotate_left; first | exact Nat.le_refl _ | (simp; omega) | simp)))
end Go.Proofs.Ytiheecgabfcigaa
