/- The walks of the reference's Instr: whatever other operation; one argument; none, or more than two. -/
import Derived.Test.YtiheecgabfcigaaFoldS
namespace Go.Proofs.Ytiheecgabfcigaa
open Go.RowKit Num Flo

theorem swV_out {op K : Int} {s : ByteArray} {n K2 : Int} {s2 : ByteArray} {n2 : Int} (h : op < 1 ∨ (21 < op ∧ op ≠ 28)) : swV op K s n K2 s2 n2 = (0, .empty, 0, false) := by
  unfold swV
  repeat rw [if_neg (by omega)]

set_option maxRecDepth 100000 in
set_option maxHeartbeats 4000000 in
theorem refx_val (op : Int) (hop : op < 1 ∨ (21 < op ∧ op ≠ 28)) (d nm : ByteArray) (B o cap : Nat) (pf po : Option Addr) (lf kf lo ko : Nat) (K : Int) (s : ByteArray) (n K2 : Int) (s2 : ByteArray) (n2 : Int)
    (hn : Hid (-9223372036854775808 ≤ n ∧ n ≤ 9223372036854775807)) (hn2 : Hid (-9223372036854775808 ≤ n2 ∧ n2 ≤ 9223372036854775807))
    (k : Int) (t : ByteArray) (j : Int) (b : Bool) (h : refV op K s n K2 s2 n2 = (k, t, j, b)) (w : World) (hB : B < w.heap.size)
    (h0 : w.cell? ⟨B, o, none⟩ = some (.int .i64 K)) (h1 : w.cell? ⟨B, o + 1, none⟩ = some (.string s)) (h2 : w.cell? ⟨B, o + 2, none⟩ = some (.int .i64 n))
    (h3 : w.cell? ⟨B, o + 3, none⟩ = some (.int .i64 K2)) (h4 : w.cell? ⟨B, o + 3 + 1, none⟩ = some (.string s2)) (h5 : w.cell? ⟨B, o + 3 + 2, none⟩ = some (.int .i64 n2)) :
    Calls Try.prog 9 #[.agg #[.int .i64 op, .string d, .string nm, .slice (some ⟨B, o, none⟩) 2 cap, .slice pf lf kf, .slice po lo ko]] w fun e w' => e = .returned (.tuple #[.agg #[.int .i64 k, .string t, .int .i64 j], .bool b]) ∧ Below w.heap.size w w' := by
  have H := Lib.hid h
  clear h
  have hB1 : B < w.heap.size + 1 := by omega
  have hB2 : B < w.heap.size + 1 + 1 := by omega
  have hB3 : B < w.heap.size + 1 + 1 + 1 := by omega
  have hB4 : B < w.heap.size + 1 + 1 + 1 + 1 := by omega
  go_enter Try.func9, Try.ntmps9
  go_upto_region 16 with fail
  refine (?_ : ∀ W, RefPre w W K s n K2 s2 n2 → Code.wp _ _ _ _ W) _ RefPre.start
  intro wc hP
  clear h0 h1 h2 h3 h4 h5 hB hB1 hB2 hB3 hB4
  go_cut [76] from 69 to 76 (fun u wx => u = .bool (K == 2 && K2 == 2) ∧ wx = wc)
  case first =>
    have a0 := hP.a.c 0 _ rfl
    have b0 := hP.b.c 0 _ rfl
    rcases e1 : (K == 2) with _ | _ <;> rcases e2 : (K2 == 2) with _ | _
    all_goals
      go_wp2
      go_meet
      case rel => exact ⟨by rw [e1, e2]; rfl, rfl⟩
  case rest =>
  obtain ⟨rfl, rfl⟩ := hcut
  go_upto_if 76 with fail
  go_cut [76] from 77 to 88 (fun _ wx => RefPre w wx K s n K2 s2 n2 ∧ Hid (¬ (K = 2 ∧ K2 = 2 ∧ (doN op n n2).2 = true)))
  case first =>
    rcases e : (K == 2 && K2 == 2) with _ | _
    · go_wp2
      go_meet
      case rel => exact ⟨hP, fun h => by rw [h.1, h.2.1] at e; exact Bool.noConfusion e⟩
    · have e12 : K = 2 ∧ K2 = 2 := by simpa using e
      obtain ⟨rfl, rfl⟩ := e12
      have a2 := hP.a.c 2 _ rfl
      have b2 := hP.b.c 2 _ rfl
      rcases hd : doN op n n2 with ⟨v, c⟩
      have Hd := Lib.hid hd
      cases c
      · go_wp2_with ((with_reducible refine (nrdo_val op n n2 v false Hd.out hn hn2 _).mono ?_); rintro e w1 ⟨rfl, hb⟩)
        go_meet
        case rel => exact ⟨hP.next hb, fun h => by rw [Hd.out] at h; exact Bool.noConfusion h.2.2⟩
      · rw [doN_out (by omega)] at hd
        exact absurd hd (by simp)
  case rest =>
  obtain ⟨hP, hn1⟩ := hcut
  go_upto_region 20 with fail
  go_cut [96] from 89 to 96 (fun u wx => u = .bool (K == 3 && K2 == 3) ∧ wx = wc)
  case first =>
    have a0 := hP.a.c 0 _ rfl
    have b0 := hP.b.c 0 _ rfl
    rcases e1 : (K == 3) with _ | _ <;> rcases e2 : (K2 == 3) with _ | _
    all_goals
      go_wp2
      go_meet
      case rel => exact ⟨by rw [e1, e2]; rfl, rfl⟩
  case rest =>
  obtain ⟨rfl, rfl⟩ := hcut
  go_upto_if 96 with fail
  go_cut [96] from 97 to 115 (fun _ wx => RefPre w wx K s n K2 s2 n2 ∧ Hid (¬ (K = 3 ∧ K2 = 3 ∧ (doV op n n2).2 = true)))
  case first =>
    rcases e : (K == 3 && K2 == 3) with _ | _
    · go_wp2
      go_meet
      case rel => exact ⟨hP, fun h => by rw [h.1, h.2.1] at e; exact Bool.noConfusion e⟩
    · have e12 : K = 3 ∧ K2 = 3 := by simpa using e
      obtain ⟨rfl, rfl⟩ := e12
      have a2 := hP.a.c 2 _ rfl
      have b2 := hP.b.c 2 _ rfl
      rcases hd : doV op n n2 with ⟨v, c⟩
      have Hd := Lib.hid hd
      cases c
      · go_wp2_with ((with_reducible refine (frdo_val op n n2 v false Hd.out _).mono ?_); rintro e w1 ⟨rfl, hb⟩)
        go_meet
        case rel => exact ⟨hP.next hb, fun h => by rw [Hd.out] at h; exact Bool.noConfusion h.2.2⟩
      · rw [doV_out (by omega)] at hd
        exact absurd hd (by simp)
  case rest =>
  obtain ⟨hP, hn2⟩ := hcut
  have H : Hid (swV op K s n K2 s2 n2 = (k, t, j, b)) := by
    have := H.out
    unfold refV at this
    rwa [if_neg hn1.out, if_neg hn2.out] at this
  clear hn1 hn2
  go_upto_region 26 with fail
  go_cut [13] from 116 to 123 (fun u wx => u = .bool (oneB K s n K2 s2 n2) ∧ wx = wc)
  case first =>
    have a0 := hP.a.c 0 _ rfl
    have a1 := hP.a.c 1 _ rfl
    have a2 := hP.a.c 2 _ rfl
    have b0 := hP.b.c 0 _ rfl
    have b1 := hP.b.c 1 _ rfl
    have b2 := hP.b.c 2 _ rfl
    have hE : ∀ w, (Op.equalIn 10000 30 (.agg #[.int .i64 K, .string s, .int .i64 n]) (.agg #[.int .i64 K2, .string s2, .int .i64 n2])).run Try.prog w = .ok (sameV K s n K2 s2 n2) w := fun w => by rw [eqArg]; rfl
    have ho : oneB K s n K2 s2 n2 = (K == 1 && sameV K s n K2 s2 n2) := rfl
    clear H
    generalize sameV K s n K2 s2 n2 = c at hE ho
    have Ho := Lib.hid ho
    clear ho
    rcases e1 : (K == 1) with _ | _ <;> cases c
    all_goals
      go_wp2
      go_meet
      case rel => exact ⟨by rw [Ho.out, e1]; rfl, rfl⟩
  case rest =>
  obtain ⟨rfl, rfl⟩ := hcut
  go_wp2_with fail
  refine (rf_val _ _).mono ?_
  rintro e w1 ⟨rfl, hb1⟩
  have hP1 := hP.next hb1
  clear hb1 hP
  go_wp2_with fail
  refine (rf_val _ _).mono ?_
  rintro e w2 ⟨rfl, hb2⟩
  obtain ⟨m2, hbm⟩ := boxes1 hb2
  have hP2 := hP1.next hbm
  clear hb2 hbm hP1
  have hU : RefSt w (w2.alloc (Obj.cells #[.int .i64 3, .string .empty, .int .i64 4607182418800017408] 30)) w1.heap.size w2.heap.size K s n K2 s2 n2 :=
    { r := hP2.r.al _, z := hP2.z.al _, a := hP2.a.al _, b := hP2.b.al _, m := m2.al _, u := Box.alloc w2 [.int .i64 3, .string .empty, .int .i64 4607182418800017408] 30, h := hP2.h.alloc hP2.h.size _ }
  clear m2 hP2
  have H : (0, ByteArray.empty, (0 : Int), false) = (k, t, j, b) := (swV_out hop).symm.trans H.out
  simp only [Prod.mk.injEq] at H
  obtain ⟨rfl, rfl, rfl, rfl⟩ := H
  have q1 : (op == 1) = false := by rw [beq_eq_false_iff_ne]; omega
  have q2 : (op == 2) = false := by rw [beq_eq_false_iff_ne]; omega
  have q3 : (op == 3) = false := by rw [beq_eq_false_iff_ne]; omega
  have q4 : (op == 4) = false := by rw [beq_eq_false_iff_ne]; omega
  have q5 : (op == 5) = false := by rw [beq_eq_false_iff_ne]; omega
  have q6 : (op == 6) = false := by rw [beq_eq_false_iff_ne]; omega
  have q7 : (op == 7) = false := by rw [beq_eq_false_iff_ne]; omega
  have q8 : (op == 8) = false := by rw [beq_eq_false_iff_ne]; omega
  have q9 : (op == 9) = false := by rw [beq_eq_false_iff_ne]; omega
  have q10 : (op == 10) = false := by rw [beq_eq_false_iff_ne]; omega
  have q11 : (op == 11) = false := by rw [beq_eq_false_iff_ne]; omega
  have q12 : (op == 12) = false := by rw [beq_eq_false_iff_ne]; omega
  have q13 : (op == 13) = false := by rw [beq_eq_false_iff_ne]; omega
  have q14 : (op == 14) = false := by rw [beq_eq_false_iff_ne]; omega
  have q15 : (op == 15) = false := by rw [beq_eq_false_iff_ne]; omega
  have q16 : (op == 16) = false := by rw [beq_eq_false_iff_ne]; omega
  have q17 : (op == 17) = false := by rw [beq_eq_false_iff_ne]; omega
  have q18 : (op == 18) = false := by rw [beq_eq_false_iff_ne]; omega
  have q20 : (op == 20) = false := by rw [beq_eq_false_iff_ne]; omega
  have q28 : (op == 28) = false := by rw [beq_eq_false_iff_ne]; omega
  clear hop
  have z0 := hU.z.c 0 _ rfl
  have z1 := hU.z.c 1 _ rfl
  have z2 := hU.z.c 2 _ rfl
  (have r0 := (hU.r).c 0 _ rfl; have r1 := (hU.r).c 1 _ rfl; have r2 := (hU.r).c 2 _ rfl; have f0 := (hU.r).f 0 (by simp); have f1 := (hU.r).f 1 (by simp); have f2 := (hU.r).f 2 (by simp))
  have hB' := hU.h
  go_wp2
  ((try simp only [Exit.inBlock, Exit.then]); refine bodyPost_ret_by (v := (.tuple #[.agg #[.int .i64 _, .string _, .int .i64 _], .bool _])) ((results_cell_tmp rfl _ _ _).trans (by go_simp; try rfl)) rfl ⟨rfl, ?_⟩)
  (repeat (first | with_reducible assumption | exact (Below.refl _ _).alloc (Nat.le_refl _) _ | exact Below.refl _ _ | (refine Below.drew ?_) | (refine Below.setCell ?_ ?_ _; rotate_left; first | exact Nat.le_refl _ | (dsimp only; omega)) | (refine Below.alloc ?_ ?_ _; rotate_left; first | exact Nat.le_refl _ | (simp; omega) | simp)))

def HidI (n : Int) : Prop := Hid (-9223372036854775808 ≤ n ∧ n ≤ 9223372036854775807)
set_option maxRecDepth 100000 in
set_option maxHeartbeats 2000000 in
/-- one argument -/
theorem refone_val (op : Int) (d nm : ByteArray) (B o cap : Nat) (pf po : Option Addr) (lf kf lo ko : Nat) (K : Int) (s : ByteArray) (n : Int)
    (k : Int) (t : ByteArray) (j : Int) (b : Bool) (h : singleV op K s n = (k, t, j, b)) (w : World) (hB : B < w.heap.size)
    (h0 : w.cell? ⟨B, o, none⟩ = some (.int .i64 K)) (h1 : w.cell? ⟨B, o + 1, none⟩ = some (.string s)) (h2 : w.cell? ⟨B, o + 2, none⟩ = some (.int .i64 n)) :
    Calls Try.prog 9 #[.agg #[.int .i64 op, .string d, .string nm, .slice (some ⟨B, o, none⟩) 1 cap, .slice pf lf kf, .slice po lo ko]] w fun e w' => e = .returned (.tuple #[.agg #[.int .i64 k, .string t, .int .i64 j], .bool b]) ∧ Below w.heap.size w w' := by
  have hB1 : B < w.heap.size + 1 := by omega
  have hB2 : B < w.heap.size + 1 + 1 := by omega
  have hB3 : B < w.heap.size + 1 + 1 + 1 := by omega
  unfold singleV at h
  by_cases h24 : op = 24
  · rw [if_pos h24] at h
    simp only [Prod.mk.injEq] at h
    obtain ⟨rfl, rfl, rfl, rfl⟩ := h
    subst h24
    go_enter Try.func9, Try.ntmps9
    go_wp2
    ((try simp only [Exit.inBlock, Exit.then]); refine bodyPost_ret_by (v := (.tuple #[.agg #[.int .i64 _, .string _, .int .i64 _], .bool _])) ((results_cell_tmp rfl _ _ _).trans (by go_simp; try rfl)) rfl ⟨rfl, ?_⟩)
    (repeat (first | with_reducible assumption | exact (Below.refl _ _).alloc (Nat.le_refl _) _ | exact Below.refl _ _ | (refine Below.drew ?_) | (refine Below.setCell ?_ ?_ _; rotate_left; first | exact Nat.le_refl _ | (dsimp only; omega)) | (refine Below.alloc ?_ ?_ _; rotate_left; first | exact Nat.le_refl _ | (simp; omega) | simp)))
  rw [if_neg h24] at h
  have q24 : (op == 24) = false := by rw [beq_eq_false_iff_ne]; exact h24
  clear h24
  by_cases h22 : op = 22
  · subst h22
    by_cases hK : K = 2
    · rw [if_pos ⟨rfl, hK⟩] at h
      simp only [Prod.mk.injEq] at h
      obtain ⟨rfl, rfl, rfl, rfl⟩ := h
      subst hK
      go_enter Try.func9, Try.ntmps9
      go_wp2_with (first | ((with_reducible refine (rofint_any _ _).mono ?_); rintro e w1 ⟨rfl, rfl⟩) | ((with_reducible refine (rf_val _ _).mono ?_); rintro e w1 ⟨rfl, hb⟩; obtain ⟨-, hw4⟩ := boxes1 hb; obtain ⟨-, hr, -, hB'⟩ := boxes3 hw4; (have r0 := (hr).c 0 _ rfl; have r1 := (hr).c 1 _ rfl; have r2 := (hr).c 2 _ rfl; have f0 := (hr).f 0 (by simp); have f1 := (hr).f 1 (by simp); have f2 := (hr).f 2 (by simp))))
      ((try simp only [Exit.inBlock, Exit.then]); refine bodyPost_ret_by (v := (.tuple #[.agg #[.int .i64 _, .string _, .int .i64 _], .bool _])) ((results_cell_tmp rfl _ _ _).trans (by go_simp; try rfl)) rfl ⟨rfl, ?_⟩)
      (repeat (first | with_reducible assumption | exact (Below.refl _ _).alloc (Nat.le_refl _) _ | exact Below.refl _ _ | (refine Below.drew ?_) | (refine Below.setCell ?_ ?_ _; rotate_left; first | exact Nat.le_refl _ | (dsimp only; omega)) | (refine Below.alloc ?_ ?_ _; rotate_left; first | exact Nat.le_refl _ | (simp; omega) | simp)))
    · rw [if_neg (fun e => hK e.2), if_neg (by omega)] at h
      simp only [Prod.mk.injEq] at h
      obtain ⟨rfl, rfl, rfl, rfl⟩ := h
      have q2 : (K == 2) = false := by rw [beq_eq_false_iff_ne]; exact hK
      clear hK
      go_enter Try.func9, Try.ntmps9
      go_wp2
      ((try simp only [Exit.inBlock, Exit.then]); refine bodyPost_ret_by (v := (.tuple #[.agg #[.int .i64 _, .string _, .int .i64 _], .bool _])) ((results_cell_tmp rfl _ _ _).trans (by go_simp; try rfl)) rfl ⟨rfl, ?_⟩)
      (repeat (first | with_reducible assumption | exact (Below.refl _ _).alloc (Nat.le_refl _) _ | exact Below.refl _ _ | (refine Below.drew ?_) | (refine Below.setCell ?_ ?_ _; rotate_left; first | exact Nat.le_refl _ | (dsimp only; omega)) | (refine Below.alloc ?_ ?_ _; rotate_left; first | exact Nat.le_refl _ | (simp; omega) | simp)))
  rw [if_neg (fun e => h22 e.1)] at h
  have q22 : (op == 22) = false := by rw [beq_eq_false_iff_ne]; exact h22
  clear h22
  by_cases h23 : op = 23
  · subst h23
    by_cases hK : K = 3
    · rw [if_pos ⟨rfl, hK⟩] at h
      simp only [Prod.mk.injEq] at h
      obtain ⟨rfl, rfl, rfl, rfl⟩ := h
      subst hK
      go_enter Try.func9, Try.ntmps9
      go_wp2_with (first | ((with_reducible refine (rtoint_any _ _).mono ?_); rintro e w1 ⟨rfl, rfl⟩) | ((with_reducible refine (rn_val _ _).mono ?_); rintro e w1 ⟨rfl, hb⟩; obtain ⟨-, hw4⟩ := boxes1 hb; obtain ⟨-, hr, -, hB'⟩ := boxes3 hw4; (have r0 := (hr).c 0 _ rfl; have r1 := (hr).c 1 _ rfl; have r2 := (hr).c 2 _ rfl; have f0 := (hr).f 0 (by simp); have f1 := (hr).f 1 (by simp); have f2 := (hr).f 2 (by simp))))
      ((try simp only [Exit.inBlock, Exit.then]); refine bodyPost_ret_by (v := (.tuple #[.agg #[.int .i64 _, .string _, .int .i64 _], .bool _])) ((results_cell_tmp rfl _ _ _).trans (by go_simp; try rfl)) rfl ⟨rfl, ?_⟩)
      (repeat (first | with_reducible assumption | exact (Below.refl _ _).alloc (Nat.le_refl _) _ | exact Below.refl _ _ | (refine Below.drew ?_) | (refine Below.setCell ?_ ?_ _; rotate_left; first | exact Nat.le_refl _ | (dsimp only; omega)) | (refine Below.alloc ?_ ?_ _; rotate_left; first | exact Nat.le_refl _ | (simp; omega) | simp)))
    · rw [if_neg (fun e => hK e.2)] at h
      simp only [Prod.mk.injEq] at h
      obtain ⟨rfl, rfl, rfl, rfl⟩ := h
      have q2 : (K == 3) = false := by rw [beq_eq_false_iff_ne]; exact hK
      clear hK
      go_enter Try.func9, Try.ntmps9
      go_wp2
      ((try simp only [Exit.inBlock, Exit.then]); refine bodyPost_ret_by (v := (.tuple #[.agg #[.int .i64 _, .string _, .int .i64 _], .bool _])) ((results_cell_tmp rfl _ _ _).trans (by go_simp; try rfl)) rfl ⟨rfl, ?_⟩)
      (repeat (first | with_reducible assumption | exact (Below.refl _ _).alloc (Nat.le_refl _) _ | exact Below.refl _ _ | (refine Below.drew ?_) | (refine Below.setCell ?_ ?_ _; rotate_left; first | exact Nat.le_refl _ | (dsimp only; omega)) | (refine Below.alloc ?_ ?_ _; rotate_left; first | exact Nat.le_refl _ | (simp; omega) | simp)))
  · rw [if_neg (fun e => h23 e.1)] at h
    simp only [Prod.mk.injEq] at h
    obtain ⟨rfl, rfl, rfl, rfl⟩ := h
    have q23 : (op == 23) = false := by rw [beq_eq_false_iff_ne]; exact h23
    clear h23
    go_enter Try.func9, Try.ntmps9
    go_wp2
    ((try simp only [Exit.inBlock, Exit.then]); refine bodyPost_ret_by (v := (.tuple #[.agg #[.int .i64 _, .string _, .int .i64 _], .bool _])) ((results_cell_tmp rfl _ _ _).trans (by go_simp; try rfl)) rfl ⟨rfl, ?_⟩)
    (repeat (first | with_reducible assumption | exact (Below.refl _ _).alloc (Nat.le_refl _) _ | exact Below.refl _ _ | (refine Below.drew ?_) | (refine Below.setCell ?_ ?_ _; rotate_left; first | exact Nat.le_refl _ | (dsimp only; omega)) | (refine Below.alloc ?_ ?_ _; rotate_left; first | exact Nat.le_refl _ | (simp; omega) | simp)))

set_option maxRecDepth 100000 in
set_option maxHeartbeats 1000000 in
/-- none, or more than two -/
theorem refmore_val (op : Int) (d nm : ByteArray) (pa : Option Addr) (l cap : Nat) (hl1 : l ≠ 1) (hl2 : l ≠ 2) (_ : l ≤ 9223372036854775807) (pf po : Option Addr) (lf kf lo ko : Nat) (w : World) :
    Calls Try.prog 9 #[.agg #[.int .i64 op, .string d, .string nm, .slice pa l cap, .slice pf lf kf, .slice po lo ko]] w fun e w' => e = .returned (.tuple #[.agg #[.int .i64 0, .string .empty, .int .i64 0], .bool false]) ∧ Below w.heap.size w w' := by
  have q1 : ((l : Int) == 1) = false := by rw [beq_eq_false_iff_ne]; omega
  have q2 : ((l : Int) != 2) = true := by rw [bne_iff_ne]; omega
  clear hl1 hl2
  go_enter Try.func9, Try.ntmps9
  go_wp2
  ((try simp only [Exit.inBlock, Exit.then]); refine bodyPost_ret_by (v := (.tuple #[.agg #[.int .i64 _, .string _, .int .i64 _], .bool _])) ((results_cell_tmp rfl _ _ _).trans (by go_simp; try rfl)) rfl ⟨rfl, ?_⟩)
  (repeat (first | with_reducible assumption | exact (Below.refl _ _).alloc (Nat.le_refl _) _ | exact Below.refl _ _ | (refine Below.drew ?_) | (refine Below.setCell ?_ ?_ _; rotate_left; first | exact Nat.le_refl _ | (dsimp only; omega)) | (refine Below.alloc ?_ ?_ _; rotate_left; first | exact Nat.le_refl _ | (simp; omega) | simp)))
end Go.Proofs.Ytiheecgabfcigaa
