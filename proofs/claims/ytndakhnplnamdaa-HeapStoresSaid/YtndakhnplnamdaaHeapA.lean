/- The walks of package heap and of its reference: Load, Nought. -/
import Derived.Test.YtndakhnplnamdaaHeap
namespace Go.Proofs.Ytndakhnplnamdaa
open Go.RowKit

/-- a field that is read: its value, and whether there is one -/
def loadV (n : Nat) (ob : Nat → ObjD) (v : Vl) (at' : Int) : Vl × Bool :=
  if leadsB n v = true ∧ 0 ≤ at' ∧ at' < ((ob (v.2 - 1).toNat).l : Int) then ((ob (v.2 - 1).toNat).vs at'.toNat, true) else ((.empty, 0), false)

set_option maxHeartbeats 2000000 in
theorem load_val (ph : Option Addr) (n ch : Nat) (ob : Nat → ObjD) (s : ByteArray) (k at' : Int) (r : ByteArray) (m : Int) (b : Bool) (h : loadV n ob (s, k) at' = ((r, m), b)) (w : World) (hO : Objs w ph n ob) :
    Calls Try.prog 12 #[.slice ph n ch, .agg #[.string s, .int .i64 k], .int .i64 at'] w fun e w' => e = .returned (.tuple #[.agg #[.string r, .int .i64 m], .bool b]) ∧ Below w.heap.size w w' := by
  have hb0 := (boxes2 (w := w) (c1 := [.string s, .int .i64 k]) (c2 := [.string { data := #[] }, .int .i64 0]) (t1 := 25) (t2 := 25) (Below.refl _ _)).2.2
  have hO0 := hO.below hb0
  have hm := hO.m
  unfold loadV at h
  rcases hl : leadsB n (s, k) with _ | _
  · rw [if_neg (by rw [hl]; exact fun h => Bool.noConfusion h.1)] at h
    simp only [Prod.mk.injEq] at h
    obtain ⟨⟨rfl, rfl⟩, rfl⟩ := h
    have Hl := Lib.hid hl
    clear hl hO hO0 hb0
    go_enter Try.func12, Try.ntmps12
    go_wp2_with fail
    refine (object_no ph n ch hm s k Hl.out _).mono ?_
    rintro e w1 ⟨rfl, hb⟩
    obtain ⟨-, hR, hB⟩ := boxes2 hb
    have r0 := hR.c 0 _ rfl
    have r1 := hR.c 1 _ rfl
    have f0 := hR.f 0 (by simp)
    have f1 := hR.f 1 (by simp)
    have r0' := fun o => (hR.al o).c 0 _ rfl
    have r1' := fun o => (hR.al o).c 1 _ rfl
    have f0' := fun o => (hR.al o).f 0 (by simp)
    have f1' := fun o => (hR.al o).f 1 (by simp)
    go_wp2
    ((try simp only [Exit.inBlock, Exit.then]); refine bodyPost_ret_by (v := (.tuple #[.agg #[.string .empty, .int .i64 0], .bool false])) ((results_cell_tmp rfl _ _ _).trans (by go_simp; try rfl)) rfl ⟨rfl, ?_⟩)
    ((repeat (refine Below.setCell ?_ (by dsimp only; omega) _)); exact (hB).alloc (hB).size _)
  · have hq : ∃ q, (k - 1).toNat = q := ⟨_, rfl⟩
    obtain ⟨q, hq⟩ := hq
    have hqn : q < n := by
      simp [leadsB] at hl
      omega
    have hV := hO0.v q hqn
    have hV0 := hO.v q hqn
    have hlm := hV.m
    have HO := object_yes ph n ch ob s k hl _ hO0
    rw [hq] at HO h
    have hcase : at' < 0 ∨ (0 ≤ at' ∧ ((ob q).l : Int) ≤ at') ∨ (∃ i : Nat, at' = (i : Int) ∧ i < (ob q).l) := by
      by_cases h0 : at' < 0
      · exact .inl h0
      · by_cases h1 : at' < ((ob q).l : Int)
        · exact .inr (.inr ⟨at'.toNat, by omega, by omega⟩)
        · exact .inr (.inl ⟨by omega, by omega⟩)
    rcases hcase with h0 | ⟨h0, h1⟩ | ⟨i, rfl, hi⟩
    · rw [if_neg (by omega)] at h
      simp only [Prod.mk.injEq] at h
      obtain ⟨⟨rfl, rfl⟩, rfl⟩ := h
      clear hl hO hO0 hb0 hV hV0 hq
      go_enter Try.func12, Try.ntmps12
      go_wp2_with fail
      refine HO.mono ?_
      rintro e w1 ⟨rfl, hb⟩
      obtain ⟨-, hR, hB⟩ := boxes2 hb
      have r0' := fun o => (hR.al o).c 0 _ rfl
      have r1' := fun o => (hR.al o).c 1 _ rfl
      have f0' := fun o => (hR.al o).f 0 (by simp)
      have f1' := fun o => (hR.al o).f 1 (by simp)
      go_wp2
      ((try simp only [Exit.inBlock, Exit.then]); refine bodyPost_ret_by (v := (.tuple #[.agg #[.string .empty, .int .i64 0], .bool false])) ((results_cell_tmp rfl _ _ _).trans (by go_simp; try rfl)) rfl ⟨rfl, ?_⟩)
      ((repeat (refine Below.setCell ?_ (by dsimp only; omega) _)); exact (hB).alloc (hB).size _)
    · rw [if_neg (by omega)] at h
      simp only [Prod.mk.injEq] at h
      obtain ⟨⟨rfl, rfl⟩, rfl⟩ := h
      clear hl hO hO0 hb0 hV hV0 hq
      go_enter Try.func12, Try.ntmps12
      go_wp2_with fail
      refine HO.mono ?_
      rintro e w1 ⟨rfl, hb⟩
      obtain ⟨-, hR, hB⟩ := boxes2 hb
      have r0' := fun o => (hR.al o).c 0 _ rfl
      have r1' := fun o => (hR.al o).c 1 _ rfl
      have f0' := fun o => (hR.al o).f 0 (by simp)
      have f1' := fun o => (hR.al o).f 1 (by simp)
      go_wp2
      ((try simp only [Exit.inBlock, Exit.then]); refine bodyPost_ret_by (v := (.tuple #[.agg #[.string .empty, .int .i64 0], .bool false])) ((results_cell_tmp rfl _ _ _).trans (by go_simp; try rfl)) rfl ⟨rfl, ?_⟩)
      ((repeat (refine Below.setCell ?_ (by dsimp only; omega) _)); exact (hB).alloc (hB).size _)
    · rw [if_pos ⟨hl, by omega, by omega⟩] at h
      simp only [Prod.mk.injEq] at h
      obtain ⟨hv, rfl⟩ := h
      have hi' : (i : Int).toNat = i := by omega
      rw [hi'] at hv
      clear hl hO hO0 hb0 hq hi'
      go_enter Try.func12, Try.ntmps12
      go_wp2_with fail
      refine HO.mono ?_
      rintro e w1 ⟨rfl, hb⟩
      have hVb := (hV.below hb).below ((Below.refl _ _).alloc (Nat.le_refl _) (Obj.cells #[.string (ob q).c, .slice (ob q).p (ob q).l (ob q).k] 41))
      obtain ⟨B, o, hp, hB, hc⟩ := hVb.at' (by omega)
      obtain ⟨c0, c1⟩ := hc i hi
      rw [hv] at c0 c1
      dsimp only at c0 c1
      obtain ⟨-, hR, hBw⟩ := boxes2 hb
      have r0' := fun o => (hR.al o).c 0 _ rfl
      have r1' := fun o => (hR.al o).c 1 _ rfl
      have f0' := fun o => (hR.al o).f 0 (by simp)
      have f1' := fun o => (hR.al o).f 1 (by simp)
      clear hc hVb hV hV0 hv
      rw [hp] at c0 c1 ⊢
      go_wp2
      ((try simp only [Exit.inBlock, Exit.then]); refine bodyPost_ret_by (v := (.tuple #[.agg #[.string r, .int .i64 m], .bool true])) ((results_cell_tmp rfl _ _ _).trans (by go_simp; try rfl)) rfl ⟨rfl, ?_⟩)
      ((repeat (refine Below.setCell ?_ (by dsimp only; omega) _)); exact (hBw).alloc (hBw).size _)

set_option maxHeartbeats 2000000 in
theorem rload_val (ph : Option Addr) (n ch : Nat) (ob : Nat → ObjD) (s : ByteArray) (k at' : Int) (r : ByteArray) (m : Int) (b : Bool) (h : loadV n ob (s, k) at' = ((r, m), b)) (w : World) (hO : Objs w ph n ob) :
    Calls Try.prog 13 #[.slice ph n ch, .agg #[.string s, .int .i64 k], .int .i64 at'] w fun e w' => e = .returned (.tuple #[.agg #[.string r, .int .i64 m], .bool b]) ∧ Below w.heap.size w w' := by
  have hb0 := (boxes2 (w := w) (c1 := [.string s, .int .i64 k]) (c2 := [.string { data := #[] }, .int .i64 0]) (t1 := 25) (t2 := 25) (Below.refl _ _)).2.2
  have hO0 := hO.below hb0
  have hm := hO.m
  unfold loadV at h
  rcases hl : leadsB n (s, k) with _ | _
  · rw [if_neg (by rw [hl]; exact fun h => Bool.noConfusion h.1)] at h
    simp only [Prod.mk.injEq] at h
    obtain ⟨⟨rfl, rfl⟩, rfl⟩ := h
    have Hl := Lib.hid hl
    clear hl hO hO0 hb0
    go_enter Try.func13, Try.ntmps13
    go_wp2_with fail
    refine (leads_val ph n ch hm s k _ Hl.out _).mono ?_
    rintro e w1 ⟨rfl, hb⟩
    obtain ⟨-, hR, hB⟩ := boxes2 hb
    have r0 := hR.c 0 _ rfl
    have r1 := hR.c 1 _ rfl
    have f0 := hR.f 0 (by simp)
    have f1 := hR.f 1 (by simp)
    go_wp2
    ((try simp only [Exit.inBlock, Exit.then]); refine bodyPost_ret_by (v := (.tuple #[.agg #[.string { data := #[] }, .int .i64 0], .bool false])) ((results_cell_tmp rfl _ _ _).trans (by go_simp; try rfl)) rfl ⟨rfl, ?_⟩)
    (repeat (first | with_reducible assumption | exact (Below.refl _ _).alloc (Nat.le_refl _) _ | exact Below.refl _ _ | (refine Below.drew ?_) | (refine Below.setCell ?_ ?_ _; rotate_left; first | exact Nat.le_refl _ | (dsimp only; omega)) | (refine Below.alloc ?_ ?_ _; rotate_left; first | exact Nat.le_refl _ | (simp; omega) | simp)))
  · have hk : ∃ q : Nat, k = (q : Int) + 1 := ⟨(k - 1).toNat, by simp [leadsB] at hl; omega⟩
    obtain ⟨q, rfl⟩ := hk
    have hqn : q < n := by
      simp [leadsB] at hl
      omega
    have hqq : ((q : Int) + 1 - 1).toNat = q := by omega
    dsimp only at h
    rw [hqq] at h
    have e3 : IntKind.i64.wrap ((q : Int) + 1 - 1) = (q : Int) := by
      have : (q : Int) + 1 - 1 = q := by omega
      rw [this]
      exact IntWalk.i64_in _ (by omega)
    have hV := hO0.v q hqn
    have hlm := hV.m
    have Hl := Lib.hid hl
    obtain ⟨BO, oO, hpO, hBO, hcO⟩ := hO0.at' (by omega)
    obtain ⟨d0, d1⟩ := hcO q hqn
    have HC : ∀ w1, Below ((w.alloc (Obj.cells #[.string s, .int .i64 ((q : Int) + 1)] 25)).alloc (Obj.cells #[.string { data := #[] }, .int .i64 0] 25)).heap.size ((w.alloc (Obj.cells #[.string s, .int .i64 ((q : Int) + 1)] 25)).alloc (Obj.cells #[.string { data := #[] }, .int .i64 0] 25)) w1 →
        w1.cell? ⟨BO, oO + q * 2 + 1, none⟩ = some (.slice (ob q).p (ob q).l (ob q).k) := fun w1 hb => by rw [hb.cell hBO]; exact d1
    subst hpO
    clear d0 d1 hcO hO hO0 hb0 hqq hBO
    have hcase : at' < 0 ∨ (0 ≤ at' ∧ ((ob q).l : Int) ≤ at') ∨ (∃ i : Nat, at' = (i : Int) ∧ i < (ob q).l) := by
      by_cases h0 : at' < 0
      · exact .inl h0
      · by_cases h1 : at' < ((ob q).l : Int)
        · exact .inr (.inr ⟨at'.toNat, by omega, by omega⟩)
        · exact .inr (.inl ⟨by omega, by omega⟩)
    rcases hcase with h0 | ⟨h0, h1⟩ | ⟨i, rfl, hi⟩
    · rw [if_neg (by omega)] at h
      simp only [Prod.mk.injEq] at h
      obtain ⟨⟨rfl, rfl⟩, rfl⟩ := h
      clear hl hV
      go_enter Try.func13, Try.ntmps13
      go_wp2_with fail
      refine (leads_val _ n ch hm s _ _ Hl.out _).mono ?_
      rintro e w1 ⟨rfl, hb⟩
      have g1 := HC w1 hb
      obtain ⟨hX, hR, hB⟩ := boxes2 hb
      have x1 := hX.c 1 _ rfl
      have r0 := hR.c 0 _ rfl
      have r1 := hR.c 1 _ rfl
      have f0 := hR.f 0 (by simp)
      have f1 := hR.f 1 (by simp)
      go_wp2
      ((try simp only [Exit.inBlock, Exit.then]); refine bodyPost_ret_by (v := (.tuple #[.agg #[.string { data := #[] }, .int .i64 0], .bool false])) ((results_cell_tmp rfl _ _ _).trans (by go_simp; try rfl)) rfl ⟨rfl, ?_⟩)
      (repeat (first | with_reducible assumption | exact (Below.refl _ _).alloc (Nat.le_refl _) _ | exact Below.refl _ _ | (refine Below.drew ?_) | (refine Below.setCell ?_ ?_ _; rotate_left; first | exact Nat.le_refl _ | (dsimp only; omega)) | (refine Below.alloc ?_ ?_ _; rotate_left; first | exact Nat.le_refl _ | (simp; omega) | simp)))
    · rw [if_neg (by omega)] at h
      simp only [Prod.mk.injEq] at h
      obtain ⟨⟨rfl, rfl⟩, rfl⟩ := h
      clear hl hV
      go_enter Try.func13, Try.ntmps13
      go_wp2_with fail
      refine (leads_val _ n ch hm s _ _ Hl.out _).mono ?_
      rintro e w1 ⟨rfl, hb⟩
      have g1 := HC w1 hb
      obtain ⟨hX, hR, hB⟩ := boxes2 hb
      have x1 := hX.c 1 _ rfl
      have r0 := hR.c 0 _ rfl
      have r1 := hR.c 1 _ rfl
      have f0 := hR.f 0 (by simp)
      have f1 := hR.f 1 (by simp)
      go_wp2
      ((try simp only [Exit.inBlock, Exit.then]); refine bodyPost_ret_by (v := (.tuple #[.agg #[.string { data := #[] }, .int .i64 0], .bool false])) ((results_cell_tmp rfl _ _ _).trans (by go_simp; try rfl)) rfl ⟨rfl, ?_⟩)
      (repeat (first | with_reducible assumption | exact (Below.refl _ _).alloc (Nat.le_refl _) _ | exact Below.refl _ _ | (refine Below.drew ?_) | (refine Below.setCell ?_ ?_ _; rotate_left; first | exact Nat.le_refl _ | (dsimp only; omega)) | (refine Below.alloc ?_ ?_ _; rotate_left; first | exact Nat.le_refl _ | (simp; omega) | simp)))
    · rw [if_pos ⟨hl, by omega, by omega⟩] at h
      simp only [Prod.mk.injEq] at h
      obtain ⟨hv, rfl⟩ := h
      have hi' : (i : Int).toNat = i := by omega
      rw [hi'] at hv
      clear hl hi'
      go_enter Try.func13, Try.ntmps13
      go_wp2_with fail
      refine (leads_val _ n ch hm s _ _ Hl.out _).mono ?_
      rintro e w1 ⟨rfl, hb⟩
      have g1 := HC w1 hb
      obtain ⟨B, o, hp, hB0, hc⟩ := (hV.below hb).at' (by omega)
      obtain ⟨c0, c1⟩ := hc i hi
      rw [hv] at c0 c1
      dsimp only at c0 c1
      rw [hp] at g1
      obtain ⟨hX, hR, hB⟩ := boxes2 hb
      have x1 := hX.c 1 _ rfl
      have r0 := hR.c 0 _ rfl
      have r1 := hR.c 1 _ rfl
      have f0 := hR.f 0 (by simp)
      have f1 := hR.f 1 (by simp)
      clear hc hV hv hp HC hX hR
      go_wp2
      ((try simp only [Exit.inBlock, Exit.then]); refine bodyPost_ret_by (v := (.tuple #[.agg #[.string r, .int .i64 m], .bool true])) ((results_cell_tmp rfl _ _ _).trans (by go_simp; try rfl)) rfl ⟨rfl, ?_⟩)
      (repeat (first | with_reducible assumption | exact (Below.refl _ _).alloc (Nat.le_refl _) _ | exact Below.refl _ _ | (refine Below.drew ?_) | (refine Below.setCell ?_ ?_ _; rotate_left; first | exact Nat.le_refl _ | (dsimp only; omega)) | (refine Below.alloc ?_ ?_ _; rotate_left; first | exact Nat.le_refl _ | (simp; omega) | simp)))

/-- the nought of a type -/
def noughtT (t : ByteArray) : ByteArray := if t.toList = [105, 110, 116] ∨ t.toList = [102, 108, 111, 97, 116] then t else { data := #[114, 101, 102] }
theorem nought_h (t : ByteArray) (w : World) : Calls Try.prog 17 #[.string t] w fun e w' => e = .returned (.agg #[.string (noughtT t), .int .i64 0]) ∧ Below w.heap.size w w' := by
  unfold noughtT
  by_cases h1 : t.toList = [105, 110, 116]
  · rw [if_pos (.inl h1)]
    go_enter Try.func17, Try.ntmps17
    go_wp2
    ((try simp only [Exit.inBlock, Exit.then]); refine bodyPost_ret_by (v := (.agg #[.string t, .int .i64 0])) ((results_cell1 rfl _ _ _).trans (by go_simp; try rfl)) rfl ⟨rfl, ?_⟩)
    (repeat (first | with_reducible assumption | exact (Below.refl _ _).alloc (Nat.le_refl _) _ | exact Below.refl _ _ | (refine Below.drew ?_) | (refine Below.setCell ?_ ?_ _; rotate_left; first | exact Nat.le_refl _ | (dsimp only; omega)) | (refine Below.alloc ?_ ?_ _; rotate_left; first | exact Nat.le_refl _ | (simp; omega) | simp)))
  by_cases h2 : t.toList = [102, 108, 111, 97, 116]
  · rw [if_pos (.inr h2)]
    go_enter Try.func17, Try.ntmps17
    go_wp2
    ((try simp only [Exit.inBlock, Exit.then]); refine bodyPost_ret_by (v := (.agg #[.string t, .int .i64 0])) ((results_cell1 rfl _ _ _).trans (by go_simp; try rfl)) rfl ⟨rfl, ?_⟩)
    (repeat (first | with_reducible assumption | exact (Below.refl _ _).alloc (Nat.le_refl _) _ | exact Below.refl _ _ | (refine Below.drew ?_) | (refine Below.setCell ?_ ?_ _; rotate_left; first | exact Nat.le_refl _ | (dsimp only; omega)) | (refine Below.alloc ?_ ?_ _; rotate_left; first | exact Nat.le_refl _ | (simp; omega) | simp)))
  · rw [if_neg (by simp [h1, h2])]
    have e1 : (t.toList == [105, 110, 116]) = false := by simpa using h1
    have e2 : (t.toList == [102, 108, 111, 97, 116]) = false := by simpa using h2
    clear h1 h2
    go_enter Try.func17, Try.ntmps17
    go_wp2
    ((try simp only [Exit.inBlock, Exit.then]); refine bodyPost_ret_by (v := (.agg #[.string { data := #[114, 101, 102] }, .int .i64 0])) ((results_cell1 rfl _ _ _).trans (by go_simp; try rfl)) rfl ⟨rfl, ?_⟩)
    (repeat (first | with_reducible assumption | exact (Below.refl _ _).alloc (Nat.le_refl _) _ | exact Below.refl _ _ | (refine Below.drew ?_) | (refine Below.setCell ?_ ?_ _; rotate_left; first | exact Nat.le_refl _ | (dsimp only; omega)) | (refine Below.alloc ?_ ?_ _; rotate_left; first | exact Nat.le_refl _ | (simp; omega) | simp)))
theorem rnought_h (t : ByteArray) (w : World) : Calls Try.prog 18 #[.string t] w fun e w' => e = .returned (.agg #[.string (noughtT t), .int .i64 0]) ∧ Below w.heap.size w w' := by
  unfold noughtT
  by_cases h1 : t.toList = [105, 110, 116]
  · rw [if_pos (.inl h1)]
    go_enter Try.func18, Try.ntmps18
    go_wp2
    ((try simp only [Exit.inBlock, Exit.then]); refine bodyPost_ret_by (v := (.agg #[.string t, .int .i64 0])) ((results_cell1 rfl _ _ _).trans (by go_simp; try rfl)) rfl ⟨rfl, ?_⟩)
    (repeat (first | with_reducible assumption | exact (Below.refl _ _).alloc (Nat.le_refl _) _ | exact Below.refl _ _ | (refine Below.drew ?_) | (refine Below.setCell ?_ ?_ _; rotate_left; first | exact Nat.le_refl _ | (dsimp only; omega)) | (refine Below.alloc ?_ ?_ _; rotate_left; first | exact Nat.le_refl _ | (simp; omega) | simp)))
  by_cases h2 : t.toList = [102, 108, 111, 97, 116]
  · rw [if_pos (.inr h2)]
    go_enter Try.func18, Try.ntmps18
    go_wp2
    ((try simp only [Exit.inBlock, Exit.then]); refine bodyPost_ret_by (v := (.agg #[.string t, .int .i64 0])) ((results_cell1 rfl _ _ _).trans (by go_simp; try rfl)) rfl ⟨rfl, ?_⟩)
    (repeat (first | with_reducible assumption | exact (Below.refl _ _).alloc (Nat.le_refl _) _ | exact Below.refl _ _ | (refine Below.drew ?_) | (refine Below.setCell ?_ ?_ _; rotate_left; first | exact Nat.le_refl _ | (dsimp only; omega)) | (refine Below.alloc ?_ ?_ _; rotate_left; first | exact Nat.le_refl _ | (simp; omega) | simp)))
  · rw [if_neg (by simp [h1, h2])]
    have e1 : (t.toList == [105, 110, 116]) = false := by simpa using h1
    have e2 : (t.toList == [102, 108, 111, 97, 116]) = false := by simpa using h2
    clear h1 h2
    go_enter Try.func18, Try.ntmps18
    go_wp2
    ((try simp only [Exit.inBlock, Exit.then]); refine bodyPost_ret_by (v := (.agg #[.string { data := #[114, 101, 102] }, .int .i64 0])) ((results_cell1 rfl _ _ _).trans (by go_simp; try rfl)) rfl ⟨rfl, ?_⟩)
    (repeat (first | with_reducible assumption | exact (Below.refl _ _).alloc (Nat.le_refl _) _ | exact Below.refl _ _ | (refine Below.drew ?_) | (refine Below.setCell ?_ ?_ _; rotate_left; first | exact Nat.le_refl _ | (dsimp only; omega)) | (refine Below.alloc ?_ ?_ _; rotate_left; first | exact Nat.le_refl _ | (simp; omega) | simp)))
end Go.Proofs.Ytndakhnplnamdaa
