/- The walks of the reference's Instr at two arguments: operations 6, 7. -/
import Derived.Test.YtiheecgabfcigaaFoldS
namespace Go.Proofs.Ytiheecgabfcigaa
open Go.RowKit Num Flo

set_option maxRecDepth 100000 in
set_option maxHeartbeats 4000000 in
theorem ref6_val (d nm : ByteArray) (B o cap : Nat) (pf po : Option Addr) (lf kf lo ko : Nat) (K : Int) (s : ByteArray) (n K2 : Int) (s2 : ByteArray) (n2 : Int)
    (hn : Hid (-9223372036854775808 ≤ n ∧ n ≤ 9223372036854775807)) (hn2 : Hid (-9223372036854775808 ≤ n2 ∧ n2 ≤ 9223372036854775807))
    (k : Int) (t : ByteArray) (j : Int) (b : Bool) (h : refV 6 K s n K2 s2 n2 = (k, t, j, b)) (w : World) (hB : B < w.heap.size)
    (h0 : w.cell? ⟨B, o, none⟩ = some (.int .i64 K)) (h1 : w.cell? ⟨B, o + 1, none⟩ = some (.string s)) (h2 : w.cell? ⟨B, o + 2, none⟩ = some (.int .i64 n))
    (h3 : w.cell? ⟨B, o + 3, none⟩ = some (.int .i64 K2)) (h4 : w.cell? ⟨B, o + 3 + 1, none⟩ = some (.string s2)) (h5 : w.cell? ⟨B, o + 3 + 2, none⟩ = some (.int .i64 n2)) :
    Calls Try.prog 9 #[.agg #[.int .i64 6, .string d, .string nm, .slice (some ⟨B, o, none⟩) 2 cap, .slice pf lf kf, .slice po lo ko]] w fun e w' => e = .returned (.tuple #[.agg #[.int .i64 k, .string t, .int .i64 j], .bool b]) ∧ Below w.heap.size w w' := by
  have H := Lib.hid h
  clear h
  have hB1 : B < w.heap.size + 1 := by omega
  have hB2 : B < w.heap.size + 1 + 1 := by omega
  have hB3 : B < w.heap.size + 1 + 1 + 1 := by omega
  have hB4 : B < w.heap.size + 1 + 1 + 1 + 1 := by omega
  go_enter Try.func9, Try.ntmps9
  go_upto_region 16 with fail
  refine (?_ : ∀ W, RefPre w W K s n K2 s2 n2 → Code.wp _ _ _ _ W) _ RefPre.start
  intro wc hP
  clear h0 h1 h2 h3 h4 h5 hB hB1 hB2 hB3 hB4
  go_cut [76] from 69 to 76 (fun u wx => u = .bool (K == 2 && K2 == 2) ∧ wx = wc)
  case first =>
    have a0 := hP.a.c 0 _ rfl
    have b0 := hP.b.c 0 _ rfl
    rcases e1 : (K == 2) with _ | _ <;> rcases e2 : (K2 == 2) with _ | _
    all_goals
      go_wp2
      go_meet
      case rel => exact ⟨by rw [e1, e2]; rfl, rfl⟩
  case rest =>
  obtain ⟨rfl, rfl⟩ := hcut
  go_upto_if 76 with fail
  go_cut [76] from 77 to 88 (fun _ wx => RefPre w wx K s n K2 s2 n2 ∧ Hid (¬ (K = 2 ∧ K2 = 2 ∧ (doN 6 n n2).2 = true)))
  case first =>
    rcases e : (K == 2 && K2 == 2) with _ | _
    · go_wp2
      go_meet
      case rel => exact ⟨hP, fun h => by rw [h.1, h.2.1] at e; exact Bool.noConfusion e⟩
    · have e12 : K = 2 ∧ K2 = 2 := by simpa using e
      obtain ⟨rfl, rfl⟩ := e12
      have a2 := hP.a.c 2 _ rfl
      have b2 := hP.b.c 2 _ rfl
      rcases hd : doN 6 n n2 with ⟨v, c⟩
      have Hd := Lib.hid hd
      cases c
      · go_wp2_with ((with_reducible refine (nrdo_val 6 n n2 v false Hd.out hn hn2 _).mono ?_); rintro e w1 ⟨rfl, hb⟩)
        go_meet
        case rel => exact ⟨hP.next hb, fun h => by rw [Hd.out] at h; exact Bool.noConfusion h.2.2⟩
      · have hr : refV 6 2 s n 2 s2 n2 = (2, .empty, v, true) := by
          unfold refV
          rw [if_pos ⟨rfl, rfl, by rw [hd]⟩, hd]
        rw [H.out] at hr
        simp only [Prod.mk.injEq] at hr
        obtain ⟨rfl, rfl, rfl, rfl⟩ := hr
        clear hd
        go_wp2_with (first | ((with_reducible refine (nrdo_val 6 n n2 _ true Hd.out hn hn2 _).mono ?_); rintro e w1 ⟨rfl, hb⟩; have hP1 := hP.next hb) | ((with_reducible refine (rn_val _ _).mono ?_); rintro e w2 ⟨rfl, hb2⟩; have hP2 := hP1.next hb2; (have r0 := (hP2.r).c 0 _ rfl; have r1 := (hP2.r).c 1 _ rfl; have r2 := (hP2.r).c 2 _ rfl; have f0 := (hP2.r).f 0 (by simp); have f1 := (hP2.r).f 1 (by simp); have f2 := (hP2.r).f 2 (by simp))))
        ((try simp only [Exit.inBlock, Exit.then]); refine bodyPost_ret_by (v := (.tuple #[.agg #[.int .i64 _, .string _, .int .i64 _], .bool true])) ((results_cell_tmp rfl _ _ _).trans (by go_simp; try rfl)) rfl ⟨rfl, ?_⟩)
        have hB' := hP2.h
        (repeat (first | with_reducible assumption | exact (Below.refl _ _).alloc (Nat.le_refl _) _ | exact Below.refl _ _ | (refine Below.drew ?_) | (refine Below.setCell ?_ ?_ _; rotate_left; first | exact Nat.le_refl _ | (dsimp only; omega)) | (refine Below.alloc ?_ ?_ _; rotate_left; first | exact Nat.le_refl _ | (simp; omega) | simp)))
  case rest =>
  obtain ⟨hP, hn1⟩ := hcut
  go_upto_region 20 with fail
  go_cut [96] from 89 to 96 (fun u wx => u = .bool (K == 3 && K2 == 3) ∧ wx = wc)
  case first =>
    have a0 := hP.a.c 0 _ rfl
    have b0 := hP.b.c 0 _ rfl
    rcases e1 : (K == 3) with _ | _ <;> rcases e2 : (K2 == 3) with _ | _
    all_goals
      go_wp2
      go_meet
      case rel => exact ⟨by rw [e1, e2]; rfl, rfl⟩
  case rest =>
  obtain ⟨rfl, rfl⟩ := hcut
  go_upto_if 96 with fail
  go_cut [96] from 97 to 115 (fun _ wx => RefPre w wx K s n K2 s2 n2 ∧ Hid (¬ (K = 3 ∧ K2 = 3 ∧ (doV 6 n n2).2 = true)))
  case first =>
    rcases e : (K == 3 && K2 == 3) with _ | _
    · go_wp2
      go_meet
      case rel => exact ⟨hP, fun h => by rw [h.1, h.2.1] at e; exact Bool.noConfusion e⟩
    · have e12 : K = 3 ∧ K2 = 3 := by simpa using e
      obtain ⟨rfl, rfl⟩ := e12
      have a2 := hP.a.c 2 _ rfl
      have b2 := hP.b.c 2 _ rfl
      rcases hd : doV 6 n n2 with ⟨v, c⟩
      have Hd := Lib.hid hd
      cases c
      · go_wp2_with ((with_reducible refine (frdo_val 6 n n2 v false Hd.out _).mono ?_); rintro e w1 ⟨rfl, hb⟩)
        go_meet
        case rel => exact ⟨hP.next hb, fun h => by rw [Hd.out] at h; exact Bool.noConfusion h.2.2⟩
      · have hr : refV 6 3 s n 3 s2 n2 = (if (6 : Int) ≤ 18 then 3 else 2, .empty, v, true) := by
          unfold refV
          rw [if_neg (fun h => by have := h.1; omega), if_pos ⟨rfl, rfl, by rw [hd]⟩, hd]
        rw [H.out] at hr
        simp only [Prod.mk.injEq] at hr
        obtain ⟨hk, rfl, rfl, rfl⟩ := hr
        have hk3 : k = 3 := by simpa using hk
        clear hk
        subst hk3
        clear hd
        go_wp2_with (first | ((with_reducible refine (frdo_val 6 n n2 _ true Hd.out _).mono ?_); rintro e w1 ⟨rfl, hb⟩; have hP1 := hP.next hb) | ((with_reducible refine (rf_val _ _).mono ?_); rintro e w2 ⟨rfl, hb2⟩; have hP2 := hP1.next hb2; (have r0 := (hP2.r).c 0 _ rfl; have r1 := (hP2.r).c 1 _ rfl; have r2 := (hP2.r).c 2 _ rfl; have f0 := (hP2.r).f 0 (by simp); have f1 := (hP2.r).f 1 (by simp); have f2 := (hP2.r).f 2 (by simp))) | ((with_reducible refine (rn_val _ _).mono ?_); rintro e w2 ⟨rfl, hb2⟩; have hP2 := hP1.next hb2; (have r0 := (hP2.r).c 0 _ rfl; have r1 := (hP2.r).c 1 _ rfl; have r2 := (hP2.r).c 2 _ rfl; have f0 := (hP2.r).f 0 (by simp); have f1 := (hP2.r).f 1 (by simp); have f2 := (hP2.r).f 2 (by simp))))
        ((try simp only [Exit.inBlock, Exit.then]); refine bodyPost_ret_by (v := (.tuple #[.agg #[.int .i64 _, .string _, .int .i64 _], .bool true])) ((results_cell_tmp rfl _ _ _).trans (by go_simp; try rfl)) rfl ⟨rfl, ?_⟩)
        have hB' := hP2.h
        (repeat (first | with_reducible assumption | exact (Below.refl _ _).alloc (Nat.le_refl _) _ | exact Below.refl _ _ | (refine Below.drew ?_) | (refine Below.setCell ?_ ?_ _; rotate_left; first | exact Nat.le_refl _ | (dsimp only; omega)) | (refine Below.alloc ?_ ?_ _; rotate_left; first | exact Nat.le_refl _ | (simp; omega) | simp)))
  case rest =>
  obtain ⟨hP, hn2⟩ := hcut
  have H : Hid (swV 6 K s n K2 s2 n2 = (k, t, j, b)) := by
    have := H.out
    unfold refV at this
    rwa [if_neg hn1.out, if_neg hn2.out] at this
  clear hn1 hn2
  go_upto_region 26 with fail
  go_cut [13] from 116 to 123 (fun u wx => u = .bool (oneB K s n K2 s2 n2) ∧ wx = wc)
  case first =>
    have a0 := hP.a.c 0 _ rfl
    have a1 := hP.a.c 1 _ rfl
    have a2 := hP.a.c 2 _ rfl
    have b0 := hP.b.c 0 _ rfl
    have b1 := hP.b.c 1 _ rfl
    have b2 := hP.b.c 2 _ rfl
    have hE : ∀ w, (Op.equalIn 10000 30 (.agg #[.int .i64 K, .string s, .int .i64 n]) (.agg #[.int .i64 K2, .string s2, .int .i64 n2])).run Try.prog w = .ok (sameV K s n K2 s2 n2) w := fun w => by rw [eqArg]; rfl
    have ho : oneB K s n K2 s2 n2 = (K == 1 && sameV K s n K2 s2 n2) := rfl
    clear H
    generalize sameV K s n K2 s2 n2 = c at hE ho
    have Ho := Lib.hid ho
    clear ho
    rcases e1 : (K == 1) with _ | _ <;> cases c
    all_goals
      go_wp2
      go_meet
      case rel => exact ⟨by rw [Ho.out, e1]; rfl, rfl⟩
  case rest =>
  obtain ⟨rfl, rfl⟩ := hcut
  go_wp2_with fail
  refine (rf_val _ _).mono ?_
  rintro e w1 ⟨rfl, hb1⟩
  have hP1 := hP.next hb1
  clear hb1 hP
  go_wp2_with fail
  refine (rf_val _ _).mono ?_
  rintro e w2 ⟨rfl, hb2⟩
  obtain ⟨m2, hbm⟩ := boxes1 hb2
  have hP2 := hP1.next hbm
  clear hb2 hbm hP1
  have hU : RefSt w (w2.alloc (Obj.cells #[.int .i64 3, .string .empty, .int .i64 4607182418800017408] 30)) w1.heap.size w2.heap.size K s n K2 s2 n2 :=
    { r := hP2.r.al _, z := hP2.z.al _, a := hP2.a.al _, b := hP2.b.al _, m := m2.al _, u := Box.alloc w2 [.int .i64 3, .string .empty, .int .i64 4607182418800017408] 30, h := hP2.h.alloc hP2.h.size _ }
  clear m2 hP2
  have H : Hid ((if (eqN K s n 0 || eqN K2 s2 n2 0) = true then (2, .empty, 0, true) else eitherV (eqN K2 s2 n2 (-1) || oneB K s n K2 s2 n2) K s n (eqN K s n (-1)) K2 s2 n2) = (k, t, j, b)) := H
  have hE1 : ∀ w, (Op.equalIn 10000 30 (.agg #[.int .i64 K, .string s, .int .i64 n]) (.agg #[.int .i64 2, .string .empty, .int .i64 0])).run Try.prog w = .ok (eqN K s n 0) w := fun w => by rw [eqArg]; rfl
  generalize eqN K s n 0 = r1 at H hE1
  have hE2 : ∀ w, (Op.equalIn 10000 30 (.agg #[.int .i64 K2, .string s2, .int .i64 n2]) (.agg #[.int .i64 2, .string .empty, .int .i64 0])).run Try.prog w = .ok (eqN K2 s2 n2 0) w := fun w => by rw [eqArg]; rfl
  generalize eqN K2 s2 n2 0 = r2 at H hE2
  have hE3 : ∀ w, (Op.equalIn 10000 30 (.agg #[.int .i64 K2, .string s2, .int .i64 n2]) (.agg #[.int .i64 2, .string .empty, .int .i64 (-1)])).run Try.prog w = .ok (eqN K2 s2 n2 (-1)) w := fun w => by rw [eqArg]; rfl
  generalize eqN K2 s2 n2 (-1) = r3 at H hE3
  have hE4 : ∀ w, (Op.equalIn 10000 30 (.agg #[.int .i64 K, .string s, .int .i64 n]) (.agg #[.int .i64 2, .string .empty, .int .i64 (-1)])).run Try.prog w = .ok (eqN K s n (-1)) w := fun w => by rw [eqArg]; rfl
  generalize eqN K s n (-1) = r4 at H hE4
  generalize oneB K s n K2 s2 n2 = c at H ⊢
  cases r1 <;> cases r2
  · have H : Hid (eitherV (r3 || c) K s n r4 K2 s2 n2 = (k, t, j, b)) := H
    go_wp2_with fail
    refine wp_region_ser (S := fun _ w3 => RefSt w w3 w1.heap.size w2.heap.size K s n K2 s2 n2) rfl (by kernel_rfl) hU.drew ?_
    clear hU
    repeat (first | ((refine Ser.step (a1 := ?_) rfl (fun L w1 K' Q' hS hi hR hd hK => ?_) ?_ ?_; rotate_left); (· ((skip); go_simp; (try simp only [Act.put, List.setIfInBounds_toArray, List.set_cons_zero, List.set_cons_succ]); exact hK.out _ (hS))); (· rfl)) | ((refine Ser.step (a1 := ?_) rfl (fun L w1 K' Q' hS hi hR hd hK => ?_) ?_ ?_; rotate_left); (· (((have a0 := hS.a.c 0 _ rfl; have a1 := hS.a.c 1 _ rfl; have a2 := hS.a.c 2 _ rfl; have b0 := hS.b.c 0 _ rfl; have b1 := hS.b.c 1 _ rfl; have b2 := hS.b.c 2 _ rfl)); go_simp; (try simp only [Act.put, List.setIfInBounds_toArray, List.set_cons_zero, List.set_cons_succ]); exact hK.out _ (hS))); (· rfl)) | ((refine Ser.step (a1 := ?_) rfl (fun L w1 K' Q' hS hi hR hd hK => ?_) ?_ ?_; rotate_left); (· (go_simp; go_wp2_with ((first | (go_at_call 24; refine (rn_val _ _).mono ?_; rintro e w2 ⟨rfl, hb⟩) | (go_at_call 22; refine (rf_val _ _).mono ?_; rintro e w2 ⟨rfl, hb⟩))); (try simp only [Act.put, List.setIfInBounds_toArray, List.set_cons_zero, List.set_cons_succ]); exact hK.out _ (RefSt.next hS hb))); (· rfl)) | (refine Ser.skip rfl (fun L w1 hS hi => (hS)) ?_; (try simp only [Act.put, List.setIfInBounds_toArray, List.set_cons_zero, List.set_cons_succ])))
    refine Ser.nil fun w4 hU => ?_
    cases r3 <;> cases c
    all_goals
      go_wp2_with fail
      refine wp_region_ser (S := SStore 14 (fun w3 => RefSt w w3 w1.heap.size w2.heap.size K s n K2 s2 n2) (RefEnd w k t j)) rfl (by kernel_rfl) (SStore.start hU.drew) ?_
      clear hU
      repeat (first | ((refine Ser.step (a1 := ?_) rfl (fun L w1 K' Q' hS hi hR hd hK => ?_) ?_ ?_; rotate_left); (· ((skip); go_simp; (try simp only [Act.put, List.setIfInBounds_toArray, List.set_cons_zero, List.set_cons_succ]); exact hK.out _ (hS.pass rfl))); (· rfl)) | ((refine Ser.step (a1 := ?_) rfl (fun L w1 K' Q' hS hi hR hd hK => ?_) ?_ ?_; rotate_left); (· (((have hI := hS.1 (hR.out (14) _ (by kernel_rfl) hi); have a0 := hI.a.c 0 _ rfl; have a1 := hI.a.c 1 _ rfl; have a2 := hI.a.c 2 _ rfl; have b0 := hI.b.c 0 _ rfl; have b1 := hI.b.c 1 _ rfl; have b2 := hI.b.c 2 _ rfl; have m0 := hI.m.c 0 _ rfl; have m1 := hI.m.c 1 _ rfl; have m2 := hI.m.c 2 _ rfl; have u0 := hI.u.c 0 _ rfl; have u1 := hI.u.c 1 _ rfl; have u2 := hI.u.c 2 _ rfl)); go_simp; (try simp only [Act.put, List.setIfInBounds_toArray, List.set_cons_zero, List.set_cons_succ]); exact hK.out _ (hS.pass rfl))); (· rfl)) | ((refine Ser.step (a1 := ?_) rfl (fun L w1 K' Q' hS hi hR hd hK => ?_) ?_ ?_; rotate_left); (· (go_simp; go_wp2_with ((first | (go_at_call 24; refine (rn_val _ _).mono ?_; rintro e w2 ⟨rfl, hb⟩) | (go_at_call 22; refine (rf_val _ _).mono ?_; rintro e w2 ⟨rfl, hb⟩) | (go_at_call 28; refine (either_val _ _ _ _ _ _ _ _ _ _ _ _ H.out _).mono ?_; rintro e w2 ⟨rfl, hb⟩))); (try simp only [Act.put, List.setIfInBounds_toArray, List.set_cons_zero, List.set_cons_succ]); exact hK.out _ (SStore.keep (hR.out (14) _ (by kernel_rfl) hi) ((hS.1 (hR.out (14) _ (by kernel_rfl) hi)).next hb) rfl))); (· rfl)) | (refine Ser.skip rfl (fun L w1 hS hi => (hS.pass rfl)) ?_; (try simp only [Act.put, List.setIfInBounds_toArray, List.set_cons_zero, List.set_cons_succ])))
      ((refine Ser.step (a1 := ?_) rfl (fun L w1 K' Q' hS hi hR hd hK => ?_) ?_ ?_; rotate_left); (· (have hI := hS.1 hi; have r0 := hI.r.c 0 _ rfl; have r1 := hI.r.c 1 _ rfl; have r2 := hI.r.c 2 _ rfl; have f0 := hI.r.f 0 (by decide); have f1 := hI.r.f 1 (by decide); have f2 := hI.r.f 2 (by decide); go_simp; exact hK.out _ (SStore.done (hI.put _ _ _)))); (· rfl))
      (first | ((refine Ser.step (a1 := ?_) rfl (fun L w1 K' Q' hS hi hR hd hK => ?_) ?_ ?_; rotate_left); (· ((skip); go_simp; (try simp only [Act.put, List.setIfInBounds_toArray, List.set_cons_zero, List.set_cons_succ]); exact hK.out _ (hS.pass rfl))); (· rfl)) | ((refine Ser.step (a1 := ?_) rfl (fun L w1 K' Q' hS hi hR hd hK => ?_) ?_ ?_; rotate_left); (· (((have hI := hS.1 (hR.out (14) _ (by kernel_rfl) hi); have a0 := hI.a.c 0 _ rfl; have a1 := hI.a.c 1 _ rfl; have a2 := hI.a.c 2 _ rfl; have b0 := hI.b.c 0 _ rfl; have b1 := hI.b.c 1 _ rfl; have b2 := hI.b.c 2 _ rfl; have m0 := hI.m.c 0 _ rfl; have m1 := hI.m.c 1 _ rfl; have m2 := hI.m.c 2 _ rfl; have u0 := hI.u.c 0 _ rfl; have u1 := hI.u.c 1 _ rfl; have u2 := hI.u.c 2 _ rfl)); go_simp; (try simp only [Act.put, List.setIfInBounds_toArray, List.set_cons_zero, List.set_cons_succ]); exact hK.out _ (hS.pass rfl))); (· rfl)) | ((refine Ser.step (a1 := ?_) rfl (fun L w1 K' Q' hS hi hR hd hK => ?_) ?_ ?_; rotate_left); (· (go_simp; go_wp2_with ((first | (go_at_call 24; refine (rn_val _ _).mono ?_; rintro e w2 ⟨rfl, hb⟩) | (go_at_call 22; refine (rf_val _ _).mono ?_; rintro e w2 ⟨rfl, hb⟩) | (go_at_call 28; refine (either_val _ _ _ _ _ _ _ _ _ _ _ _ H.out _).mono ?_; rintro e w2 ⟨rfl, hb⟩))); (try simp only [Act.put, List.setIfInBounds_toArray, List.set_cons_zero, List.set_cons_succ]); exact hK.out _ (SStore.keep (hR.out (14) _ (by kernel_rfl) hi) ((hS.1 (hR.out (14) _ (by kernel_rfl) hi)).next hb) rfl))); (· rfl)) | (refine Ser.skip rfl (fun L w1 hS hi => (hS.pass rfl)) ?_; (try simp only [Act.put, List.setIfInBounds_toArray, List.set_cons_zero, List.set_cons_succ])))
      refine Ser.nil fun w4 hS => ?_
      obtain ⟨hr, hB'⟩ := hS.2 rfl
      (have r0 := (hr).c 0 _ rfl; have r1 := (hr).c 1 _ rfl; have r2 := (hr).c 2 _ rfl; have f0 := (hr).f 0 (by simp); have f1 := (hr).f 1 (by simp); have f2 := (hr).f 2 (by simp))
      go_wp2
      ((try simp only [Exit.inBlock, Exit.then]); refine bodyPost_ret_by (v := (.tuple #[.agg #[.int .i64 _, .string _, .int .i64 _], .bool _])) ((results_cell_tmp rfl _ _ _).trans (by go_simp; try rfl)) rfl ⟨rfl, ?_⟩)
      (repeat (first | with_reducible assumption | exact (Below.refl _ _).alloc (Nat.le_refl _) _ | exact Below.refl _ _ | (refine Below.drew ?_) | (refine Below.setCell ?_ ?_ _; rotate_left; first | exact Nat.le_refl _ | (dsimp only; omega)) | (refine Below.alloc ?_ ?_ _; rotate_left; first | exact Nat.le_refl _ | (simp; omega) | simp)))
  · go_wp2_with fail
    refine wp_region_ser (S := fun _ w3 => RefSt w w3 w1.heap.size w2.heap.size K s n K2 s2 n2) rfl (by kernel_rfl) hU.drew ?_
    clear hU
    repeat (first | ((refine Ser.step (a1 := ?_) rfl (fun L w1 K' Q' hS hi hR hd hK => ?_) ?_ ?_; rotate_left); (· ((skip); go_simp; (try simp only [Act.put, List.setIfInBounds_toArray, List.set_cons_zero, List.set_cons_succ]); exact hK.out _ (hS))); (· rfl)) | ((refine Ser.step (a1 := ?_) rfl (fun L w1 K' Q' hS hi hR hd hK => ?_) ?_ ?_; rotate_left); (· (((have a0 := hS.a.c 0 _ rfl; have a1 := hS.a.c 1 _ rfl; have a2 := hS.a.c 2 _ rfl; have b0 := hS.b.c 0 _ rfl; have b1 := hS.b.c 1 _ rfl; have b2 := hS.b.c 2 _ rfl)); go_simp; (try simp only [Act.put, List.setIfInBounds_toArray, List.set_cons_zero, List.set_cons_succ]); exact hK.out _ (hS))); (· rfl)) | ((refine Ser.step (a1 := ?_) rfl (fun L w1 K' Q' hS hi hR hd hK => ?_) ?_ ?_; rotate_left); (· (go_simp; go_wp2_with ((first | (go_at_call 24; refine (rn_val _ _).mono ?_; rintro e w2 ⟨rfl, hb⟩) | (go_at_call 22; refine (rf_val _ _).mono ?_; rintro e w2 ⟨rfl, hb⟩))); (try simp only [Act.put, List.setIfInBounds_toArray, List.set_cons_zero, List.set_cons_succ]); exact hK.out _ (RefSt.next hS hb))); (· rfl)) | (refine Ser.skip rfl (fun L w1 hS hi => (hS)) ?_; (try simp only [Act.put, List.setIfInBounds_toArray, List.set_cons_zero, List.set_cons_succ])))
    refine Ser.nil fun w4 hU => ?_
    have H : (2, ByteArray.empty, (0 : Int), true) = (k, t, j, b) := H.out
    simp only [Prod.mk.injEq] at H
    obtain ⟨rfl, rfl, rfl, rfl⟩ := H
    go_wp2_with ((with_reducible refine (rn_val _ _).mono ?_); rintro e w5 ⟨rfl, hb5⟩; have hU5 := hU.next hb5; (have r0 := (hU5.r).c 0 _ rfl; have r1 := (hU5.r).c 1 _ rfl; have r2 := (hU5.r).c 2 _ rfl; have f0 := (hU5.r).f 0 (by simp); have f1 := (hU5.r).f 1 (by simp); have f2 := (hU5.r).f 2 (by simp)))
    ((try simp only [Exit.inBlock, Exit.then]); refine bodyPost_ret_by (v := (.tuple #[.agg #[.int .i64 _, .string _, .int .i64 _], .bool _])) ((results_cell_tmp rfl _ _ _).trans (by go_simp; try rfl)) rfl ⟨rfl, ?_⟩)
    have hB' := hU5.h
    (repeat (first | with_reducible assumption | exact (Below.refl _ _).alloc (Nat.le_refl _) _ | exact Below.refl _ _ | (refine Below.drew ?_) | (refine Below.setCell ?_ ?_ _; rotate_left; first | exact Nat.le_refl _ | (dsimp only; omega)) | (refine Below.alloc ?_ ?_ _; rotate_left; first | exact Nat.le_refl _ | (simp; omega) | simp)))
  · go_wp2_with fail
    refine wp_region_ser (S := fun _ w3 => RefSt w w3 w1.heap.size w2.heap.size K s n K2 s2 n2) rfl (by kernel_rfl) hU.drew ?_
    clear hU
    repeat (first | ((refine Ser.step (a1 := ?_) rfl (fun L w1 K' Q' hS hi hR hd hK => ?_) ?_ ?_; rotate_left); (· ((skip); go_simp; (try simp only [Act.put, List.setIfInBounds_toArray, List.set_cons_zero, List.set_cons_succ]); exact hK.out _ (hS))); (· rfl)) | ((refine Ser.step (a1 := ?_) rfl (fun L w1 K' Q' hS hi hR hd hK => ?_) ?_ ?_; rotate_left); (· (((have a0 := hS.a.c 0 _ rfl; have a1 := hS.a.c 1 _ rfl; have a2 := hS.a.c 2 _ rfl; have b0 := hS.b.c 0 _ rfl; have b1 := hS.b.c 1 _ rfl; have b2 := hS.b.c 2 _ rfl)); go_simp; (try simp only [Act.put, List.setIfInBounds_toArray, List.set_cons_zero, List.set_cons_succ]); exact hK.out _ (hS))); (· rfl)) | ((refine Ser.step (a1 := ?_) rfl (fun L w1 K' Q' hS hi hR hd hK => ?_) ?_ ?_; rotate_left); (· (go_simp; go_wp2_with ((first | (go_at_call 24; refine (rn_val _ _).mono ?_; rintro e w2 ⟨rfl, hb⟩) | (go_at_call 22; refine (rf_val _ _).mono ?_; rintro e w2 ⟨rfl, hb⟩))); (try simp only [Act.put, List.setIfInBounds_toArray, List.set_cons_zero, List.set_cons_succ]); exact hK.out _ (RefSt.next hS hb))); (· rfl)) | (refine Ser.skip rfl (fun L w1 hS hi => (hS)) ?_; (try simp only [Act.put, List.setIfInBounds_toArray, List.set_cons_zero, List.set_cons_succ])))
    refine Ser.nil fun w4 hU => ?_
    have H : (2, ByteArray.empty, (0 : Int), true) = (k, t, j, b) := H.out
    simp only [Prod.mk.injEq] at H
    obtain ⟨rfl, rfl, rfl, rfl⟩ := H
    go_wp2_with ((with_reducible refine (rn_val _ _).mono ?_); rintro e w5 ⟨rfl, hb5⟩; have hU5 := hU.next hb5; (have r0 := (hU5.r).c 0 _ rfl; have r1 := (hU5.r).c 1 _ rfl; have r2 := (hU5.r).c 2 _ rfl; have f0 := (hU5.r).f 0 (by simp); have f1 := (hU5.r).f 1 (by simp); have f2 := (hU5.r).f 2 (by simp)))
    ((try simp only [Exit.inBlock, Exit.then]); refine bodyPost_ret_by (v := (.tuple #[.agg #[.int .i64 _, .string _, .int .i64 _], .bool _])) ((results_cell_tmp rfl _ _ _).trans (by go_simp; try rfl)) rfl ⟨rfl, ?_⟩)
    have hB' := hU5.h
    (repeat (first | with_reducible assumption | exact (Below.refl _ _).alloc (Nat.le_refl _) _ | exact Below.refl _ _ | (refine Below.drew ?_) | (refine Below.setCell ?_ ?_ _; rotate_left; first | exact Nat.le_refl _ | (dsimp only; omega)) | (refine Below.alloc ?_ ?_ _; rotate_left; first | exact Nat.le_refl _ | (simp; omega) | simp)))
  · go_wp2_with fail
    refine wp_region_ser (S := fun _ w3 => RefSt w w3 w1.heap.size w2.heap.size K s n K2 s2 n2) rfl (by kernel_rfl) hU.drew ?_
    clear hU
    repeat (first | ((refine Ser.step (a1 := ?_) rfl (fun L w1 K' Q' hS hi hR hd hK => ?_) ?_ ?_; rotate_left); (· ((skip); go_simp; (try simp only [Act.put, List.setIfInBounds_toArray, List.set_cons_zero, List.set_cons_succ]); exact hK.out _ (hS))); (· rfl)) | ((refine Ser.step (a1 := ?_) rfl (fun L w1 K' Q' hS hi hR hd hK => ?_) ?_ ?_; rotate_left); (· (((have a0 := hS.a.c 0 _ rfl; have a1 := hS.a.c 1 _ rfl; have a2 := hS.a.c 2 _ rfl; have b0 := hS.b.c 0 _ rfl; have b1 := hS.b.c 1 _ rfl; have b2 := hS.b.c 2 _ rfl)); go_simp; (try simp only [Act.put, List.setIfInBounds_toArray, List.set_cons_zero, List.set_cons_succ]); exact hK.out _ (hS))); (· rfl)) | ((refine Ser.step (a1 := ?_) rfl (fun L w1 K' Q' hS hi hR hd hK => ?_) ?_ ?_; rotate_left); (· (go_simp; go_wp2_with ((first | (go_at_call 24; refine (rn_val _ _).mono ?_; rintro e w2 ⟨rfl, hb⟩) | (go_at_call 22; refine (rf_val _ _).mono ?_; rintro e w2 ⟨rfl, hb⟩))); (try simp only [Act.put, List.setIfInBounds_toArray, List.set_cons_zero, List.set_cons_succ]); exact hK.out _ (RefSt.next hS hb))); (· rfl)) | (refine Ser.skip rfl (fun L w1 hS hi => (hS)) ?_; (try simp only [Act.put, List.setIfInBounds_toArray, List.set_cons_zero, List.set_cons_succ])))
    refine Ser.nil fun w4 hU => ?_
    have H : (2, ByteArray.empty, (0 : Int), true) = (k, t, j, b) := H.out
    simp only [Prod.mk.injEq] at H
    obtain ⟨rfl, rfl, rfl, rfl⟩ := H
    go_wp2_with ((with_reducible refine (rn_val _ _).mono ?_); rintro e w5 ⟨rfl, hb5⟩; have hU5 := hU.next hb5; (have r0 := (hU5.r).c 0 _ rfl; have r1 := (hU5.r).c 1 _ rfl; have r2 := (hU5.r).c 2 _ rfl; have f0 := (hU5.r).f 0 (by simp); have f1 := (hU5.r).f 1 (by simp); have f2 := (hU5.r).f 2 (by simp)))
    ((try simp only [Exit.inBlock, Exit.then]); refine bodyPost_ret_by (v := (.tuple #[.agg #[.int .i64 _, .string _, .int .i64 _], .bool _])) ((results_cell_tmp rfl _ _ _).trans (by go_simp; try rfl)) rfl ⟨rfl, ?_⟩)
    have hB' := hU5.h
    (repeat (first | with_reducible assumption | exact (Below.refl _ _).alloc (Nat.le_refl _) _ | exact Below.refl _ _ | (refine Below.drew ?_) | (refine Below.setCell ?_ ?_ _; rotate_left; first | exact Nat.le_refl _ | (dsimp only; omega)) | (refine Below.alloc ?_ ?_ _; rotate_left; first | exact Nat.le_refl _ | (simp; omega) | simp)))

set_option maxRecDepth 100000 in
set_option maxHeartbeats 4000000 in
theorem ref7_val (d nm : ByteArray) (B o cap : Nat) (pf po : Option Addr) (lf kf lo ko : Nat) (K : Int) (s : ByteArray) (n K2 : Int) (s2 : ByteArray) (n2 : Int)
    (hn : Hid (-9223372036854775808 ≤ n ∧ n ≤ 9223372036854775807)) (hn2 : Hid (-9223372036854775808 ≤ n2 ∧ n2 ≤ 9223372036854775807))
    (k : Int) (t : ByteArray) (j : Int) (b : Bool) (h : refV 7 K s n K2 s2 n2 = (k, t, j, b)) (w : World) (hB : B < w.heap.size)
    (h0 : w.cell? ⟨B, o, none⟩ = some (.int .i64 K)) (h1 : w.cell? ⟨B, o + 1, none⟩ = some (.string s)) (h2 : w.cell? ⟨B, o + 2, none⟩ = some (.int .i64 n))
    (h3 : w.cell? ⟨B, o + 3, none⟩ = some (.int .i64 K2)) (h4 : w.cell? ⟨B, o + 3 + 1, none⟩ = some (.string s2)) (h5 : w.cell? ⟨B, o + 3 + 2, none⟩ = some (.int .i64 n2)) :
    Calls Try.prog 9 #[.agg #[.int .i64 7, .string d, .string nm, .slice (some ⟨B, o, none⟩) 2 cap, .slice pf lf kf, .slice po lo ko]] w fun e w' => e = .returned (.tuple #[.agg #[.int .i64 k, .string t, .int .i64 j], .bool b]) ∧ Below w.heap.size w w' := by
  have H := Lib.hid h
  clear h
  have hB1 : B < w.heap.size + 1 := by omega
  have hB2 : B < w.heap.size + 1 + 1 := by omega
  have hB3 : B < w.heap.size + 1 + 1 + 1 := by omega
  have hB4 : B < w.heap.size + 1 + 1 + 1 + 1 := by omega
  go_enter Try.func9, Try.ntmps9
  go_upto_region 16 with fail
  refine (?_ : ∀ W, RefPre w W K s n K2 s2 n2 → Code.wp _ _ _ _ W) _ RefPre.start
  intro wc hP
  clear h0 h1 h2 h3 h4 h5 hB hB1 hB2 hB3 hB4
  go_cut [76] from 69 to 76 (fun u wx => u = .bool (K == 2 && K2 == 2) ∧ wx = wc)
  case first =>
    have a0 := hP.a.c 0 _ rfl
    have b0 := hP.b.c 0 _ rfl
    rcases e1 : (K == 2) with _ | _ <;> rcases e2 : (K2 == 2) with _ | _
    all_goals
      go_wp2
      go_meet
      case rel => exact ⟨by rw [e1, e2]; rfl, rfl⟩
  case rest =>
  obtain ⟨rfl, rfl⟩ := hcut
  go_upto_if 76 with fail
  go_cut [76] from 77 to 88 (fun _ wx => RefPre w wx K s n K2 s2 n2 ∧ Hid (¬ (K = 2 ∧ K2 = 2 ∧ (doN 7 n n2).2 = true)))
  case first =>
    rcases e : (K == 2 && K2 == 2) with _ | _
    · go_wp2
      go_meet
      case rel => exact ⟨hP, fun h => by rw [h.1, h.2.1] at e; exact Bool.noConfusion e⟩
    · have e12 : K = 2 ∧ K2 = 2 := by simpa using e
      obtain ⟨rfl, rfl⟩ := e12
      have a2 := hP.a.c 2 _ rfl
      have b2 := hP.b.c 2 _ rfl
      rcases hd : doN 7 n n2 with ⟨v, c⟩
      have Hd := Lib.hid hd
      cases c
      · go_wp2_with ((with_reducible refine (nrdo_val 7 n n2 v false Hd.out hn hn2 _).mono ?_); rintro e w1 ⟨rfl, hb⟩)
        go_meet
        case rel => exact ⟨hP.next hb, fun h => by rw [Hd.out] at h; exact Bool.noConfusion h.2.2⟩
      · have hr : refV 7 2 s n 2 s2 n2 = (2, .empty, v, true) := by
          unfold refV
          rw [if_pos ⟨rfl, rfl, by rw [hd]⟩, hd]
        rw [H.out] at hr
        simp only [Prod.mk.injEq] at hr
        obtain ⟨rfl, rfl, rfl, rfl⟩ := hr
        clear hd
        go_wp2_with (first | ((with_reducible refine (nrdo_val 7 n n2 _ true Hd.out hn hn2 _).mono ?_); rintro e w1 ⟨rfl, hb⟩; have hP1 := hP.next hb) | ((with_reducible refine (rn_val _ _).mono ?_); rintro e w2 ⟨rfl, hb2⟩; have hP2 := hP1.next hb2; (have r0 := (hP2.r).c 0 _ rfl; have r1 := (hP2.r).c 1 _ rfl; have r2 := (hP2.r).c 2 _ rfl; have f0 := (hP2.r).f 0 (by simp); have f1 := (hP2.r).f 1 (by simp); have f2 := (hP2.r).f 2 (by simp))))
        ((try simp only [Exit.inBlock, Exit.then]); refine bodyPost_ret_by (v := (.tuple #[.agg #[.int .i64 _, .string _, .int .i64 _], .bool true])) ((results_cell_tmp rfl _ _ _).trans (by go_simp; try rfl)) rfl ⟨rfl, ?_⟩)
        have hB' := hP2.h
        (repeat (first | with_reducible assumption | exact (Below.refl _ _).alloc (Nat.le_refl _) _ | exact Below.refl _ _ | (refine Below.drew ?_) | (refine Below.setCell ?_ ?_ _; rotate_left; first | exact Nat.le_refl _ | (dsimp only; omega)) | (refine Below.alloc ?_ ?_ _; rotate_left; first | exact Nat.le_refl _ | (simp; omega) | simp)))
  case rest =>
  obtain ⟨hP, hn1⟩ := hcut
  go_upto_region 20 with fail
  go_cut [96] from 89 to 96 (fun u wx => u = .bool (K == 3 && K2 == 3) ∧ wx = wc)
  case first =>
    have a0 := hP.a.c 0 _ rfl
    have b0 := hP.b.c 0 _ rfl
    rcases e1 : (K == 3) with _ | _ <;> rcases e2 : (K2 == 3) with _ | _
    all_goals
      go_wp2
      go_meet
      case rel => exact ⟨by rw [e1, e2]; rfl, rfl⟩
  case rest =>
  obtain ⟨rfl, rfl⟩ := hcut
  go_upto_if 96 with fail
  go_cut [96] from 97 to 115 (fun _ wx => RefPre w wx K s n K2 s2 n2 ∧ Hid (¬ (K = 3 ∧ K2 = 3 ∧ (doV 7 n n2).2 = true)))
  case first =>
    rcases e : (K == 3 && K2 == 3) with _ | _
    · go_wp2
      go_meet
      case rel => exact ⟨hP, fun h => by rw [h.1, h.2.1] at e; exact Bool.noConfusion e⟩
    · have e12 : K = 3 ∧ K2 = 3 := by simpa using e
      obtain ⟨rfl, rfl⟩ := e12
      have a2 := hP.a.c 2 _ rfl
      have b2 := hP.b.c 2 _ rfl
      rcases hd : doV 7 n n2 with ⟨v, c⟩
      have Hd := Lib.hid hd
      cases c
      · go_wp2_with ((with_reducible refine (frdo_val 7 n n2 v false Hd.out _).mono ?_); rintro e w1 ⟨rfl, hb⟩)
        go_meet
        case rel => exact ⟨hP.next hb, fun h => by rw [Hd.out] at h; exact Bool.noConfusion h.2.2⟩
      · have hr : refV 7 3 s n 3 s2 n2 = (if (7 : Int) ≤ 18 then 3 else 2, .empty, v, true) := by
          unfold refV
          rw [if_neg (fun h => by have := h.1; omega), if_pos ⟨rfl, rfl, by rw [hd]⟩, hd]
        rw [H.out] at hr
        simp only [Prod.mk.injEq] at hr
        obtain ⟨hk, rfl, rfl, rfl⟩ := hr
        have hk3 : k = 3 := by simpa using hk
        clear hk
        subst hk3
        clear hd
        go_wp2_with (first | ((with_reducible refine (frdo_val 7 n n2 _ true Hd.out _).mono ?_); rintro e w1 ⟨rfl, hb⟩; have hP1 := hP.next hb) | ((with_reducible refine (rf_val _ _).mono ?_); rintro e w2 ⟨rfl, hb2⟩; have hP2 := hP1.next hb2; (have r0 := (hP2.r).c 0 _ rfl; have r1 := (hP2.r).c 1 _ rfl; have r2 := (hP2.r).c 2 _ rfl; have f0 := (hP2.r).f 0 (by simp); have f1 := (hP2.r).f 1 (by simp); have f2 := (hP2.r).f 2 (by simp))) | ((with_reducible refine (rn_val _ _).mono ?_); rintro e w2 ⟨rfl, hb2⟩; have hP2 := hP1.next hb2; (have r0 := (hP2.r).c 0 _ rfl; have r1 := (hP2.r).c 1 _ rfl; have r2 := (hP2.r).c 2 _ rfl; have f0 := (hP2.r).f 0 (by simp); have f1 := (hP2.r).f 1 (by simp); have f2 := (hP2.r).f 2 (by simp))))
        ((try simp only [Exit.inBlock, Exit.then]); refine bodyPost_ret_by (v := (.tuple #[.agg #[.int .i64 _, .string _, .int .i64 _], .bool true])) ((results_cell_tmp rfl _ _ _).trans (by go_simp; try rfl)) rfl ⟨rfl, ?_⟩)
        have hB' := hP2.h
        (repeat (first | with_reducible assumption | exact (Below.refl _ _).alloc (Nat.le_refl _) _ | exact Below.refl _ _ | (refine Below.drew ?_) | (refine Below.setCell ?_ ?_ _; rotate_left; first | exact Nat.le_refl _ | (dsimp only; omega)) | (refine Below.alloc ?_ ?_ _; rotate_left; first | exact Nat.le_refl _ | (simp; omega) | simp)))
  case rest =>
  obtain ⟨hP, hn2⟩ := hcut
  have H : Hid (swV 7 K s n K2 s2 n2 = (k, t, j, b)) := by
    have := H.out
    unfold refV at this
    rwa [if_neg hn1.out, if_neg hn2.out] at this
  clear hn1 hn2
  go_upto_region 26 with fail
  go_cut [13] from 116 to 123 (fun u wx => u = .bool (oneB K s n K2 s2 n2) ∧ wx = wc)
  case first =>
    have a0 := hP.a.c 0 _ rfl
    have a1 := hP.a.c 1 _ rfl
    have a2 := hP.a.c 2 _ rfl
    have b0 := hP.b.c 0 _ rfl
    have b1 := hP.b.c 1 _ rfl
    have b2 := hP.b.c 2 _ rfl
    have hE : ∀ w, (Op.equalIn 10000 30 (.agg #[.int .i64 K, .string s, .int .i64 n]) (.agg #[.int .i64 K2, .string s2, .int .i64 n2])).run Try.prog w = .ok (sameV K s n K2 s2 n2) w := fun w => by rw [eqArg]; rfl
    have ho : oneB K s n K2 s2 n2 = (K == 1 && sameV K s n K2 s2 n2) := rfl
    clear H
    generalize sameV K s n K2 s2 n2 = c at hE ho
    have Ho := Lib.hid ho
    clear ho
    rcases e1 : (K == 1) with _ | _ <;> cases c
    all_goals
      go_wp2
      go_meet
      case rel => exact ⟨by rw [Ho.out, e1]; rfl, rfl⟩
  case rest =>
  obtain ⟨rfl, rfl⟩ := hcut
  go_wp2_with fail
  refine (rf_val _ _).mono ?_
  rintro e w1 ⟨rfl, hb1⟩
  have hP1 := hP.next hb1
  clear hb1 hP
  go_wp2_with fail
  refine (rf_val _ _).mono ?_
  rintro e w2 ⟨rfl, hb2⟩
  obtain ⟨m2, hbm⟩ := boxes1 hb2
  have hP2 := hP1.next hbm
  clear hb2 hbm hP1
  have hU : RefSt w (w2.alloc (Obj.cells #[.int .i64 3, .string .empty, .int .i64 4607182418800017408] 30)) w1.heap.size w2.heap.size K s n K2 s2 n2 :=
    { r := hP2.r.al _, z := hP2.z.al _, a := hP2.a.al _, b := hP2.b.al _, m := m2.al _, u := Box.alloc w2 [.int .i64 3, .string .empty, .int .i64 4607182418800017408] 30, h := hP2.h.alloc hP2.h.size _ }
  clear m2 hP2
  have H : Hid ((eitherV (eqN K2 s2 n2 0 || oneB K s n K2 s2 n2) K s n (eqN K s n 0) K2 s2 n2) = (k, t, j, b)) := H
  have hE1 : ∀ w, (Op.equalIn 10000 30 (.agg #[.int .i64 K2, .string s2, .int .i64 n2]) (.agg #[.int .i64 2, .string .empty, .int .i64 0])).run Try.prog w = .ok (eqN K2 s2 n2 0) w := fun w => by rw [eqArg]; rfl
  generalize eqN K2 s2 n2 0 = r1 at H hE1
  have hE2 : ∀ w, (Op.equalIn 10000 30 (.agg #[.int .i64 K, .string s, .int .i64 n]) (.agg #[.int .i64 2, .string .empty, .int .i64 0])).run Try.prog w = .ok (eqN K s n 0) w := fun w => by rw [eqArg]; rfl
  generalize eqN K s n 0 = r2 at H hE2
  generalize oneB K s n K2 s2 n2 = c at H ⊢
  cases r1 <;> cases c
  all_goals
    go_wp2_with fail
    refine wp_region_ser (S := SStore 14 (fun w3 => RefSt w w3 w1.heap.size w2.heap.size K s n K2 s2 n2) (RefEnd w k t j)) rfl (by kernel_rfl) (SStore.start hU.drew) ?_
    clear hU
    repeat (first | ((refine Ser.step (a1 := ?_) rfl (fun L w1 K' Q' hS hi hR hd hK => ?_) ?_ ?_; rotate_left); (· ((skip); go_simp; (try simp only [Act.put, List.setIfInBounds_toArray, List.set_cons_zero, List.set_cons_succ]); exact hK.out _ (hS.pass rfl))); (· rfl)) | ((refine Ser.step (a1 := ?_) rfl (fun L w1 K' Q' hS hi hR hd hK => ?_) ?_ ?_; rotate_left); (· (((have hI := hS.1 (hR.out (14) _ (by kernel_rfl) hi); have a0 := hI.a.c 0 _ rfl; have a1 := hI.a.c 1 _ rfl; have a2 := hI.a.c 2 _ rfl; have b0 := hI.b.c 0 _ rfl; have b1 := hI.b.c 1 _ rfl; have b2 := hI.b.c 2 _ rfl; have m0 := hI.m.c 0 _ rfl; have m1 := hI.m.c 1 _ rfl; have m2 := hI.m.c 2 _ rfl; have u0 := hI.u.c 0 _ rfl; have u1 := hI.u.c 1 _ rfl; have u2 := hI.u.c 2 _ rfl)); go_simp; (try simp only [Act.put, List.setIfInBounds_toArray, List.set_cons_zero, List.set_cons_succ]); exact hK.out _ (hS.pass rfl))); (· rfl)) | ((refine Ser.step (a1 := ?_) rfl (fun L w1 K' Q' hS hi hR hd hK => ?_) ?_ ?_; rotate_left); (· (go_simp; go_wp2_with ((first | (go_at_call 24; refine (rn_val _ _).mono ?_; rintro e w2 ⟨rfl, hb⟩) | (go_at_call 22; refine (rf_val _ _).mono ?_; rintro e w2 ⟨rfl, hb⟩) | (go_at_call 28; refine (either_val _ _ _ _ _ _ _ _ _ _ _ _ H.out _).mono ?_; rintro e w2 ⟨rfl, hb⟩))); (try simp only [Act.put, List.setIfInBounds_toArray, List.set_cons_zero, List.set_cons_succ]); exact hK.out _ (SStore.keep (hR.out (14) _ (by kernel_rfl) hi) ((hS.1 (hR.out (14) _ (by kernel_rfl) hi)).next hb) rfl))); (· rfl)) | (refine Ser.skip rfl (fun L w1 hS hi => (hS.pass rfl)) ?_; (try simp only [Act.put, List.setIfInBounds_toArray, List.set_cons_zero, List.set_cons_succ])))
    ((refine Ser.step (a1 := ?_) rfl (fun L w1 K' Q' hS hi hR hd hK => ?_) ?_ ?_; rotate_left); (· (have hI := hS.1 hi; have r0 := hI.r.c 0 _ rfl; have r1 := hI.r.c 1 _ rfl; have r2 := hI.r.c 2 _ rfl; have f0 := hI.r.f 0 (by decide); have f1 := hI.r.f 1 (by decide); have f2 := hI.r.f 2 (by decide); go_simp; exact hK.out _ (SStore.done (hI.put _ _ _)))); (· rfl))
    (first | ((refine Ser.step (a1 := ?_) rfl (fun L w1 K' Q' hS hi hR hd hK => ?_) ?_ ?_; rotate_left); (· ((skip); go_simp; (try simp only [Act.put, List.setIfInBounds_toArray, List.set_cons_zero, List.set_cons_succ]); exact hK.out _ (hS.pass rfl))); (· rfl)) | ((refine Ser.step (a1 := ?_) rfl (fun L w1 K' Q' hS hi hR hd hK => ?_) ?_ ?_; rotate_left); (· (((have hI := hS.1 (hR.out (14) _ (by kernel_rfl) hi); have a0 := hI.a.c 0 _ rfl; have a1 := hI.a.c 1 _ rfl; have a2 := hI.a.c 2 _ rfl; have b0 := hI.b.c 0 _ rfl; have b1 := hI.b.c 1 _ rfl; have b2 := hI.b.c 2 _ rfl; have m0 := hI.m.c 0 _ rfl; have m1 := hI.m.c 1 _ rfl; have m2 := hI.m.c 2 _ rfl; have u0 := hI.u.c 0 _ rfl; have u1 := hI.u.c 1 _ rfl; have u2 := hI.u.c 2 _ rfl)); go_simp; (try simp only [Act.put, List.setIfInBounds_toArray, List.set_cons_zero, List.set_cons_succ]); exact hK.out _ (hS.pass rfl))); (· rfl)) | ((refine Ser.step (a1 := ?_) rfl (fun L w1 K' Q' hS hi hR hd hK => ?_) ?_ ?_; rotate_left); (· (go_simp; go_wp2_with ((first | (go_at_call 24; refine (rn_val _ _).mono ?_; rintro e w2 ⟨rfl, hb⟩) | (go_at_call 22; refine (rf_val _ _).mono ?_; rintro e w2 ⟨rfl, hb⟩) | (go_at_call 28; refine (either_val _ _ _ _ _ _ _ _ _ _ _ _ H.out _).mono ?_; rintro e w2 ⟨rfl, hb⟩))); (try simp only [Act.put, List.setIfInBounds_toArray, List.set_cons_zero, List.set_cons_succ]); exact hK.out _ (SStore.keep (hR.out (14) _ (by kernel_rfl) hi) ((hS.1 (hR.out (14) _ (by kernel_rfl) hi)).next hb) rfl))); (· rfl)) | (refine Ser.skip rfl (fun L w1 hS hi => (hS.pass rfl)) ?_; (try simp only [Act.put, List.setIfInBounds_toArray, List.set_cons_zero, List.set_cons_succ])))
    refine Ser.nil fun w4 hS => ?_
    obtain ⟨hr, hB'⟩ := hS.2 rfl
    (have r0 := (hr).c 0 _ rfl; have r1 := (hr).c 1 _ rfl; have r2 := (hr).c 2 _ rfl; have f0 := (hr).f 0 (by simp); have f1 := (hr).f 1 (by simp); have f2 := (hr).f 2 (by simp))
    go_wp2
    ((try simp only [Exit.inBlock, Exit.then]); refine bodyPost_ret_by (v := (.tuple #[.agg #[.int .i64 _, .string _, .int .i64 _], .bool _])) ((results_cell_tmp rfl _ _ _).trans (by go_simp; try rfl)) rfl ⟨rfl, ?_⟩)
    (repeat (first | with_reducible assumption | exact (Below.refl _ _).alloc (Nat.le_refl _) _ | exact Below.refl _ _ | (refine Below.drew ?_) | (refine Below.setCell ?_ ?_ _; rotate_left; first | exact Nat.le_refl _ | (dsimp only; omega)) | (refine Below.alloc ?_ ?_ _; rotate_left; first | exact Nat.le_refl _ | (simp; omega) | simp)))

end Go.Proofs.Ytiheecgabfcigaa
