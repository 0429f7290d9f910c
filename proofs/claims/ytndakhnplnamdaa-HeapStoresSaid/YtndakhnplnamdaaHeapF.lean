/- The reference: SameVals, Same, of what is the same; New. -/
import Derived.Test.YtndakhnplnamdaaHeapE
namespace Go.Proofs.Ytndakhnplnamdaa
open Go.RowKit

set_option maxHeartbeats 1000000 in
theorem samevals_yes (pa pu : Option Addr) (l ca cu : Nat) (vs us : Nat → Vl) (hs : ∀ j, j < l → vs j = us j) (w : World) (hV : Vals w pa l vs) (hU : Vals w pu l us) :
    Calls Try.prog 23 #[.slice pa l ca, .slice pu l cu] w fun e w' => e = .returned (.bool true) ∧ Below w.heap.size w w' := by
  have hm := hV.m
  go_enter Try.func23, Try.ntmps23
  go_wp2
  go_loopw [5] (fun i wr => ∃ q : Nat, q ≤ l ∧ i = .int .i64 (q : Int) ∧ Below w.heap.size w wr) (fun i _ => l - (intOf i).toNat)
  case atStart => exact ⟨0, Nat.zero_le _, rfl, Below.refl _ _⟩
  case round =>
    obtain ⟨q, hq, rfl, hB⟩ := hrel
    by_cases hlt : q < l
    · obtain ⟨Bv, o, rfl, hBv, hcv⟩ := (hV.below hB.drew).at' (by omega)
      obtain ⟨Bu, o2, rfl, hBu, hcu⟩ := (hU.below hB.drew).at' (by omega)
      obtain ⟨c0, c1⟩ := hcv q hlt
      obtain ⟨d0, d1⟩ := hcu q hlt
      have hsq := hs q hlt
      rw [← hsq] at d0 d1
      have hbt : ((vs q).1.toList == (vs q).1.toList) = true := by simp
      generalize (vs q).1 = s at *
      generalize (vs q).2 = x at *
      clear hcv hcu hs hV hU hsq
      go_wp2
      refine wp_region_ser (S := fun _ w1 => w1 = wr.drew) rfl (by kernel_rfl) rfl ?_
      iterate 9 (((refine Ser.step (a1 := ?_) rfl (fun L w1 K' Q' hS hi hR hd hK => ?_) ?_ ?_; rotate_left); (· ((have e0 := hS; subst e0); go_simp; (try simp only [Act.put, List.setIfInBounds_toArray, List.set_cons_zero, List.set_cons_succ]); exact hK.out _ (rfl))); (· rfl)))
      refine Ser.nil fun w1 hS => ?_
      subst hS
      have hB' := hB.drew
      clear hB
      go_wp2
      go_roundw
      case rel => exact ⟨q + 1, by omega, by go_num, hB'⟩
      case measure => simp [intOf]; omega
    · obtain rfl : q = l := by omega
      go_wp2
      go_ret
      exact ⟨rfl, hB⟩

set_option maxHeartbeats 1000000 in
theorem same_yes (ph pk : Option Addr) (n ch ck : Nat) (ob oq : Nat → ObjD) (hs : SameAs n oq ob) (w : World) (hO : Objs w ph n ob) (hQ : Objs w pk n oq) :
    Calls Try.prog 16 #[.slice ph n ch, .slice pk n ck] w fun e w' => e = .returned (.bool true) ∧ Below w.heap.size w w' := by
  have hm := hO.m
  go_enter Try.func16, Try.ntmps16
  go_wp2
  go_loopw [5] (fun i wr => ∃ q : Nat, q ≤ n ∧ i = .int .i64 (q : Int) ∧ Below w.heap.size w wr) (fun i _ => n - (intOf i).toNat)
  case atStart => exact ⟨0, Nat.zero_le _, rfl, Below.refl _ _⟩
  case round =>
    obtain ⟨q, hq, rfl, hB⟩ := hrel
    by_cases hlt : q < n
    · have O1 := hO.below hB.drew
      have O2 := hQ.below hB.drew
      obtain ⟨Bv, o, rfl, hBv, hcv⟩ := O1.at' (by omega)
      obtain ⟨Bu, o2, rfl, hBu, hcu⟩ := O2.at' (by omega)
      obtain ⟨c0, c1⟩ := hcv q hlt
      obtain ⟨d0, d1⟩ := hcu q hlt
      obtain ⟨h1, h2, h3⟩ := hs q hlt
      rw [h1] at d0
      rw [h2] at d1
      have V1 := O1.v q hlt
      have V2 := O2.v q hlt
      rw [h2] at V2
      have HV := samevals_yes (ob q).p (oq q).p (ob q).l (ob q).k (oq q).k (ob q).vs (oq q).vs (fun j _ => by rw [h3]) _ V1 V2
      have hbt : ((ob q).c.toList == (ob q).c.toList) = true := by simp
      generalize (ob q).c = s at *
      clear hcv hcu hs hO hQ h1 h2 h3 O1 O2 V1 V2
      go_wp2
      refine wp_region_ser (S := SStore 22 (fun v => v = wr.drew) (fun v => Below wr.drew.heap.size wr.drew v)) rfl (by kernel_rfl) (SStore.start rfl) ?_
      iterate 4 (((refine Ser.step (a1 := ?_) rfl (fun L w1 K' Q' hS hi hR hd hK => ?_) ?_ ?_; rotate_left); (· ((skip); go_simp; (try simp only [Act.put, List.setIfInBounds_toArray, List.set_cons_zero, List.set_cons_succ]); exact hK.out _ (hS.pass rfl))); (· rfl)))
      ((refine Ser.step (a1 := ?_) rfl (fun L w1 K' Q' hS hi hR hd hK => ?_) ?_ ?_; rotate_left); (· ((have e0 := hS.1 (hR.out 22 11 (by kernel_rfl) (hR.out 11 10 (by kernel_rfl) (hR.out 10 4 (by kernel_rfl) hi))); subst e0); go_simp; (try simp only [Act.put, List.setIfInBounds_toArray, List.set_cons_zero, List.set_cons_succ]); exact hK.out _ (hS.pass rfl))); (· rfl))
      iterate 4 (((refine Ser.step (a1 := ?_) rfl (fun L w1 K' Q' hS hi hR hd hK => ?_) ?_ ?_; rotate_left); (· ((skip); go_simp; (try simp only [Act.put, List.setIfInBounds_toArray, List.set_cons_zero, List.set_cons_succ]); exact hK.out _ (hS.pass rfl))); (· rfl)))
      ((refine Ser.step (a1 := ?_) rfl (fun L w1 K' Q' hS hi hR hd hK => ?_) ?_ ?_; rotate_left); (· ((have e0 := hS.1 (hR.out 22 11 (by kernel_rfl) (hR.out 11 10 (by kernel_rfl) (hR.out 10 9 (by kernel_rfl) hi))); subst e0); go_simp; (try simp only [Act.put, List.setIfInBounds_toArray, List.set_cons_zero, List.set_cons_succ]); exact hK.out _ (hS.pass rfl))); (· rfl))
      iterate 6 (((refine Ser.step (a1 := ?_) rfl (fun L w1 K' Q' hS hi hR hd hK => ?_) ?_ ?_; rotate_left); (· ((skip); go_simp; (try simp only [Act.put, List.setIfInBounds_toArray, List.set_cons_zero, List.set_cons_succ]); exact hK.out _ (hS.pass rfl))); (· rfl)))
      ((refine Ser.step (a1 := ?_) rfl (fun L w1 K' Q' hS hi hR hd hK => ?_) ?_ ?_; rotate_left); (· ((have e0 := hS.1 (hR.out 22 16 (by kernel_rfl) hi); subst e0); go_simp; (try simp only [Act.put, List.setIfInBounds_toArray, List.set_cons_zero, List.set_cons_succ]); exact hK.out _ (hS.pass rfl))); (· rfl))
      iterate 4 (((refine Ser.step (a1 := ?_) rfl (fun L w1 K' Q' hS hi hR hd hK => ?_) ?_ ?_; rotate_left); (· ((skip); go_simp; (try simp only [Act.put, List.setIfInBounds_toArray, List.set_cons_zero, List.set_cons_succ]); exact hK.out _ (hS.pass rfl))); (· rfl)))
      ((refine Ser.step (a1 := ?_) rfl (fun L w1 K' Q' hS hi hR hd hK => ?_) ?_ ?_; rotate_left); (· ((have e0 := hS.1 (hR.out 22 21 (by kernel_rfl) hi); subst e0); go_simp; (try simp only [Act.put, List.setIfInBounds_toArray, List.set_cons_zero, List.set_cons_succ]); exact hK.out _ (hS.pass rfl))); (· rfl))
      (refine Ser.step (a1 := ?_) rfl (fun L w1 K' Q' hS hi hR hd hK => ?_) ?_ ?_; rotate_left)
      · have e0 := hS.1 hi
        subst e0
        go_simp
        go_wp2_with (go_at_call 23; refine HV.mono ?_; rintro e w2 ⟨rfl, hb⟩)
        (try simp only [Act.put, List.setIfInBounds_toArray, List.set_cons_zero, List.set_cons_succ])
        exact hK.out _ (SStore.done hb)
      · rfl
      ((refine Ser.step (a1 := ?_) rfl (fun L w1 K' Q' hS hi hR hd hK => ?_) ?_ ?_; rotate_left); (· ((skip); go_simp; (try simp only [Act.put, List.setIfInBounds_toArray, List.set_cons_zero, List.set_cons_succ]); exact hK.out _ (hS.pass rfl))); (· rfl))
      ((refine Ser.step (a1 := ?_) rfl (fun L w1 K' Q' hS hi hR hd hK => ?_) ?_ ?_; rotate_left); (· ((skip); go_simp; (try simp only [Act.put, List.setIfInBounds_toArray, List.set_cons_zero, List.set_cons_succ]); exact hK.out _ (hS.pass rfl))); (· rfl))
      refine Ser.nil fun w1 hS => ?_
      have hB' := hB.drew.trans ((hS.2 rfl).mono hB.size)
      clear hB hS HV c0 c1 d0 d1
      go_wp2
      go_roundw
      case rel => exact ⟨q + 1, by omega, by go_num, hB'⟩
      case measure => simp [intOf]; omega
    · obtain rfl : q = n := by omega
      go_wp2
      go_ret
      exact ⟨rfl, hB⟩
end Go.Proofs.Ytndakhnplnamdaa
