/- Same, where the answer is yes. -/
import Derived.Test.YtejfienogljboaaDoorLinE
import Derived.BigQuiet
namespace Go.Proofs.YtejfienogljboaaDoor
open Go.RowKit

structure Pair (w : World) (p1 p2 : Option Addr) (n : Nat) (nb : Bool) (ln : Nat → Nat) : Prop where
  z : ∀ q, ln q ≤ 4194304
  c : ∀ q, q < n → ∃ a b pa ca pb cb, ∃ n1 n2 : Int, p1 = some a ∧ p2 = some b ∧ w.cell? (a.add (q * 2)) = some (.int .i64 n1) ∧ w.cell? ⟨(a.add (q * 2)).block, (a.add (q * 2)).off + 1, none⟩ = some (.slice pa (ln q) ca) ∧
    w.cell? (b.add (q * 2)) = some (.int .i64 n2) ∧ w.cell? ⟨(b.add (q * 2)).block, (b.add (q * 2)).off + 1, none⟩ = some (.slice pb (ln q) cb) ∧ (nb = true → n1 = n2) ∧
    ∀ j, j < ln q → ∃ c d s, pa = some c ∧ pb = some d ∧ w.cell? (c.add j) = some (.string s) ∧ w.cell? (d.add j) = some (.string s)
theorem str_ext {s t : ByteArray} (h : s.data.toList = t.data.toList) : s = t := by
  cases s; cases t
  simp only [ByteArray.mk.injEq]
  exact Array.toList_inj.1 h
theorem pair {w : World} {u v : Value} {la lb : List LnI} {nb : Bool} (hu : LinesAt w u la) (hv : LinesAt w v lb) (h : la.map (·.2) = lb.map (·.2)) (hn : nb = true → la.map (·.1) = lb.map (·.1)) (hz : ∀ x ∈ la, x.2.length ≤ 4194304) :
    ∃ p1 c1 p2 c2 ln, u = .slice p1 la.length c1 ∧ v = .slice p2 la.length c2 ∧ Pair w p1 p2 la.length nb ln := by
  have hl : la.length = lb.length := by have := congrArg List.length h; simpa using this
  obtain ⟨p1, c1, rfl, hu⟩ := hu
  obtain ⟨p2, c2, rfl, hv⟩ := hv
  refine ⟨p1, c1, p2, c2, fun q => match la[q]? with | some x => x.2.length | none => 0, rfl, by rw [hl], ⟨fun q => ?_, fun q hq => ?_⟩⟩
  · split
    · rename_i x e
      exact hz x (List.mem_of_getElem? e)
    · exact Nat.zero_le _
  have hq2 : q < lb.length := by omega
  obtain ⟨a, ua, h1, h2, h3, pa, ca, rfl, h4⟩ := hu q la[q] (by simp [hq])
  obtain ⟨b, ub, g1, g2, g3, pb, cb, rfl, g4⟩ := hv q lb[q] (by simp [hq2])
  have hw : la[q].2 = lb[q].2 := by
    have := congrArg (fun l => l[q]?) h
    simpa [hq, hq2] using this
  have hln : (match la[q]? with | some x => x.2.length | none => 0) = la[q].2.length := by simp [hq]
  rw [hln]
  refine ⟨a, b, pa, ca, pb, cb, la[q].1, lb[q].1, h1, g1, h2, h3, g2, by rw [hw]; exact g3, fun e => ?_, fun j hj => ?_⟩
  · have := congrArg (fun l => l[q]?) (hn e)
    simpa [hq, hq2] using this
  · obtain ⟨c, s, e1, e2, e3⟩ := h4 j la[q].2[j] (List.getElem?_eq_getElem hj)
    obtain ⟨d, t, f1, f2, f3⟩ := g4 j la[q].2[j] (by rw [← hw]; exact List.getElem?_eq_getElem hj)
    have : s = t := str_ext (by rw [e3, f3])
    subst this
    exact ⟨c, d, s, e1, f1, e2, f2⟩
theorem Pair.next {w w' : World} {p1 p2 : Option Addr} {n : Nat} {nb : Bool} {ln : Nat → Nat} (h : Pair w p1 p2 n nb ln) (hb : Below w.heap.size w w') : Pair w' p1 p2 n nb ln := by
  refine ⟨h.z, fun q hq => ?_⟩
  obtain ⟨a, b, pa, ca, pb, cb, n1, n2, e1, e2, h1, h2, h3, h4, h5, h6⟩ := h.c q hq
  refine ⟨a, b, pa, ca, pb, cb, n1, n2, e1, e2, by rw [hb.cell (cells_lt h1)]; exact h1, by rw [hb.cell (cells_lt h2)]; exact h2, by rw [hb.cell (cells_lt h3)]; exact h3, by rw [hb.cell (cells_lt h4)]; exact h4, h5, fun j hj => ?_⟩
  obtain ⟨c, d, s, g1, g2, g3, g4⟩ := h6 j hj
  exact ⟨c, d, s, g1, g2, by rw [hb.cell (cells_lt g3)]; exact g3, by rw [hb.cell (cells_lt g4)]; exact g4⟩

set_option maxHeartbeats 4000000 in
theorem same_yes (la lb : List LnI) (nb : Bool) (u v : Value) (w : World) (hu : LinesAt w u la) (hv : LinesAt w v lb) (h : la.map (·.2) = lb.map (·.2)) (hn : nb = true → la.map (·.1) = lb.map (·.1)) (hz : ∀ x ∈ la, x.2.length ≤ 4194304) (hz2 : la.length ≤ 4194305) :
    Calls Tryd.prog 12 #[u, v, .bool nb] w fun e w' => e = .returned (.bool true) ∧ Below w.heap.size w w' := by
  obtain ⟨p1, c1, p2, c2, ln, rfl, rfl, hP⟩ := pair hu hv h hn hz
  clear hu hv h hn hz
  generalize la.length = n at *
  go_enter Tryd.func12, Tryd.ntmps12
  go_wp2
  go_loopw [7, 8] (fun i _ wr => ∃ q : Nat, q ≤ n ∧ i = .int .i64 (q : Int) ∧ Below w.heap.size w wr) (fun i _ _ => n - (intOf i).toNat)
  case atStart => exact ⟨0, Nat.zero_le _, rfl, Below.refl _ _⟩
  case round =>
    obtain ⟨q, hq, rfl, hb⟩ := hrel
    by_cases hend : q = n
    · subst hend
      clear hP
      go_wp2
      go_ret
      exact ⟨rfl, hb⟩
    · have hlt : q < n := by omega
      have hltI : (q : Int) < (n : Int) := by omega
      have hP2 := hP.next hb.drew
      obtain ⟨a, b, pa, ca, pb, cb, n1, n2, rfl, rfl, k1, k2, k3, k4, hnn, hw⟩ := hP2.c q hlt
      have hnz := hP.z q
      generalize ln q = nw at *
      cases nb
      · clear hnn
        go_wp2
        refine wp_region_ser (S := fun _ w1 => w1 = wr.drew) rfl (by kernel_rfl) rfl ?_
        iterate 29 (first | ((refine Ser.step (a1 := ?_) rfl (fun L w1 K' Q' hS hi hR hd hK => ?_) ?_ ?_; rotate_left); (· ((have e0 := hS; subst e0); go_simp; (try simp only [Act.put, List.setIfInBounds_toArray, List.set_cons_zero, List.set_cons_succ]); exact hK.out _ (rfl))); (· rfl)) | (refine Ser.skip rfl (fun L w1 hS hi => (hS)) ?_; (try simp only [Act.put, List.setIfInBounds_toArray, List.set_cons_zero, List.set_cons_succ])))
        refine Ser.nil fun w1 hS => ?_
        subst hS
        go_wp2
        obtain ⟨wo, rfl⟩ : ∃ wo : World, wo = wr := ⟨_, rfl⟩
        go_loopw [8] (fun k w2 => ∃ j : Nat, j ≤ nw ∧ k = .int .i64 (j : Int) ∧ Below wo.drew.heap.size wo.drew w2) (fun k _ => nw - (intOf k).toNat)
        case atStart => exact ⟨0, Nat.zero_le _, rfl, Below.refl _ _⟩
        case round =>
          obtain ⟨j, hj, rfl, hb2⟩ := hrel
          have l2 := (hb2.cell (cells_lt k2)).trans k2
          by_cases hje : j = nw
          · subst hje
            have hb3 : Below w.heap.size w _ := hb.drew.trans (hb2.mono hb.drew.size)
            clear hw hP hP2 k1 k2 k3 k4 hb hb2
            go_wp2
            go_roundw
            case rel => exact ⟨q + 1, by omega, by go_num, hb3⟩
            case measure => simp [intOf]; omega
          · have hjl : j < nw := by omega
            have hjI : (j : Int) < (nw : Int) := by omega
            obtain ⟨c, d, s, rfl, rfl, g1, g2⟩ := hw j hjl
            have m2 := (hb2.drew.cell (cells_lt k2)).trans k2
            have m4 := (hb2.drew.cell (cells_lt k4)).trans k4
            have h1 := (hb2.drew.cell (cells_lt g1)).trans g1
            have h2 := (hb2.drew.cell (cells_lt g2)).trans g2
            have hb3 := hb2.drew
            clear hP hP2 k1 k2 k3 k4 hw g1 g2
            go_wp2
            refine wp_region_ser (S := fun _ w1 => w1 = wr.drew) rfl (by kernel_rfl) rfl ?_
            iterate 17 (first | ((refine Ser.step (a1 := ?_) rfl (fun L w1 K' Q' hS hi hR hd hK => ?_) ?_ ?_; rotate_left); (· ((have e0 := hS; subst e0); go_simp; (try simp only [Act.put, List.setIfInBounds_toArray, List.set_cons_zero, List.set_cons_succ]); exact hK.out _ (rfl))); (· rfl)) | (refine Ser.skip rfl (fun L w1 hS hi => (hS)) ?_; (try simp only [Act.put, List.setIfInBounds_toArray, List.set_cons_zero, List.set_cons_succ])))
            refine Ser.nil fun w1 hS => ?_
            subst hS
            clear m2 m4 h1 h2
            go_wp2
            go_roundw
            case rel => exact ⟨j + 1, by omega, by go_num, hb3⟩
            case measure => simp [intOf]; omega
      · obtain rfl := hnn rfl
        go_wp2
        refine wp_region_ser (S := fun _ w1 => w1 = wr.drew) rfl (by kernel_rfl) rfl ?_
        iterate 29 (first | ((refine Ser.step (a1 := ?_) rfl (fun L w1 K' Q' hS hi hR hd hK => ?_) ?_ ?_; rotate_left); (· ((have e0 := hS; subst e0); go_simp; (try simp only [Act.put, List.setIfInBounds_toArray, List.set_cons_zero, List.set_cons_succ]); exact hK.out _ (rfl))); (· rfl)) | (refine Ser.skip rfl (fun L w1 hS hi => (hS)) ?_; (try simp only [Act.put, List.setIfInBounds_toArray, List.set_cons_zero, List.set_cons_succ])))
        refine Ser.nil fun w1 hS => ?_
        subst hS
        go_wp2
        obtain ⟨wo, rfl⟩ : ∃ wo : World, wo = wr := ⟨_, rfl⟩
        go_loopw [8] (fun k w2 => ∃ j : Nat, j ≤ nw ∧ k = .int .i64 (j : Int) ∧ Below wo.drew.heap.size wo.drew w2) (fun k _ => nw - (intOf k).toNat)
        case atStart => exact ⟨0, Nat.zero_le _, rfl, Below.refl _ _⟩
        case round =>
          obtain ⟨j, hj, rfl, hb2⟩ := hrel
          have l2 := (hb2.cell (cells_lt k2)).trans k2
          by_cases hje : j = nw
          · subst hje
            have hb3 : Below w.heap.size w _ := hb.drew.trans (hb2.mono hb.drew.size)
            clear hw hP hP2 k1 k2 k3 k4 hb hb2
            go_wp2
            go_roundw
            case rel => exact ⟨q + 1, by omega, by go_num, hb3⟩
            case measure => simp [intOf]; omega
          · have hjl : j < nw := by omega
            have hjI : (j : Int) < (nw : Int) := by omega
            obtain ⟨c, d, s, rfl, rfl, g1, g2⟩ := hw j hjl
            have m2 := (hb2.drew.cell (cells_lt k2)).trans k2
            have m4 := (hb2.drew.cell (cells_lt k4)).trans k4
            have h1 := (hb2.drew.cell (cells_lt g1)).trans g1
            have h2 := (hb2.drew.cell (cells_lt g2)).trans g2
            have hb3 := hb2.drew
            clear hP hP2 k1 k2 k3 k4 hw g1 g2
            go_wp2
            refine wp_region_ser (S := fun _ w1 => w1 = wr.drew) rfl (by kernel_rfl) rfl ?_
            iterate 17 (first | ((refine Ser.step (a1 := ?_) rfl (fun L w1 K' Q' hS hi hR hd hK => ?_) ?_ ?_; rotate_left); (· ((have e0 := hS; subst e0); go_simp; (try simp only [Act.put, List.setIfInBounds_toArray, List.set_cons_zero, List.set_cons_succ]); exact hK.out _ (rfl))); (· rfl)) | (refine Ser.skip rfl (fun L w1 hS hi => (hS)) ?_; (try simp only [Act.put, List.setIfInBounds_toArray, List.set_cons_zero, List.set_cons_succ])))
            refine Ser.nil fun w1 hS => ?_
            subst hS
            clear m2 m4 h1 h2
            go_wp2
            go_roundw
            case rel => exact ⟨j + 1, by omega, by go_num, hb3⟩
            case measure => simp [intOf]; omega
end Go.Proofs.YtejfienogljboaaDoor
