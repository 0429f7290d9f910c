/- The law of names: where heads are right, a thing declared a second time makes them wrong. -/
import Derived.Test.YtjohjpjpfglkkaaNam
import Derived.Test.YtjohjpjpfglkkaaFew
import Derived.Test.YtjohjpjpfglkkaaViw
import Derived.Test.YtjohjpjpfglkkaaApS
import Derived.Test.YtjohjpjpfglkkaaSti
namespace Go.Proofs.Ytjohjpjpfglkkaa
open Go Go.RowKit

theorem u8_wf {n : Int} (h : (Lit.int .u8 n).wf = true) : 0 ≤ n ∧ n ≤ 255 := by
  simpa [Lit.wf, IntKind.min, IntKind.max, IntKind.signed, IntKind.bits] using h
theorem Row.v' {w w' : World} (hb : Below w.heap.size w w') {v : Value} {l : List Cl} (h : Row AtC 2 w v l) : Row AtC 2 w' v l := h.map fun _ _ => AtC.kp hb
set_option maxHeartbeats 32000000 in
set_option maxRecDepth 100000 in
theorem names_walk {w : World} {p : Pg} {vp u1 u2 u3 u4 : Value} (hp : ValP w vp p u1 u2 u3 u4) (t : Nat) (ht : t ≤ 255) :
    Calls Try.prog 7 #[vp, .int .u8 (t : Int)] w fun e w' => e = .returned (.bool true) ∧ Below w.heap.size w w' := by
  obtain ⟨ic, ic0, ic1, ic2, ic3⟩ := info_parts infoCl
  obtain ⟨if', if0, if1, if2, if3⟩ := info_parts infoFn
  obtain ⟨iv, iv0, iv1, iv2, iv3⟩ := info_parts infoVr
  have hpv := hp
  obtain ⟨rfl, pc, pg, px, pf⟩ := hp
  obtain ⟨p1, k1, rfl⟩ := pc.slice
  obtain ⟨p2, k2, rfl⟩ := pg.slice
  obtain ⟨p3, k3, rfl⟩ := px.slice
  obtain ⟨p4, k4, rfl⟩ := pf.slice
  obtain ⟨C1, hC1, -, lC1, eC1, aC1⟩ := Row.cells elemC pc
  obtain ⟨C2, hC2, -, lC2, eC2, aC2⟩ := Row.cells elemV pg
  obtain ⟨C4, hC4, -, lC4, eC4, aC4⟩ := Row.cells elemF pf
  have hFew := fun W (hW : Below w.heap.size w W) => few_val hW hpv (f := ⟨⟨#[]⟩, ⟨#[]⟩, [], [], []⟩) (vf := .agg #[.string ⟨#[]⟩, .string ⟨#[]⟩, .slice none 0 0, .slice none 0 0, .slice none 0 0]) (g1 := .slice none 0 0) (g2 := .slice none 0 0) (g3 := .slice none 0 0) ⟨rfl, ⟨by decide, by decide⟩, row_nil, row_nil, row_nil⟩
  have hb := (Below.refl w.heap.size w).alloc (Nat.le_refl _) (.cells #[.bool p.ssa, .slice p1 p.cs.length k1, .slice p2 p.gs.length k2, .slice p3 p.xs.length k3, .slice p4 p.fs.length k4] 27)
  have hP := Box.alloc w [.bool p.ssa, .slice p1 p.cs.length k1, .slice p2 p.gs.length k2, .slice p3 p.xs.length k3, .slice p4 p.fs.length k4] 27
  go_enter Try.func7, Try.ntmps7
  go_wp2_with fail
  refine (awake_val _).mono ?_
  rintro e w1 ⟨rfl, hd⟩
  replace hP := hP.nx hd
  replace hb := bthen' hb hd
  have hP_0 := hP.c 0 _ rfl
  have hP_1 := hP.c 1 _ rfl
  have hP_2 := hP.c 2 _ rfl
  have hP_3 := hP.c 3 _ rfl
  have hP_4 := hP.c 4 _ rfl
  clear hd
  go_wp2_with fail
  refine (hFew _ hb).mono ?_
  rintro e w2 ⟨hd, c, rfl, hQ1⟩
  replace hP := hP.nx hd
  replace hb := bthen' hb hd
  clear hd hFew hP_0 hP_1 hP_2 hP_3 hP_4
  have hP_0 := hP.c 0 _ rfl
  have hP_1 := hP.c 1 _ rfl
  have hP_2 := hP.c 2 _ rfl
  have hP_3 := hP.c 3 _ rfl
  have hP_4 := hP.c 4 _ rfl
  cases c
  · clear hP hQ1 hC1 hC2 hC4 aC1 aC2 aC4 hP_0 hP_1 hP_2 hP_3 hP_4
    go_wp2_with fail
    refine (awake_val _).mono ?_
    rintro e w9 ⟨rfl, hd⟩
    replace hb := bthen' hb hd
    clear hd
    go_wp2_with fail
    go_ret
    exact ⟨rfl, hb⟩
  replace hQ1 := Lib.hid (hQ1 rfl).1
  have hHd := heads_val (w := w2) hb hpv hQ1.out.vfew
  go_wp2_with fail
  refine hHd.mono ?_
  rintro e w3 ⟨rfl, hd⟩
  replace hP := hP.nx hd
  replace hb := bthen' hb hd
  clear hd hHd hP_0 hP_1 hP_2 hP_3 hP_4
  have hP_0 := hP.c 0 _ rfl
  have hP_1 := hP.c 1 _ rfl
  have hP_2 := hP.c 2 _ rfl
  have hP_3 := hP.c 3 _ rfl
  have hP_4 := hP.c 4 _ rfl
  cases headsB p
  · clear hP hQ1 hC1 hC2 hC4 aC1 aC2 aC4 hP_0 hP_1 hP_2 hP_3 hP_4
    go_wp2_with fail
    refine (awake_val _).mono ?_
    rintro e w9 ⟨rfl, hd⟩
    replace hb := bthen' hb hd
    clear hd
    go_wp2_with fail
    go_ret
    exact ⟨rfl, hb⟩
  have hlP := hP.lt
  go_upto_if 30 with fail
  clear hP_0 hP_1 hP_2 hP_3 hP_4
  have hQ := Box.alloc w3 [.bool p.ssa, .slice p1 p.cs.length k1, .slice p2 p.gs.length k2, .slice p3 p.xs.length k3, .slice p4 p.fs.length k4] 27
  replace hP := hP.al (.cells #[.bool p.ssa, .slice p1 p.cs.length k1, .slice p2 p.gs.length k2, .slice p3 p.xs.length k3, .slice p4 p.fs.length k4] 27)
  replace hb := hb.alloc hb.size (.cells #[.bool p.ssa, .slice p1 p.cs.length k1, .slice p2 p.gs.length k2, .slice p3 p.xs.length k3, .slice p4 p.fs.length k4] 27)
  generalize hqb : w3.heap.size = qb at *
  generalize (w3.alloc (.cells #[.bool p.ssa, .slice p1 p.cs.length k1, .slice p2 p.gs.length k2, .slice p3 p.xs.length k3, .slice p4 p.fs.length k4] 27)) = W at *
  clear hqb
  go_cut [30] from 31 to 48 (fun _ wx => Below w.heap.size w wx ∧ Box wx w.heap.size [.bool p.ssa, .slice p1 p.cs.length k1, .slice p2 p.gs.length k2, .slice p3 p.xs.length k3, .slice p4 p.fs.length k4] ∧ ∃ c1 c2 c3 c4, Box wx qb [.bool p.ssa, c1, c2, c3, c4])
  case first =>
    by_cases h0 : p.cs.length = 0
    · have h0I : ¬ (0 : Int) < (p.cs.length : Int) := by omega
      clear h0
      clear hC1 hC2 hC4 aC1 aC2 aC4
      go_wp2_with fail
      go_meet
      case rel => exact ⟨hb, hP, _, _, _, _, hQ⟩
    · have h0I : (0 : Int) < (p.cs.length : Int) := by omega
      have hne : ¬ p.cs = [] := fun e => h0 (by rw [e]; rfl)
      have hj : t % p.cs.length < p.cs.length := Nat.mod_lt _ (by omega)
      have hmod : Int.tmod (t : Int) (p.cs.length : Int) = ((t % p.cs.length : Nat) : Int) := rfl
      generalize hjj : t % p.cs.length = j at *
      have hjI : (j : Int) < (p.cs.length : Int) := by omega
      have hmem : p.cs[j] ∈ p.cs := List.getElem_mem hj
      have hw := names_cs p hmem
      have hcl := hQ1.out.c
      obtain ⟨pq, cq, hpq, -, -, hl⟩ := id pc
      obtain ⟨a0, ha0, ⟨c0, z0⟩, u, c1, hr⟩ := hl j p.cs[j] (by simp)
      clear hl
      injection hpq with e1 _ e3
      subst e1
      subst e3
      subst ha0
      obtain ⟨q1, j1, rfl⟩ := hr.slice
      have hone := Cells.c (w := w) z0 hr
      generalize p.cs[j] = y at *
      clear hmem h0
      have hbd := hb.drew
      have hPd := hP.drew
      have hQd := hQ.drew
      have hlW : qb < W.heap.size := hQ.lt
      have hlWd : qb < W.drew.heap.size := hlW
      go_wp2_with fail
      generalize hWd : W.drew = Wd at *
      refine wp_region_serF (S := ApS Wd 0 3 13 14 16 36 2 (p.cs.length) (1) C1 ([.string y.n, .slice q1 y.fs.length j1]) ([.string y.n, .slice q1 y.fs.length j1]) ⟨qb, 1, none⟩) rfl (by kernel_rfl) (ApS.start (by rw [hWd]; exact Below.refl _ _)) ?_
      refine SerF.free (fun _ => rfl) (fun V L w1 K' Q' hS hi hR hd hK => ?_) ?_
      · have a3 := hR.out 3 0 (by kernel_rfl) hi
        have a6 := hR.out 14 3 (by kernel_rfl) a3
        have a8 := hR.out 16 0 (by kernel_rfl) hi
        go_simp
        (try simp only [Act.put, List.setIfInBounds_toArray, List.set_cons_zero, List.set_cons_succ])
        exact hK.out _ _ rfl (hS.made a8 a3 a6 (by decide) (by decide) (by decide) (by decide))
      (try simp only [Act.put, List.setIfInBounds_toArray, List.set_cons_zero, List.set_cons_succ])
      ((refine SerF.step (a1 := ?_) (fun _ => rfl) (fun V L w1 K' Q' hS hi hR hd hK => ?_) ?_ ?_ ?_; rotate_left); (· ((skip); go_simp; (try simp only [Act.put, List.setIfInBounds_toArray, List.set_cons_zero, List.set_cons_succ]); exact hK.out _ (hS.keep rfl rfl rfl rfl rfl))); (· (intro V; rfl)); (· (exact fun _ _ _ _ _ _ => rfl)))
      ((refine SerF.step (a1 := ?_) (fun _ => rfl) (fun V L w1 K' Q' hS hi hR hd hK => ?_) ?_ ?_ ?_; rotate_left); (· ((have a8 := hR.out 16 2 (by kernel_rfl) hi; have f2 := (hPd.below (by first | exact hPd.lt | (rw [← hWd]; exact hPd.lt)) (hS.below a8)).c 1 _ rfl); go_simp; (try simp only [Act.put, List.setIfInBounds_toArray, List.set_cons_zero, List.set_cons_succ]); exact hK.out _ (hS.keep rfl rfl rfl rfl rfl))); (· (intro V; rfl)); (· (exact fun _ _ _ _ _ _ => rfl)))
      refine SerF.free (fun _ => rfl) (fun V L w1 K' Q' hS hi hR hd hK => ?_) ?_
      · have a6 := hR.out 14 3 (by kernel_rfl) hi
        have a8 := hR.out 16 3 (by kernel_rfl) hi
        have e0 := hd.out 0 (by kernel_rfl)
        have ho := (hS.1 a8).2.1 e0 hi
        have hbl := hbd.trans ((hS.below a8).mono hbd.size)
        refine wp_append_any _ _ 22 rfl Wd.heap.size 36 ic _ 2 40 Try.underlying22 ic0 ic1 ic2 ic3 rfl (by decide) _ 0 [] rfl ho (some a0) (p.cs.length) _ C1 rfl eC1 lC1 (fun ad e j u hu => keepc hbl (aC1 ad e j u hu)) hC1.2.1 (by unfold maxLen; omega) (by omega) (hS.below a8).size (fun v' w' h1 h2 => ?_)
        have h1' : w'.ownsRow Wd.heap.size 36 2 v' (p.cs.length) C1 := by simpa using h1
        obtain ⟨pu2, ku2, rfl⟩ := own_sl h1'
        exact hK.out _ _ rfl (hS.first a8 e0 hi a6 (by decide) (by decide) (by decide) h1' h2)
      (try simp only [Act.put, List.setIfInBounds_toArray, List.set_cons_zero, List.set_cons_succ])
      ((refine SerF.step (a1 := ?_) (fun _ => rfl) (fun V L w1 K' Q' hS hi hR hd hK => ?_) ?_ ?_ ?_; rotate_left); (· ((skip); go_simp; (try simp only [Act.put, List.setIfInBounds_toArray, List.set_cons_zero, List.set_cons_succ]); exact hK.out _ (hS.keep rfl rfl rfl rfl rfl))); (· (intro V; rfl)); (· (exact fun _ _ _ _ _ _ => rfl)))
      ((refine SerF.step (a1 := ?_) (fun _ => rfl) (fun V L w1 K' Q' hS hi hR hd hK => ?_) ?_ ?_ ?_; rotate_left); (· ((have a8 := hR.out 16 5 (by kernel_rfl) hi; have f2 := (hPd.below (by first | exact hPd.lt | (rw [← hWd]; exact hPd.lt)) (hS.below a8)).c 1 _ rfl); go_simp; (try simp only [Act.put, List.setIfInBounds_toArray, List.set_cons_zero, List.set_cons_succ]); exact hK.out _ (hS.keep rfl rfl rfl rfl rfl))); (· (intro V; rfl)); (· (exact fun _ _ _ _ _ _ => rfl)))
      ((refine SerF.step (a1 := ?_) (fun _ => rfl) (fun V L w1 K' Q' hS hi hR hd hK => ?_) ?_ ?_ ?_; rotate_left); (· ((skip); go_simp; (try simp only [Act.put, List.setIfInBounds_toArray, List.set_cons_zero, List.set_cons_succ]); exact hK.out _ (hS.keep rfl rfl rfl rfl rfl))); (· (intro V; rfl)); (· (exact fun _ _ _ _ _ _ => rfl)))
      ((refine SerF.step (a1 := ?_) (fun _ => rfl) (fun V L w1 K' Q' hS hi hR hd hK => ?_) ?_ ?_ ?_; rotate_left); (· ((skip); go_simp; (try simp only [Act.put, List.setIfInBounds_toArray, List.set_cons_zero, List.set_cons_succ]); exact hK.out _ (hS.keep rfl rfl rfl rfl rfl))); (· (intro V; rfl)); (· (exact fun _ _ _ _ _ _ => rfl)))
      ((refine SerF.step (a1 := ?_) (fun _ => rfl) (fun V L w1 K' Q' hS hi hR hd hK => ?_) ?_ ?_ ?_; rotate_left); (· ((have a8 := hR.out 16 8 (by kernel_rfl) hi; have f2 := (hPd.below (by first | exact hPd.lt | (rw [← hWd]; exact hPd.lt)) (hS.below a8)).c 1 _ rfl); go_simp; (try simp only [Act.put, List.setIfInBounds_toArray, List.set_cons_zero, List.set_cons_succ]); exact hK.out _ (hS.keep rfl rfl rfl rfl rfl))); (· (intro V; rfl)); (· (exact fun _ _ _ _ _ _ => rfl)))
      ((refine SerF.step (a1 := ?_) (fun _ => rfl) (fun V L w1 K' Q' hS hi hR hd hK => ?_) ?_ ?_ ?_; rotate_left); (· ((skip); go_simp; (try simp only [Act.put, List.setIfInBounds_toArray, List.set_cons_zero, List.set_cons_succ]); exact hK.out _ (hS.keep rfl rfl rfl rfl rfl))); (· (intro V; rfl)); (· (exact fun _ _ _ _ _ _ => rfl)))
      ((refine SerF.step (a1 := ?_) (fun _ => rfl) (fun V L w1 K' Q' hS hi hR hd hK => ?_) ?_ ?_ ?_; rotate_left); (· ((skip); go_simp; (try simp only [Act.put, List.setIfInBounds_toArray, List.set_cons_zero, List.set_cons_succ]); exact hK.out _ (hS.keep rfl rfl rfl rfl rfl))); (· (intro V; rfl)); (· (exact fun _ _ _ _ _ _ => rfl)))
      ((refine SerF.step (a1 := ?_) (fun _ => rfl) (fun V L w1 K' Q' hS hi hR hd hK => ?_) ?_ ?_ ?_; rotate_left); (· ((skip); go_simp; (try simp only [Act.put, List.setIfInBounds_toArray, List.set_cons_zero, List.set_cons_succ]); exact hK.out _ (hS.keep rfl rfl rfl rfl rfl))); (· (intro V; rfl)); (· (exact fun _ _ _ _ _ _ => rfl)))
      ((refine SerF.step (a1 := ?_) (fun _ => rfl) (fun V L w1 K' Q' hS hi hR hd hK => ?_) ?_ ?_ ?_; rotate_left); (· ((have a8 := hR.out 16 12 (by kernel_rfl) hi; have hbl := hbd.trans ((hS.below a8).mono hbd.size); replace c0 := keepc hbl c0; replace c1 := keepc hbl c1); go_simp; (try simp only [Act.put, List.setIfInBounds_toArray, List.set_cons_zero, List.set_cons_succ]); exact hK.out _ (hS.keep rfl rfl rfl rfl rfl))); (· (intro V; rfl)); (· (exact fun _ _ _ _ _ _ => rfl)))
      refine SerF.free (fun _ => rfl) (fun V L w1 K' Q' hS hi hR hd hK => ?_) ?_
      · have a8 := hR.out 16 13 (by kernel_rfl) hi
        have a6 := hR.out 14 13 (by kernel_rfl) hi
        go_simp
        (try simp only [Act.put, List.setIfInBounds_toArray, List.set_cons_zero, List.set_cons_succ])
        exact hK.out _ _ rfl (hS.single a8 a6 (by decide) (by decide) (by decide) (by decide))
      (try simp only [Act.put, List.setIfInBounds_toArray, List.set_cons_zero, List.set_cons_succ])
      refine SerF.free (fun _ => rfl) (fun V L w1 K' Q' hS hi hR hd hK => ?_) ?_
      · have a8 := hR.out 16 14 (by kernel_rfl) hi
        have e3 := hd.out 3 (by kernel_rfl)
        have ho := (hS.1 a8).2.2.1 e3 hi
        have hbl := hbd.trans ((hS.below a8).mono hbd.size)
        obtain ⟨pu, ku, hV3⟩ := own_sl ho
        obtain ⟨pb, e5, pb1, pb2, hB5, -⟩ := (hS.1 a8).2.2.2.2 (hd.out 13 (by kernel_rfl)) hi
        refine wp_append_any _ _ 22 rfl Wd.heap.size 36 ic _ 2 40 Try.underlying22 ic0 ic1 ic2 ic3 rfl (by decide) _ (p.cs.length) _ rfl ho (some ⟨pb, 0, none⟩) 1 1 ([.string y.n, .slice q1 y.fs.length j1]) e5 (fun e => by cases e) rfl (fun ad e j u hu => by injection e with e; subst e; rw [add_at, Nat.zero_add]; exact hB5.c j u hu) hone.2.1 (by unfold maxLen; omega) (by omega) (hS.below a8).size (fun v' w' h1 h2 => ?_)
        obtain ⟨pu2, ku2, rfl⟩ := own_sl h1
        exact hK.out _ _ rfl (hS.second a8 e3 hi (by decide) (by decide) h1 h2)
      (try simp only [Act.put, List.setIfInBounds_toArray, List.set_cons_zero, List.set_cons_succ])
      ((refine SerF.step (a1 := ?_) (fun _ => rfl) (fun V L w1 K' Q' hS hi hR hd hK => ?_) ?_ ?_ ?_; rotate_left); (· ((skip); go_simp; (try simp only [Act.put, List.setIfInBounds_toArray, List.set_cons_zero, List.set_cons_succ]); exact hK.out _ (hS.keep rfl rfl rfl rfl rfl))); (· (intro V; rfl)); (· (exact fun _ _ _ _ _ _ => rfl)))
      refine SerF.val undef (fun _ => rfl) (fun V L w1 K' Q' hS hi hR hd hK => ?_) ?_
      · have e6 := hd.out 14 (by kernel_rfl)
        have hbx := hS.below hi
        have hB := hQd.below (by first | exact hQd.lt | (rw [← hWd]; exact hQd.lt)) hbx
        have g := hB.c 1 _ rfl
        have gf := hB.f 1 (by simp)
        obtain ⟨pu, ku, hV6⟩ := own_sl ((hS.1 hi).2.2.2.1 e6)
        have hS2 := hS.stored hi e6
        rw [hV6] at hS2
        simp only [hV6]
        go_simp
        refine hK.out _ _ (by simp only [hV6]; rfl) hS2
      simp only [Act.put]
      refine SerF.nil fun V w1 hS => ?_
      obtain ⟨W1, pu1, ku1, hV6, hbx, ho1, rfl⟩ := hS.done rfl
      simp only [hV6]
      clear hS hV6
      replace hlWd : qb < Wd.heap.size := by first | exact hlWd | (rw [← hWd]; exact hlWd)
      have hb2 := (hbd.trans (hbx.mono hbd.size)).setCell (p := ⟨qb, 1, none⟩) (by dsimp only; omega) (.slice pu1 (p.cs.length + 1) ku1)
      have hP2 := (hPd.below hPd.lt hbx).far (q := ⟨qb, 1, none⟩) (by dsimp only; omega) (.slice pu1 (p.cs.length + 1) ku1)
      have hQ2 := (hQd.below hQd.lt hbx).set (i := 1) (by simp) (.slice pu1 (p.cs.length + 1) ku1)
      replace ho1 := own_far (q := qb) (i := 1) (u := .slice pu1 (p.cs.length + 1) ku1) ho1 hlWd
      clear hb hbd hP hQ hPd hQd  hbx
      generalize hW2 : (W1.setCell ⟨qb, 1, none⟩ (.slice pu1 (p.cs.length + 1) ku1)) = W at *
      clear hW2
      have hb := hb2
      have hP := hP2
      have hQ := hQ2
      clear hb2 hP2 hQ2 
      obtain ⟨Bk1, hBk1, hoo1⟩ : ∃ B, qb < B ∧ W.ownsRow B 36 2 (.slice pu1 (p.cs.length + 1) ku1) (p.cs.length + 1) (C1 ++ ([.string y.n, .slice q1 y.fs.length j1])) := ⟨_, hlWd, ho1⟩
      clear ho1 hWd hlW hlWd
      replace hQ : Box W qb [.bool p.ssa, .slice pu1 (p.cs.length + 1) ku1, .slice p2 p.gs.length k2, .slice p3 p.xs.length k3, .slice p4 p.fs.length k4] := hQ
      have hr1 : Row AtC 2 W (.slice pu1 (p.cs.length + 1) ku1) (p.cs ++ [y]) := (hC1.app hone).row hb (by rw [List.length_append]; exact hoo1) (by rw [List.length_append]; simp; omega)
      have hq : ValP W (.agg #[.bool p.ssa, .slice pu1 (p.cs.length + 1) ku1, .slice p2 p.gs.length k2, .slice p3 p.xs.length k3, .slice p4 p.fs.length k4]) ⟨p.ssa, p.cs ++ [y], p.gs, p.xs, p.fs⟩ _ _ _ _ := ⟨rfl, hr1, pg.v hb, px.x hb, pf.fn hb⟩
      have hHd := heads_val (w := W) (Below.refl _ _) hq hQ1.out.vfew
      rw [hw] at hHd
      clear hq hr1 hoo1 hone hr hw hmod hjj hj
      have hQ_0 := hQ.c 0 _ rfl
      have hQ_1 := hQ.c 1 _ rfl
      have hQ_2 := hQ.c 2 _ rfl
      have hQ_3 := hQ.c 3 _ rfl
      have hQ_4 := hQ.c 4 _ rfl
      go_wp2_with fail
      refine hHd.mono ?_
      rintro e w4 ⟨rfl, hd⟩
      replace hP := hP.nx hd
      replace hQ := hQ.nx hd
      replace hb := bthen' hb hd
      clear hd hHd hQ_0 hQ_1 hQ_2 hQ_3 hQ_4
      go_wp2_with fail
      go_meet
      case rel => exact ⟨hb, hP, _, _, _, _, hQ⟩
  case rest =>
  clear hb hP hQ
  obtain ⟨hb, hP, d1, d2, d3, d4, hQ⟩ := hcut
  obtain ⟨W, rfl⟩ : ∃ W : World, W = wc := ⟨_, rfl⟩
  have hP_0 := hP.c 0 _ rfl
  have hP_1 := hP.c 1 _ rfl
  have hP_2 := hP.c 2 _ rfl
  have hP_3 := hP.c 3 _ rfl
  have hP_4 := hP.c 4 _ rfl
  have hQ_0 := hQ.c 0 _ rfl
  have hQ_1 := hQ.c 1 _ rfl
  have hQ_2 := hQ.c 2 _ rfl
  have hQ_3 := hQ.c 3 _ rfl
  have hQ_4 := hQ.c 4 _ rfl
  have gf0 := hQ.f 0 (by simp)
  have gf1 := hQ.f 1 (by simp)
  have gf2 := hQ.f 2 (by simp)
  have gf3 := hQ.f 3 (by simp)
  have gf4 := hQ.f 4 (by simp)
  go_upto_if 53 with fail
  clear hP_0 hP_1 hP_2 hP_3 hP_4 hQ_0 hQ_1 hQ_2 hQ_3 hQ_4 gf0 gf1 gf2 gf3 gf4
  have hlq : qb < W.heap.size := hQ.lt
  replace hQ : Box _ qb [.bool p.ssa, .slice p1 p.cs.length k1, .slice p2 p.gs.length k2, .slice p3 p.xs.length k3, .slice p4 p.fs.length k4] := ((((hQ.set (i := 0) (by simp) (.bool p.ssa)).set (i := 1) (by simp) (.slice p1 p.cs.length k1)).set (i := 2) (by simp) (.slice p2 p.gs.length k2)).set (i := 3) (by simp) (.slice p3 p.xs.length k3)).set (i := 4) (by simp) (.slice p4 p.fs.length k4)
  replace hP := ((((hP.far (q := ⟨qb, 0, none⟩) (by dsimp only; omega) (.bool p.ssa)).far (q := ⟨qb, 1, none⟩) (by dsimp only; omega) (.slice p1 p.cs.length k1)).far (q := ⟨qb, 2, none⟩) (by dsimp only; omega) (.slice p2 p.gs.length k2)).far (q := ⟨qb, 3, none⟩) (by dsimp only; omega) (.slice p3 p.xs.length k3)).far (q := ⟨qb, 4, none⟩) (by dsimp only; omega) (.slice p4 p.fs.length k4)
  have hqw : w.heap.size ≤ qb := by omega
  replace hb := ((((hb.setCell (p := ⟨qb, 0, none⟩) hqw (.bool p.ssa)).setCell (p := ⟨qb, 1, none⟩) hqw (.slice p1 p.cs.length k1)).setCell (p := ⟨qb, 2, none⟩) hqw (.slice p2 p.gs.length k2)).setCell (p := ⟨qb, 3, none⟩) hqw (.slice p3 p.xs.length k3)).setCell (p := ⟨qb, 4, none⟩) hqw (.slice p4 p.fs.length k4)
  generalize hW2 : (((((W.setCell ⟨qb, 0, none⟩ (.bool p.ssa)).setCell ⟨qb, 1, none⟩ (.slice p1 p.cs.length k1)).setCell ⟨qb, 2, none⟩ (.slice p2 p.gs.length k2)).setCell ⟨qb, 3, none⟩ (.slice p3 p.xs.length k3)).setCell ⟨qb, 4, none⟩ (.slice p4 p.fs.length k4)) = W at *
  clear hW2 hlq
  go_cut [53, 7] from 54 to 108 (fun _ _ wx => Below w.heap.size w wx ∧ Box wx w.heap.size [.bool p.ssa, .slice p1 p.cs.length k1, .slice p2 p.gs.length k2, .slice p3 p.xs.length k3, .slice p4 p.fs.length k4] ∧ ∃ c1 c2 c3 c4, Box wx qb [.bool p.ssa, c1, c2, c3, c4])
  case first =>
    by_cases h0 : p.fs.length = 0
    · have h0I : ¬ (0 : Int) < (p.fs.length : Int) := by omega
      clear h0
      clear hC1 hC2 hC4 aC1 aC2 aC4
      go_wp2_with fail
      go_meet
      case rel => exact ⟨hb, hP, _, _, _, _, hQ⟩
    · have h0I : (0 : Int) < (p.fs.length : Int) := by omega
      have hne : ¬ p.fs = [] := fun e => h0 (by rw [e]; rfl)
      have hj : t % p.fs.length < p.fs.length := Nat.mod_lt _ (by omega)
      have hmod : Int.tmod (t : Int) (p.fs.length : Int) = ((t % p.fs.length : Nat) : Int) := rfl
      generalize hjj : t % p.fs.length = j at *
      have hjI : (j : Int) < (p.fs.length : Int) := by omega
      have hmem : p.fs[j] ∈ p.fs := List.getElem_mem hj
      have hw := names_fs p hmem
      have hw2 := fun (v : Vr) (hv : v ∈ p.fs[j].vs) => names_ps p hj (f := p.fs[j]) (v := v) hv
      have hcl := hQ1.out.f
      have hvf := hQ1.out.v p.fs[j] hmem
      obtain ⟨pq, cq, hpq, -, -, hl⟩ := id pf
      obtain ⟨a0, ha0, ⟨c0, z0⟩, ⟨c1, z1⟩, ⟨u2, c2, r2⟩, ⟨u3, c3, r3⟩, u4, c4, r4⟩ := hl j p.fs[j] (by simp)
      clear hl
      injection hpq with e1 _ e3
      subst e1
      subst e3
      subst ha0
      obtain ⟨q2, j2, rfl⟩ := r2.slice
      obtain ⟨q3, j3, rfl⟩ := r3.slice
      obtain ⟨q4, j4, rfl⟩ := r4.slice
      have hone := Cells.f (w := w) ⟨z0, z1⟩ r2 r3 r4
      have hlj := hj
      replace hw2 := Lib.hid hw2
      generalize p.fs[j] = y at *
      clear hmem h0
      have hbd := hb.drew
      have hPd := hP.drew
      have hQd := hQ.drew
      have hlq : qb < W.drew.heap.size := hQ.lt
      have hlp : w.heap.size < W.drew.heap.size := hP.lt
      go_wp2_with fail
      generalize hWd : W.drew = Wd at *
      have hlq' : qb < Wd.heap.size := by first | exact hlq | (rw [← hWd]; exact hlq)
      have hlp' : w.heap.size < Wd.heap.size := by first | exact hlp | (rw [← hWd]; exact hlp)
      have hbd' : Below w.heap.size w Wd := by first | exact hbd | (rw [← hWd]; exact hbd)
      have hPd' : Box Wd w.heap.size [.bool p.ssa, .slice p1 p.cs.length k1, .slice p2 p.gs.length k2, .slice p3 p.xs.length k3, .slice (some a0) p.fs.length k4] := by first | exact hPd | (rw [← hWd]; exact hPd)
      have hQd' : Box Wd qb [.bool p.ssa, .slice p1 p.cs.length k1, .slice p2 p.gs.length k2, .slice p3 p.xs.length k3, .slice (some a0) p.fs.length k4] := by first | exact hQd | (rw [← hWd]; exact hQd)
      refine wp_region_serF (S := SBox Wd 9 10 [.string ⟨#[]⟩, .string ⟨#[]⟩, .slice none 0 0, .slice none 0 0, .slice none 0 0] [.string y.n, .string y.r, .slice q2 y.ps.length j2, .slice q3 y.vs.length j3, .slice q4 y.bs.length j4]) rfl (by kernel_rfl) (SBox.start (by rw [hWd]; exact Below.refl _ _)) ?_
      ((refine SerF.step (a1 := ?_) (fun _ => rfl) (fun V L w1 K' Q' hS hi hR hd hK => ?_) ?_ ?_ ?_; rotate_left); (· ((skip); go_simp; (try simp only [Act.put, List.setIfInBounds_toArray, List.set_cons_zero, List.set_cons_succ]); exact hK.out _ (hS.keep rfl rfl))); (· (intro V; rfl)); (· (exact fun _ _ _ _ _ _ => rfl)))
      ((refine SerF.step (a1 := ?_) (fun _ => rfl) (fun V L w1 K' Q' hS hi hR hd hK => ?_) ?_ ?_ ?_; rotate_left); (· ((have f2 := (hPd'.below hlp' hS.1).c 4 _ rfl); go_simp; (try simp only [Act.put, List.setIfInBounds_toArray, List.set_cons_zero, List.set_cons_succ]); exact hK.out _ (hS.keep rfl rfl))); (· (intro V; rfl)); (· (exact fun _ _ _ _ _ _ => rfl)))
      ((refine SerF.step (a1 := ?_) (fun _ => rfl) (fun V L w1 K' Q' hS hi hR hd hK => ?_) ?_ ?_ ?_; rotate_left); (· ((skip); go_simp; (try simp only [Act.put, List.setIfInBounds_toArray, List.set_cons_zero, List.set_cons_succ]); exact hK.out _ (hS.keep rfl rfl))); (· (intro V; rfl)); (· (exact fun _ _ _ _ _ _ => rfl)))
      ((refine SerF.step (a1 := ?_) (fun _ => rfl) (fun V L w1 K' Q' hS hi hR hd hK => ?_) ?_ ?_ ?_; rotate_left); (· ((skip); go_simp; (try simp only [Act.put, List.setIfInBounds_toArray, List.set_cons_zero, List.set_cons_succ]); exact hK.out _ (hS.keep rfl rfl))); (· (intro V; rfl)); (· (exact fun _ _ _ _ _ _ => rfl)))
      ((refine SerF.step (a1 := ?_) (fun _ => rfl) (fun V L w1 K' Q' hS hi hR hd hK => ?_) ?_ ?_ ?_; rotate_left); (· ((have f2 := (hPd'.below hlp' hS.1).c 4 _ rfl); go_simp; (try simp only [Act.put, List.setIfInBounds_toArray, List.set_cons_zero, List.set_cons_succ]); exact hK.out _ (hS.keep rfl rfl))); (· (intro V; rfl)); (· (exact fun _ _ _ _ _ _ => rfl)))
      ((refine SerF.step (a1 := ?_) (fun _ => rfl) (fun V L w1 K' Q' hS hi hR hd hK => ?_) ?_ ?_ ?_; rotate_left); (· ((skip); go_simp; (try simp only [Act.put, List.setIfInBounds_toArray, List.set_cons_zero, List.set_cons_succ]); exact hK.out _ (hS.keep rfl rfl))); (· (intro V; rfl)); (· (exact fun _ _ _ _ _ _ => rfl)))
      ((refine SerF.step (a1 := ?_) (fun _ => rfl) (fun V L w1 K' Q' hS hi hR hd hK => ?_) ?_ ?_ ?_; rotate_left); (· ((skip); go_simp; (try simp only [Act.put, List.setIfInBounds_toArray, List.set_cons_zero, List.set_cons_succ]); exact hK.out _ (hS.keep rfl rfl))); (· (intro V; rfl)); (· (exact fun _ _ _ _ _ _ => rfl)))
      ((refine SerF.step (a1 := ?_) (fun _ => rfl) (fun V L w1 K' Q' hS hi hR hd hK => ?_) ?_ ?_ ?_; rotate_left); (· ((skip); go_simp; (try simp only [Act.put, List.setIfInBounds_toArray, List.set_cons_zero, List.set_cons_succ]); exact hK.out _ (hS.keep rfl rfl))); (· (intro V; rfl)); (· (exact fun _ _ _ _ _ _ => rfl)))
      ((refine SerF.step (a1 := ?_) (fun _ => rfl) (fun V L w1 K' Q' hS hi hR hd hK => ?_) ?_ ?_ ?_; rotate_left); (· ((have hbl := hbd'.trans (hS.1.mono hbd'.size); replace c0 := keepc hbl c0; replace c1 := keepc hbl c1; replace c2 := keepc hbl c2; replace c3 := keepc hbl c3; replace c4 := keepc hbl c4); go_simp; (try simp only [Act.put, List.setIfInBounds_toArray, List.set_cons_zero, List.set_cons_succ]); exact hK.out _ (hS.keep rfl rfl))); (· (intro V; rfl)); (· (exact fun _ _ _ _ _ _ => rfl)))
      (refine SerF.free (fun _ => rfl) (fun V L w1 K' Q' hS hi hR hd hK => ?_) ?_; (· (go_simp; (try simp only [Act.put, List.setIfInBounds_toArray, List.set_cons_zero, List.set_cons_succ]); exact hK.out _ _ rfl (hS.made rfl hi _))); (try simp only [Act.put, List.setIfInBounds_toArray, List.set_cons_zero, List.set_cons_succ]))
      refine SerF.val undef (fun _ => rfl) (fun V L w1 K' Q' hS hi hR' hd hK => ?_) ?_
      · have hl := hd.out 9 (by kernel_rfl)
        obtain ⟨fb, hp, hp0, hp1, hx⟩ := hS.at hl hi
        have c0' := hx.c 0 _ rfl
        have f0' := hx.f 0 (by decide)
        have c1' := hx.c 1 _ rfl
        have f1' := hx.f 1 (by decide)
        have c2' := hx.c 2 _ rfl
        have f2' := hx.f 2 (by decide)
        have c3' := hx.c 3 _ rfl
        have f3' := hx.f 3 (by decide)
        have c4' := hx.c 4 _ rfl
        have f4' := hx.f 4 (by decide)
        go_simp
        refine hK.out _ _ (by simp only [hp]; rfl) (hS.fill hl hp hp0 (by simpa using hp1) (((((hS.1.setCell hp0 _).setCell hp0 _).setCell hp0 _).setCell hp0 _).setCell hp0 _) (((((hx.set (i := 0) (by simp) _).set (i := 1) (by simp) _).set (i := 2) (by simp) _).set (i := 3) (by simp) _).set (i := 4) (by simp) _) rfl)
      simp only [Act.put]
      refine SerF.nil fun V w1 hS => ?_
      obtain ⟨fb, hp, hp0, hp1, hG⟩ := hS.done rfl rfl
      have hbx := hS.1
      simp only [hp]
      clear hS hp
      replace hP := hPd'.below hlp' hbx
      replace hQ := hQd'.below hlq' hbx
      replace hb := hbd'.trans (hbx.mono hbd'.size)
      have hqf : qb < fb := by omega
      have hpf : w.heap.size < fb := by omega
      clear hbd hPd hQd hlq hlp hlq' hlp' hbd' hPd' hQd' hWd hp0 hp1 hbx
      obtain ⟨W, rfl⟩ : ∃ W : World, W = w1 := ⟨_, rfl⟩
      obtain ⟨hvp, hvv⟩ := hvf
      have hbd := hb.drew
      have hPd := hP.drew
      have hQd := hQ.drew
      have hGd := hG.drew
      have hlW : qb < W.heap.size := hQ.lt
      have hlWd : qb < W.drew.heap.size := hlW
      go_wp2_with fail
      generalize hWd : W.drew = Wd at *
      refine wp_region_serF (S := ApS Wd 0 3 5 6 8 30 5 (p.fs.length) (1) C4 ([.string y.n, .string y.r, .slice q2 y.ps.length j2, .slice q3 y.vs.length j3, .slice q4 y.bs.length j4]) ([.string y.n, .string y.r, .slice q2 y.ps.length j2, .slice q3 y.vs.length j3, .slice q4 y.bs.length j4]) ⟨qb, 4, none⟩) rfl (by kernel_rfl) (ApS.start (by rw [hWd]; exact Below.refl _ _)) ?_
      refine SerF.free (fun _ => rfl) (fun V L w1 K' Q' hS hi hR hd hK => ?_) ?_
      · have a3 := hR.out 3 0 (by kernel_rfl) hi
        have a6 := hR.out 6 3 (by kernel_rfl) a3
        have a8 := hR.out 8 0 (by kernel_rfl) hi
        go_simp
        (try simp only [Act.put, List.setIfInBounds_toArray, List.set_cons_zero, List.set_cons_succ])
        exact hK.out _ _ rfl (hS.made a8 a3 a6 (by decide) (by decide) (by decide) (by decide))
      (try simp only [Act.put, List.setIfInBounds_toArray, List.set_cons_zero, List.set_cons_succ])
      ((refine SerF.step (a1 := ?_) (fun _ => rfl) (fun V L w1 K' Q' hS hi hR hd hK => ?_) ?_ ?_ ?_; rotate_left); (· ((skip); go_simp; (try simp only [Act.put, List.setIfInBounds_toArray, List.set_cons_zero, List.set_cons_succ]); exact hK.out _ (hS.keep rfl rfl rfl rfl rfl))); (· (intro V; rfl)); (· (exact fun _ _ _ _ _ _ => rfl)))
      ((refine SerF.step (a1 := ?_) (fun _ => rfl) (fun V L w1 K' Q' hS hi hR hd hK => ?_) ?_ ?_ ?_; rotate_left); (· ((have a8 := hR.out 8 2 (by kernel_rfl) hi; have f2 := (hPd.below (by first | exact hPd.lt | (rw [← hWd]; exact hPd.lt)) (hS.below a8)).c 4 _ rfl); go_simp; (try simp only [Act.put, List.setIfInBounds_toArray, List.set_cons_zero, List.set_cons_succ]); exact hK.out _ (hS.keep rfl rfl rfl rfl rfl))); (· (intro V; rfl)); (· (exact fun _ _ _ _ _ _ => rfl)))
      refine SerF.free (fun _ => rfl) (fun V L w1 K' Q' hS hi hR hd hK => ?_) ?_
      · have a6 := hR.out 6 3 (by kernel_rfl) hi
        have a8 := hR.out 8 3 (by kernel_rfl) hi
        have e0 := hd.out 0 (by kernel_rfl)
        have ho := (hS.1 a8).2.1 e0 hi
        have hbl := hbd.trans ((hS.below a8).mono hbd.size)
        refine wp_append_any _ _ 25 rfl Wd.heap.size 30 if' _ 5 104 Try.underlying25 if0 if1 if2 if3 rfl (by decide) _ 0 [] rfl ho (some a0) (p.fs.length) _ C4 rfl eC4 lC4 (fun ad e j u hu => keepc hbl (aC4 ad e j u hu)) hC4.2.1 (by unfold maxLen; omega) (by omega) (hS.below a8).size (fun v' w' h1 h2 => ?_)
        have h1' : w'.ownsRow Wd.heap.size 30 5 v' (p.fs.length) C4 := by simpa using h1
        obtain ⟨pu2, ku2, rfl⟩ := own_sl h1'
        exact hK.out _ _ rfl (hS.first a8 e0 hi a6 (by decide) (by decide) (by decide) h1' h2)
      (try simp only [Act.put, List.setIfInBounds_toArray, List.set_cons_zero, List.set_cons_succ])
      ((refine SerF.step (a1 := ?_) (fun _ => rfl) (fun V L w1 K' Q' hS hi hR hd hK => ?_) ?_ ?_ ?_; rotate_left); (· ((have a8 := hR.out 8 4 (by kernel_rfl) hi; have hVb := (hGd.below (by first | exact hGd.lt | (rw [← hWd]; exact hGd.lt)) (hS.below a8)); have g0 := hVb.c 0 _ rfl; have g1 := hVb.c 1 _ rfl; have g2 := hVb.c 2 _ rfl; have g3 := hVb.c 3 _ rfl; have g4 := hVb.c 4 _ rfl); go_simp; (try simp only [Act.put, List.setIfInBounds_toArray, List.set_cons_zero, List.set_cons_succ]); exact hK.out _ (hS.keep rfl rfl rfl rfl rfl))); (· (intro V; rfl)); (· (exact fun _ _ _ _ _ _ => rfl)))
      refine SerF.free (fun _ => rfl) (fun V L w1 K' Q' hS hi hR hd hK => ?_) ?_
      · have a8 := hR.out 8 5 (by kernel_rfl) hi
        have a6 := hR.out 6 5 (by kernel_rfl) hi
        go_simp
        (try simp only [Act.put, List.setIfInBounds_toArray, List.set_cons_zero, List.set_cons_succ])
        exact hK.out _ _ rfl (hS.single a8 a6 (by decide) (by decide) (by decide) (by decide))
      (try simp only [Act.put, List.setIfInBounds_toArray, List.set_cons_zero, List.set_cons_succ])
      refine SerF.free (fun _ => rfl) (fun V L w1 K' Q' hS hi hR hd hK => ?_) ?_
      · have a8 := hR.out 8 6 (by kernel_rfl) hi
        have e3 := hd.out 3 (by kernel_rfl)
        have ho := (hS.1 a8).2.2.1 e3 hi
        have hbl := hbd.trans ((hS.below a8).mono hbd.size)
        obtain ⟨pu, ku, hV3⟩ := own_sl ho
        obtain ⟨pb, e5, pb1, pb2, hB5, -⟩ := (hS.1 a8).2.2.2.2 (hd.out 5 (by kernel_rfl)) hi
        refine wp_append_any _ _ 25 rfl Wd.heap.size 30 if' _ 5 104 Try.underlying25 if0 if1 if2 if3 rfl (by decide) _ (p.fs.length) _ rfl ho (some ⟨pb, 0, none⟩) 1 1 ([.string y.n, .string y.r, .slice q2 y.ps.length j2, .slice q3 y.vs.length j3, .slice q4 y.bs.length j4]) e5 (fun e => by cases e) rfl (fun ad e j u hu => by injection e with e; subst e; rw [add_at, Nat.zero_add]; exact hB5.c j u hu) hone.2.1 (by unfold maxLen; omega) (by omega) (hS.below a8).size (fun v' w' h1 h2 => ?_)
        obtain ⟨pu2, ku2, rfl⟩ := own_sl h1
        exact hK.out _ _ rfl (hS.second a8 e3 hi (by decide) (by decide) h1 h2)
      (try simp only [Act.put, List.setIfInBounds_toArray, List.set_cons_zero, List.set_cons_succ])
      ((refine SerF.step (a1 := ?_) (fun _ => rfl) (fun V L w1 K' Q' hS hi hR hd hK => ?_) ?_ ?_ ?_; rotate_left); (· ((skip); go_simp; (try simp only [Act.put, List.setIfInBounds_toArray, List.set_cons_zero, List.set_cons_succ]); exact hK.out _ (hS.keep rfl rfl rfl rfl rfl))); (· (intro V; rfl)); (· (exact fun _ _ _ _ _ _ => rfl)))
      refine SerF.val undef (fun _ => rfl) (fun V L w1 K' Q' hS hi hR hd hK => ?_) ?_
      · have e6 := hd.out 6 (by kernel_rfl)
        have hbx := hS.below hi
        have hB := hQd.below (by first | exact hQd.lt | (rw [← hWd]; exact hQd.lt)) hbx
        have g := hB.c 4 _ rfl
        have gf := hB.f 4 (by simp)
        obtain ⟨pu, ku, hV6⟩ := own_sl ((hS.1 hi).2.2.2.1 e6)
        have hS2 := hS.stored hi e6
        rw [hV6] at hS2
        simp only [hV6]
        go_simp
        refine hK.out _ _ (by simp only [hV6]; rfl) hS2
      simp only [Act.put]
      refine SerF.nil fun V w1 hS => ?_
      obtain ⟨W1, pu2, ku2, hV6, hbx, ho2, rfl⟩ := hS.done rfl
      simp only [hV6]
      clear hS hV6
      replace hlWd : qb < Wd.heap.size := by first | exact hlWd | (rw [← hWd]; exact hlWd)
      have hb2 := (hbd.trans (hbx.mono hbd.size)).setCell (p := ⟨qb, 4, none⟩) (by dsimp only; omega) (.slice pu2 (p.fs.length + 1) ku2)
      have hP2 := (hPd.below hPd.lt hbx).far (q := ⟨qb, 4, none⟩) (by dsimp only; omega) (.slice pu2 (p.fs.length + 1) ku2)
      have hQ2 := (hQd.below hQd.lt hbx).set (i := 4) (by simp) (.slice pu2 (p.fs.length + 1) ku2)
      have hG2 := (hGd.below hGd.lt hbx).far (q := ⟨qb, 4, none⟩) (by dsimp only; omega) (.slice pu2 (p.fs.length + 1) ku2)
      replace ho2 := own_far (q := qb) (i := 4) (u := .slice pu2 (p.fs.length + 1) ku2) ho2 hlWd
      clear hb hbd hP hQ hG hPd hQd hGd  hbx
      generalize hW2 : (W1.setCell ⟨qb, 4, none⟩ (.slice pu2 (p.fs.length + 1) ku2)) = W at *
      clear hW2
      have hb := hb2
      have hP := hP2
      have hQ := hQ2
      have hG := hG2
      clear hb2 hP2 hQ2 hG2 
      obtain ⟨Bk2, hBk2, hoo2⟩ : ∃ B, qb < B ∧ W.ownsRow B 30 5 (.slice pu2 (p.fs.length + 1) ku2) (p.fs.length + 1) (C4 ++ ([.string y.n, .string y.r, .slice q2 y.ps.length j2, .slice q3 y.vs.length j3, .slice q4 y.bs.length j4])) := ⟨_, hlWd, ho2⟩
      clear ho2 hWd hlW hlWd
      replace hQ : Box W qb [.bool p.ssa, .slice p1 p.cs.length k1, .slice p2 p.gs.length k2, .slice p3 p.xs.length k3, .slice pu2 (p.fs.length + 1) ku2] := hQ
      have hr4 : Row AtF 5 W (.slice pu2 (p.fs.length + 1) ku2) (p.fs ++ [y]) := (hC4.app hone).row hb (by rw [List.length_append]; exact hoo2) (by rw [List.length_append]; simp; omega)
      have hq : ValP W (.agg #[.bool p.ssa, .slice p1 p.cs.length k1, .slice p2 p.gs.length k2, .slice p3 p.xs.length k3, .slice pu2 (p.fs.length + 1) ku2]) ⟨p.ssa, p.cs, p.gs, p.xs, p.fs ++ [y]⟩ _ _ _ _ := ⟨rfl, Row.v' hb pc, pg.v hb, px.x hb, hr4⟩
      have hHd := heads_val (w := W) (Below.refl _ _) hq (fun f hf => (List.mem_append.1 hf).elim (hQ1.out.vfew f) (fun h => by
        obtain rfl : f = y := by simpa using h
        omega))
      rw [hw] at hHd
      clear hq hr4 hoo2 hw
      have hQ_0 := hQ.c 0 _ rfl
      have hQ_1 := hQ.c 1 _ rfl
      have hQ_2 := hQ.c 2 _ rfl
      have hQ_3 := hQ.c 3 _ rfl
      have hQ_4 := hQ.c 4 _ rfl
      go_wp2_with fail
      refine hHd.mono ?_
      rintro e w4 ⟨rfl, hd⟩
      replace hP := hP.nx hd
      replace hQ := hQ.nx hd
      replace hG := hG.nx hd
      replace hb := bthen' hb hd
      clear hd hHd hQ_0 hQ_1 hQ_2 hQ_3 hQ_4
      obtain ⟨W, rfl⟩ : ∃ W : World, W = w4 := ⟨_, rfl⟩
      have hG_0 := hG.c 0 _ rfl
      have hG_1 := hG.c 1 _ rfl
      have hG_2 := hG.c 2 _ rfl
      have hG_3 := hG.c 3 _ rfl
      have hG_4 := hG.c 4 _ rfl
      by_cases h1 : y.vs.length = 0
      · have h1I : ¬ (0 : Int) < (y.vs.length : Int) := by omega
        clear h1
        clear hC1 hC2 hC4 aC1 aC2 aC4 hone
        go_wp2_with fail
        go_meet
        case rel => exact ⟨hb, hP, _, _, _, _, hQ⟩
      · have h1I : (0 : Int) < (y.vs.length : Int) := by omega
        have h1N : 0 < y.vs.length := by omega
        have hne1 : ¬ y.vs = [] := fun e => h1 (by rw [e]; rfl)
        have hi' : t % y.vs.length < y.vs.length := Nat.mod_lt _ (by omega)
        have hmod1 : Int.tmod (t : Int) (y.vs.length : Int) = ((t % y.vs.length : Nat) : Int) := rfl
        generalize hii : t % y.vs.length = i at *
        have hiI : (i : Int) < (y.vs.length : Int) := by omega
        have hmem : y.vs[i] ∈ y.vs := List.getElem_mem hi'
        replace hw2 := Lib.hid (hw2.out _ hmem)
        obtain ⟨pq, cq, hpq, -, -, hl⟩ := id r3
        obtain ⟨a1, ha1, ⟨m0, s0⟩, m1, s1⟩ := hl i y.vs[i] (by simp)
        clear hl
        injection hpq with e1 _ e3
        subst e1
        subst e3
        subst ha1
        obtain ⟨C6, hC6, -, lC6, eC6, aC6⟩ := Row.cells elemV r2
        have honeF := hone
        have hone := Cells.v (w := w) s0 s1
        generalize y.vs[i] = v at *
        clear hmem h1
        have hbd := hb.drew
        have hPd := hP.drew
        have hQd := hQ.drew
        have hGd := hG.drew
        have hlW : fb < W.heap.size := hG.lt
        have hlWd : fb < W.drew.heap.size := hlW
        go_wp2_with fail
        generalize hWd : W.drew = Wd at *
        refine wp_region_serF (S := ApS Wd 0 3 13 14 16 40 2 (y.ps.length) (1) C6 ([.string v.n, .string v.t]) ([.string v.n, .string v.t]) ⟨fb, 2, none⟩) rfl (by kernel_rfl) (ApS.start (by rw [hWd]; exact Below.refl _ _)) ?_
        refine SerF.free (fun _ => rfl) (fun V L w1 K' Q' hS hi hR hd hK => ?_) ?_
        · have a3 := hR.out 3 0 (by kernel_rfl) hi
          have a6 := hR.out 14 3 (by kernel_rfl) a3
          have a8 := hR.out 16 0 (by kernel_rfl) hi
          go_simp
          (try simp only [Act.put, List.setIfInBounds_toArray, List.set_cons_zero, List.set_cons_succ])
          exact hK.out _ _ rfl (hS.made a8 a3 a6 (by decide) (by decide) (by decide) (by decide))
        (try simp only [Act.put, List.setIfInBounds_toArray, List.set_cons_zero, List.set_cons_succ])
        ((refine SerF.step (a1 := ?_) (fun _ => rfl) (fun V L w1 K' Q' hS hi hR hd hK => ?_) ?_ ?_ ?_; rotate_left); (· ((skip); go_simp; (try simp only [Act.put, List.setIfInBounds_toArray, List.set_cons_zero, List.set_cons_succ]); exact hK.out _ (hS.keep rfl rfl rfl rfl rfl))); (· (intro V; rfl)); (· (exact fun _ _ _ _ _ _ => rfl)))
        ((refine SerF.step (a1 := ?_) (fun _ => rfl) (fun V L w1 K' Q' hS hi hR hd hK => ?_) ?_ ?_ ?_; rotate_left); (· ((have a8 := hR.out 16 2 (by kernel_rfl) hi; have f2 := (hGd.below (by first | exact hGd.lt | (rw [← hWd]; exact hGd.lt)) (hS.below a8)).c 2 _ rfl); go_simp; (try simp only [Act.put, List.setIfInBounds_toArray, List.set_cons_zero, List.set_cons_succ]); exact hK.out _ (hS.keep rfl rfl rfl rfl rfl))); (· (intro V; rfl)); (· (exact fun _ _ _ _ _ _ => rfl)))
        refine SerF.free (fun _ => rfl) (fun V L w1 K' Q' hS hi hR hd hK => ?_) ?_
        · have a6 := hR.out 14 3 (by kernel_rfl) hi
          have a8 := hR.out 16 3 (by kernel_rfl) hi
          have e0 := hd.out 0 (by kernel_rfl)
          have ho := (hS.1 a8).2.1 e0 hi
          have hbl := hbd.trans ((hS.below a8).mono hbd.size)
          refine wp_append_any _ _ 23 rfl Wd.heap.size 40 iv _ 2 32 Try.underlying23 iv0 iv1 iv2 iv3 rfl (by decide) _ 0 [] rfl ho q2 (y.ps.length) _ C6 rfl eC6 lC6 (fun ad e j u hu => keepc hbl (aC6 ad e j u hu)) hC6.2.1 (by unfold maxLen; omega) (by omega) (hS.below a8).size (fun v' w' h1 h2 => ?_)
          have h1' : w'.ownsRow Wd.heap.size 40 2 v' (y.ps.length) C6 := by simpa using h1
          obtain ⟨pu2, ku2, rfl⟩ := own_sl h1'
          exact hK.out _ _ rfl (hS.first a8 e0 hi a6 (by decide) (by decide) (by decide) h1' h2)
        (try simp only [Act.put, List.setIfInBounds_toArray, List.set_cons_zero, List.set_cons_succ])
        ((refine SerF.step (a1 := ?_) (fun _ => rfl) (fun V L w1 K' Q' hS hi hR hd hK => ?_) ?_ ?_ ?_; rotate_left); (· ((skip); go_simp; (try simp only [Act.put, List.setIfInBounds_toArray, List.set_cons_zero, List.set_cons_succ]); exact hK.out _ (hS.keep rfl rfl rfl rfl rfl))); (· (intro V; rfl)); (· (exact fun _ _ _ _ _ _ => rfl)))
        ((refine SerF.step (a1 := ?_) (fun _ => rfl) (fun V L w1 K' Q' hS hi hR hd hK => ?_) ?_ ?_ ?_; rotate_left); (· ((have a8 := hR.out 16 5 (by kernel_rfl) hi; have f2 := (hGd.below (by first | exact hGd.lt | (rw [← hWd]; exact hGd.lt)) (hS.below a8)).c 3 _ rfl); go_simp; (try simp only [Act.put, List.setIfInBounds_toArray, List.set_cons_zero, List.set_cons_succ]); exact hK.out _ (hS.keep rfl rfl rfl rfl rfl))); (· (intro V; rfl)); (· (exact fun _ _ _ _ _ _ => rfl)))
        ((refine SerF.step (a1 := ?_) (fun _ => rfl) (fun V L w1 K' Q' hS hi hR hd hK => ?_) ?_ ?_ ?_; rotate_left); (· ((skip); go_simp; (try simp only [Act.put, List.setIfInBounds_toArray, List.set_cons_zero, List.set_cons_succ]); exact hK.out _ (hS.keep rfl rfl rfl rfl rfl))); (· (intro V; rfl)); (· (exact fun _ _ _ _ _ _ => rfl)))
        ((refine SerF.step (a1 := ?_) (fun _ => rfl) (fun V L w1 K' Q' hS hi hR hd hK => ?_) ?_ ?_ ?_; rotate_left); (· ((skip); go_simp; (try simp only [Act.put, List.setIfInBounds_toArray, List.set_cons_zero, List.set_cons_succ]); exact hK.out _ (hS.keep rfl rfl rfl rfl rfl))); (· (intro V; rfl)); (· (exact fun _ _ _ _ _ _ => rfl)))
        ((refine SerF.step (a1 := ?_) (fun _ => rfl) (fun V L w1 K' Q' hS hi hR hd hK => ?_) ?_ ?_ ?_; rotate_left); (· ((have a8 := hR.out 16 8 (by kernel_rfl) hi; have f2 := (hGd.below (by first | exact hGd.lt | (rw [← hWd]; exact hGd.lt)) (hS.below a8)).c 3 _ rfl); go_simp; (try simp only [Act.put, List.setIfInBounds_toArray, List.set_cons_zero, List.set_cons_succ]); exact hK.out _ (hS.keep rfl rfl rfl rfl rfl))); (· (intro V; rfl)); (· (exact fun _ _ _ _ _ _ => rfl)))
        ((refine SerF.step (a1 := ?_) (fun _ => rfl) (fun V L w1 K' Q' hS hi hR hd hK => ?_) ?_ ?_ ?_; rotate_left); (· ((skip); go_simp; (try simp only [Act.put, List.setIfInBounds_toArray, List.set_cons_zero, List.set_cons_succ]); exact hK.out _ (hS.keep rfl rfl rfl rfl rfl))); (· (intro V; rfl)); (· (exact fun _ _ _ _ _ _ => rfl)))
        ((refine SerF.step (a1 := ?_) (fun _ => rfl) (fun V L w1 K' Q' hS hi hR hd hK => ?_) ?_ ?_ ?_; rotate_left); (· ((skip); go_simp; (try simp only [Act.put, List.setIfInBounds_toArray, List.set_cons_zero, List.set_cons_succ]); exact hK.out _ (hS.keep rfl rfl rfl rfl rfl))); (· (intro V; rfl)); (· (exact fun _ _ _ _ _ _ => rfl)))
        ((refine SerF.step (a1 := ?_) (fun _ => rfl) (fun V L w1 K' Q' hS hi hR hd hK => ?_) ?_ ?_ ?_; rotate_left); (· ((skip); go_simp; (try simp only [Act.put, List.setIfInBounds_toArray, List.set_cons_zero, List.set_cons_succ]); exact hK.out _ (hS.keep rfl rfl rfl rfl rfl))); (· (intro V; rfl)); (· (exact fun _ _ _ _ _ _ => rfl)))
        ((refine SerF.step (a1 := ?_) (fun _ => rfl) (fun V L w1 K' Q' hS hi hR hd hK => ?_) ?_ ?_ ?_; rotate_left); (· ((have a8 := hR.out 16 12 (by kernel_rfl) hi; have hbl := hbd.trans ((hS.below a8).mono hbd.size); replace m0 := keepc hbl m0; replace m1 := keepc hbl m1); go_simp; (try simp only [Act.put, List.setIfInBounds_toArray, List.set_cons_zero, List.set_cons_succ]); exact hK.out _ (hS.keep rfl rfl rfl rfl rfl))); (· (intro V; rfl)); (· (exact fun _ _ _ _ _ _ => rfl)))
        refine SerF.free (fun _ => rfl) (fun V L w1 K' Q' hS hi hR hd hK => ?_) ?_
        · have a8 := hR.out 16 13 (by kernel_rfl) hi
          have a6 := hR.out 14 13 (by kernel_rfl) hi
          go_simp
          (try simp only [Act.put, List.setIfInBounds_toArray, List.set_cons_zero, List.set_cons_succ])
          exact hK.out _ _ rfl (hS.single a8 a6 (by decide) (by decide) (by decide) (by decide))
        (try simp only [Act.put, List.setIfInBounds_toArray, List.set_cons_zero, List.set_cons_succ])
        refine SerF.free (fun _ => rfl) (fun V L w1 K' Q' hS hi hR hd hK => ?_) ?_
        · have a8 := hR.out 16 14 (by kernel_rfl) hi
          have e3 := hd.out 3 (by kernel_rfl)
          have ho := (hS.1 a8).2.2.1 e3 hi
          have hbl := hbd.trans ((hS.below a8).mono hbd.size)
          obtain ⟨pu, ku, hV3⟩ := own_sl ho
          obtain ⟨pb, e5, pb1, pb2, hB5, -⟩ := (hS.1 a8).2.2.2.2 (hd.out 13 (by kernel_rfl)) hi
          refine wp_append_any _ _ 23 rfl Wd.heap.size 40 iv _ 2 32 Try.underlying23 iv0 iv1 iv2 iv3 rfl (by decide) _ (y.ps.length) _ rfl ho (some ⟨pb, 0, none⟩) 1 1 ([.string v.n, .string v.t]) e5 (fun e => by cases e) rfl (fun ad e j u hu => by injection e with e; subst e; rw [add_at, Nat.zero_add]; exact hB5.c j u hu) hone.2.1 (by unfold maxLen; omega) (by omega) (hS.below a8).size (fun v' w' h1 h2 => ?_)
          obtain ⟨pu2, ku2, rfl⟩ := own_sl h1
          exact hK.out _ _ rfl (hS.second a8 e3 hi (by decide) (by decide) h1 h2)
        (try simp only [Act.put, List.setIfInBounds_toArray, List.set_cons_zero, List.set_cons_succ])
        ((refine SerF.step (a1 := ?_) (fun _ => rfl) (fun V L w1 K' Q' hS hi hR hd hK => ?_) ?_ ?_ ?_; rotate_left); (· ((skip); go_simp; (try simp only [Act.put, List.setIfInBounds_toArray, List.set_cons_zero, List.set_cons_succ]); exact hK.out _ (hS.keep rfl rfl rfl rfl rfl))); (· (intro V; rfl)); (· (exact fun _ _ _ _ _ _ => rfl)))
        refine SerF.val undef (fun _ => rfl) (fun V L w1 K' Q' hS hi hR hd hK => ?_) ?_
        · have e6 := hd.out 14 (by kernel_rfl)
          have hbx := hS.below hi
          have hB := hGd.below (by first | exact hGd.lt | (rw [← hWd]; exact hGd.lt)) hbx
          have g := hB.c 2 _ rfl
          have gf := hB.f 2 (by simp)
          obtain ⟨pu, ku, hV6⟩ := own_sl ((hS.1 hi).2.2.2.1 e6)
          have hS2 := hS.stored hi e6
          rw [hV6] at hS2
          simp only [hV6]
          go_simp
          refine hK.out _ _ (by simp only [hV6]; rfl) hS2
        simp only [Act.put]
        refine SerF.nil fun V w1 hS => ?_
        obtain ⟨W1, pu3, ku3, hV6, hbx, ho3, rfl⟩ := hS.done rfl
        simp only [hV6]
        clear hS hV6
        replace hlWd : fb < Wd.heap.size := by first | exact hlWd | (rw [← hWd]; exact hlWd)
        have hb2 := (hbd.trans (hbx.mono hbd.size)).setCell (p := ⟨fb, 2, none⟩) (by dsimp only; omega) (.slice pu3 (y.ps.length + 1) ku3)
        have hP2 := (hPd.below hPd.lt hbx).far (q := ⟨fb, 2, none⟩) (by dsimp only; omega) (.slice pu3 (y.ps.length + 1) ku3)
        have hQ2 := (hQd.below hQd.lt hbx).far (q := ⟨fb, 2, none⟩) (by dsimp only; omega) (.slice pu3 (y.ps.length + 1) ku3)
        have hG2 := (hGd.below hGd.lt hbx).set (i := 2) (by simp) (.slice pu3 (y.ps.length + 1) ku3)
        replace ho3 := own_far (q := fb) (i := 2) (u := .slice pu3 (y.ps.length + 1) ku3) ho3 hlWd
        clear hb hbd hP hQ hG hPd hQd hGd  hbx
        generalize hW2 : (W1.setCell ⟨fb, 2, none⟩ (.slice pu3 (y.ps.length + 1) ku3)) = W at *
        clear hW2
        have hb := hb2
        have hP := hP2
        have hQ := hQ2
        have hG := hG2
        clear hb2 hP2 hQ2 hG2 
        obtain ⟨Bk3, hBk3, hoo3⟩ : ∃ B, fb < B ∧ W.ownsRow B 40 2 (.slice pu3 (y.ps.length + 1) ku3) (y.ps.length + 1) (C6 ++ ([.string v.n, .string v.t])) := ⟨_, hlWd, ho3⟩
        clear ho3 hWd hlW hlWd
        clear hG_0 hG_1 hG_2 hG_3 hG_4
        replace hG : Box W fb [.string y.n, .string y.r, .slice pu3 (y.ps.length + 1) ku3, .slice (some a1) y.vs.length j3, .slice q4 y.bs.length j4] := hG
        have hlq : qb < W.heap.size := hQ.lt
        have hlf : fb < W.heap.size := hG.lt
        have hne3' := fun k e => (hoo3.lt k e).2
        have hP4a := fun o => (hP.al o).c 4 _ rfl
        have hP4b := hP.c 4 _ rfl
        have hbl := hb.alloc hb.size (.cells #[] 30)
        go_wp2_with (at_builtin; (refine wpList_append_slice rfl _ _ 25 rfl W.heap.size 30 if' _ 5 104 Try.underlying25 if0 if1 if2 if3 rfl (by decide) _ 0 [] rfl (own_made' (Nat.le_refl _)) (some a0) p.fs.length k4 C4 rfl eC4 lC4 (fun ad e j u hu => keepc hbl (aC4 ad e j u hu)) hC4.2.1 ?c3 ?c4 ?c5 ?_))
        case c3 => unfold maxLen; omega
        case c4 => omega
        case c5 => simp
        intro v9 W9 hown9 hg9
        have hbx := ((Below.refl W.heap.size W).alloc (Nat.le_refl _) (.cells #[] 30)).grown hg9 (by simp) (fun g e => by cases e; exact Nat.le_refl _)
        replace hown9 : W9.ownsRow W.heap.size 30 5 v9 p.fs.length C4 := hown9
        obtain ⟨pu9, ku9, rfl⟩ := own_sl hown9
        obtain ⟨g, rfl⟩ : ∃ g, pu9 = some ⟨g, 0, none⟩ := by
          rcases hown9.2 with ⟨e, h⟩ | ⟨g, cap, cur, e, _⟩
          · omega
          · injection e with e _ _
            exact ⟨g, e⟩
        have hgB := (hown9.lt g rfl).1
        replace hP := (hP.nx hbx)
        replace hQ := (hQ.nx hbx)
        replace hG := (hG.nx hbx)
        replace hb := bthen' hb hbx
        replace hoo3 := own_next hoo3 hbx (Nat.le_refl _)
        have hQ4 := hQ.c 4 _ rfl
        have fQ4 := hQ.f 4 (by simp)
        clear hP4a hP4b hbl hg9
        go_wp2_with fail
        clear hQ4 fQ4
        replace hb := hb.setCell (p := ⟨qb, 4, none⟩) hqw (.slice (some ⟨g, 0, none⟩) p.fs.length ku9)
        replace hP := hP.far (q := ⟨qb, 4, none⟩) (by dsimp only; omega) (.slice (some ⟨g, 0, none⟩) p.fs.length ku9)
        replace hG := hG.far (q := ⟨qb, 4, none⟩) (by dsimp only; omega) (.slice (some ⟨g, 0, none⟩) p.fs.length ku9)
        replace hQ := hQ.set (i := 4) (by simp) (.slice (some ⟨g, 0, none⟩) p.fs.length ku9)
        replace hoo3 := own_far (q := qb) (i := 4) (u := .slice (some ⟨g, 0, none⟩) p.fs.length ku9) hoo3 (by omega)
        replace hown9 := own_far (q := qb) (i := 4) (u := .slice (some ⟨g, 0, none⟩) p.fs.length ku9) hown9 (by omega)
        clear hbx
        generalize (W9.setCell ⟨qb, 4, none⟩ (.slice (some ⟨g, 0, none⟩) p.fs.length ku9)) = W8 at *
        replace hQ : Box W8 qb [.bool p.ssa, .slice p1 p.cs.length k1, .slice p2 p.gs.length k2, .slice p3 p.xs.length k3, .slice (some ⟨g, 0, none⟩) p.fs.length ku9] := hQ
        have hcl4 := hown9.1
        have hj5 : j * 5 + 5 ≤ C4.length := by omega
        have x0 : ∃ u, W8.cell? ⟨g, j * 5, none⟩ = some u := ⟨_, (hown9.cellAt (j * 5) (by omega)).trans (List.getElem?_eq_getElem (by omega))⟩
        obtain ⟨w0, x0⟩ := x0
        have x1 : ∃ u, W8.cell? ⟨g, j * 5 + 1, none⟩ = some u := ⟨_, (hown9.cellAt (j * 5 + 1) (by omega)).trans (List.getElem?_eq_getElem (by omega))⟩
        obtain ⟨w1', x1⟩ := x1
        have x2 : ∃ u, W8.cell? ⟨g, j * 5 + 2, none⟩ = some u := ⟨_, (hown9.cellAt (j * 5 + 2) (by omega)).trans (List.getElem?_eq_getElem (by omega))⟩
        obtain ⟨w2', x2⟩ := x2
        have x3 : ∃ u, W8.cell? ⟨g, j * 5 + 3, none⟩ = some u := ⟨_, (hown9.cellAt (j * 5 + 3) (by omega)).trans (List.getElem?_eq_getElem (by omega))⟩
        obtain ⟨w3', x3⟩ := x3
        have x4 : ∃ u, W8.cell? ⟨g, j * 5 + 4, none⟩ = some u := ⟨_, (hown9.cellAt (j * 5 + 4) (by omega)).trans (List.getElem?_eq_getElem (by omega))⟩
        obtain ⟨w4', x4⟩ := x4
        have y0 := hown9.frozenAt (j * 5)
        have y1 := hown9.frozenAt (j * 5 + 1)
        have y2 := hown9.frozenAt (j * 5 + 2)
        have y3 := hown9.frozenAt (j * 5 + 3)
        have y4 := hown9.frozenAt (j * 5 + 4)
        have hQ4 := hQ.c 4 _ rfl
        have hP4 := hP.c 4 _ rfl
        have hG_0 := hG.c 0 _ rfl
        have hG_1 := hG.c 1 _ rfl
        have hG_2 := hG.c 2 _ rfl
        have hG_3 := hG.c 3 _ rfl
        have hG_4 := hG.c 4 _ rfl
        go_wp2_with fail
        have zx1 : (W8.setCell ⟨g, j * 5, none⟩ (.string y.n)).drew.cell? ⟨g, j * 5 + 1, none⟩ = some w1' := by
          show (W8.setCell ⟨g, j * 5, none⟩ (.string y.n)).cell? _ = _
          rw [World.cell?_setCell_other _ _ _ _ (by intro e; have := congrArg Addr.off e; simp at this)]
          exact x1
        have zy1 : (W8.setCell ⟨g, j * 5, none⟩ (.string y.n)).drew.frozen? ⟨g, j * 5 + 1, none⟩ = false := by
          show (W8.setCell ⟨g, j * 5, none⟩ (.string y.n)).frozen? _ = _
          rw [World.frozen?_setCell]
          exact y1
        have zx2 : ((W8.setCell ⟨g, j * 5, none⟩ (.string y.n)).setCell ⟨g, j * 5 + 1, none⟩ (.string y.r)).drew.cell? ⟨g, j * 5 + 2, none⟩ = some w2' := by
          show ((W8.setCell ⟨g, j * 5, none⟩ (.string y.n)).setCell ⟨g, j * 5 + 1, none⟩ (.string y.r)).cell? _ = _
          rw [World.cell?_setCell_other _ _ _ _ (by intro e; have := congrArg Addr.off e; simp at this), World.cell?_setCell_other _ _ _ _ (by intro e; have := congrArg Addr.off e; simp at this)]
          exact x2
        have zy2 : ((W8.setCell ⟨g, j * 5, none⟩ (.string y.n)).setCell ⟨g, j * 5 + 1, none⟩ (.string y.r)).drew.frozen? ⟨g, j * 5 + 2, none⟩ = false := by
          show ((W8.setCell ⟨g, j * 5, none⟩ (.string y.n)).setCell ⟨g, j * 5 + 1, none⟩ (.string y.r)).frozen? _ = _
          rw [World.frozen?_setCell, World.frozen?_setCell]
          exact y2
        have zx3 : (((W8.setCell ⟨g, j * 5, none⟩ (.string y.n)).setCell ⟨g, j * 5 + 1, none⟩ (.string y.r)).setCell ⟨g, j * 5 + 2, none⟩ (.slice pu3 (y.ps.length + 1) ku3)).drew.cell? ⟨g, j * 5 + 3, none⟩ = some w3' := by
          show (((W8.setCell ⟨g, j * 5, none⟩ (.string y.n)).setCell ⟨g, j * 5 + 1, none⟩ (.string y.r)).setCell ⟨g, j * 5 + 2, none⟩ (.slice pu3 (y.ps.length + 1) ku3)).cell? _ = _
          rw [World.cell?_setCell_other _ _ _ _ (by intro e; have := congrArg Addr.off e; simp at this), World.cell?_setCell_other _ _ _ _ (by intro e; have := congrArg Addr.off e; simp at this), World.cell?_setCell_other _ _ _ _ (by intro e; have := congrArg Addr.off e; simp at this)]
          exact x3
        have zy3 : (((W8.setCell ⟨g, j * 5, none⟩ (.string y.n)).setCell ⟨g, j * 5 + 1, none⟩ (.string y.r)).setCell ⟨g, j * 5 + 2, none⟩ (.slice pu3 (y.ps.length + 1) ku3)).drew.frozen? ⟨g, j * 5 + 3, none⟩ = false := by
          show (((W8.setCell ⟨g, j * 5, none⟩ (.string y.n)).setCell ⟨g, j * 5 + 1, none⟩ (.string y.r)).setCell ⟨g, j * 5 + 2, none⟩ (.slice pu3 (y.ps.length + 1) ku3)).frozen? _ = _
          rw [World.frozen?_setCell, World.frozen?_setCell, World.frozen?_setCell]
          exact y3
        have zx4 : ((((W8.setCell ⟨g, j * 5, none⟩ (.string y.n)).setCell ⟨g, j * 5 + 1, none⟩ (.string y.r)).setCell ⟨g, j * 5 + 2, none⟩ (.slice pu3 (y.ps.length + 1) ku3)).setCell ⟨g, j * 5 + 3, none⟩ (.slice (some a1) y.vs.length j3)).drew.cell? ⟨g, j * 5 + 4, none⟩ = some w4' := by
          show ((((W8.setCell ⟨g, j * 5, none⟩ (.string y.n)).setCell ⟨g, j * 5 + 1, none⟩ (.string y.r)).setCell ⟨g, j * 5 + 2, none⟩ (.slice pu3 (y.ps.length + 1) ku3)).setCell ⟨g, j * 5 + 3, none⟩ (.slice (some a1) y.vs.length j3)).cell? _ = _
          rw [World.cell?_setCell_other _ _ _ _ (by intro e; have := congrArg Addr.off e; simp at this), World.cell?_setCell_other _ _ _ _ (by intro e; have := congrArg Addr.off e; simp at this), World.cell?_setCell_other _ _ _ _ (by intro e; have := congrArg Addr.off e; simp at this), World.cell?_setCell_other _ _ _ _ (by intro e; have := congrArg Addr.off e; simp at this)]
          exact x4
        have zy4 : ((((W8.setCell ⟨g, j * 5, none⟩ (.string y.n)).setCell ⟨g, j * 5 + 1, none⟩ (.string y.r)).setCell ⟨g, j * 5 + 2, none⟩ (.slice pu3 (y.ps.length + 1) ku3)).setCell ⟨g, j * 5 + 3, none⟩ (.slice (some a1) y.vs.length j3)).drew.frozen? ⟨g, j * 5 + 4, none⟩ = false := by
          show ((((W8.setCell ⟨g, j * 5, none⟩ (.string y.n)).setCell ⟨g, j * 5 + 1, none⟩ (.string y.r)).setCell ⟨g, j * 5 + 2, none⟩ (.slice pu3 (y.ps.length + 1) ku3)).setCell ⟨g, j * 5 + 3, none⟩ (.slice (some a1) y.vs.length j3)).frozen? _ = _
          rw [World.frozen?_setCell, World.frozen?_setCell, World.frozen?_setCell, World.frozen?_setCell]
          exact y4
        refine wp_region_ser (S := SStore 9 (fun v => v = W8.drew) (fun v => v = (((((W8.setCell ⟨g, j * 5, none⟩ (.string y.n)).setCell ⟨g, j * 5 + 1, none⟩ (.string y.r)).setCell ⟨g, j * 5 + 2, none⟩ (.slice pu3 (y.ps.length + 1) ku3)).setCell ⟨g, j * 5 + 3, none⟩ (.slice (some a1) y.vs.length j3)).setCell ⟨g, j * 5 + 4, none⟩ (.slice q4 y.bs.length j4)).drew)) rfl (by kernel_rfl) (SStore.start rfl) ?_
        iterate 9 (first | ((refine Ser.step (a1 := ?_) rfl (fun L w1 K' Q' hS hi hR hd hK => ?_) ?_ ?_; rotate_left); (· ((have e0 := hS.1 (hR.out 9 _ (by kernel_rfl) hi); subst e0); go_simp; (try simp only [Act.put, List.setIfInBounds_toArray, List.set_cons_zero, List.set_cons_succ]); exact hK.out _ (hS.pass rfl))); (· rfl)))
        (refine Ser.step (a1 := ?_) rfl (fun L w1 K' Q' hS hi hR hd hK => ?_) ?_ ?_; rotate_left)
        · have e0 := hS.1 hi
          subst e0
          go_simp
          exact hK.out _ (SStore.done rfl)
        · rfl
        refine Ser.nil fun w4 hS4 => ?_
        have e4 := hS4.2 rfl
        subst e4
        have hj5' : g ≠ w.heap.size := by omega
        have hgq : g ≠ qb := by omega
        have hne3 : (Value.slice pu3 (y.ps.length + 1) ku3).ownBlock ≠ some g := fun e => by have := hne3' _ e; omega
        have hown10 := own_next (own_set5 (b := j * 5) (v0 := .string y.n) (v1 := .string y.r) (v2 := .slice pu3 (y.ps.length + 1) ku3) (v3 := .slice (some a1) y.vs.length j3) (v4 := .slice q4 y.bs.length j4) hown9) (Below.refl (((((W8.setCell ⟨g, j * 5, none⟩ (.string y.n)).setCell ⟨g, j * 5 + 1, none⟩ (.string y.r)).setCell ⟨g, j * 5 + 2, none⟩ (.slice pu3 (y.ps.length + 1) ku3)).setCell ⟨g, j * 5 + 3, none⟩ (.slice (some a1) y.vs.length j3)).setCell ⟨g, j * 5 + 4, none⟩ (.slice q4 y.bs.length j4)).heap.size (((((W8.setCell ⟨g, j * 5, none⟩ (.string y.n)).setCell ⟨g, j * 5 + 1, none⟩ (.string y.r)).setCell ⟨g, j * 5 + 2, none⟩ (.slice pu3 (y.ps.length + 1) ku3)).setCell ⟨g, j * 5 + 3, none⟩ (.slice (some a1) y.vs.length j3)).setCell ⟨g, j * 5 + 4, none⟩ (.slice q4 y.bs.length j4))).drew (Nat.le_refl _)
        have hP10 := (((((hP.far (q := ⟨g, j * 5, none⟩) hj5' (.string y.n)).far (q := ⟨g, j * 5 + 1, none⟩) hj5' (.string y.r)).far (q := ⟨g, j * 5 + 2, none⟩) hj5' (.slice pu3 (y.ps.length + 1) ku3)).far (q := ⟨g, j * 5 + 3, none⟩) hj5' (.slice (some a1) y.vs.length j3)).far (q := ⟨g, j * 5 + 4, none⟩) hj5' (.slice q4 y.bs.length j4)).drew
        have hQ10 := (((((hQ.far (q := ⟨g, j * 5, none⟩) hgq (.string y.n)).far (q := ⟨g, j * 5 + 1, none⟩) hgq (.string y.r)).far (q := ⟨g, j * 5 + 2, none⟩) hgq (.slice pu3 (y.ps.length + 1) ku3)).far (q := ⟨g, j * 5 + 3, none⟩) hgq (.slice (some a1) y.vs.length j3)).far (q := ⟨g, j * 5 + 4, none⟩) hgq (.slice q4 y.bs.length j4)).drew
        have hwg : w.heap.size ≤ g := by omega
        have hb10 := (((((hb.setCell (p := ⟨g, j * 5, none⟩) hwg (.string y.n)).setCell (p := ⟨g, j * 5 + 1, none⟩) hwg (.string y.r)).setCell (p := ⟨g, j * 5 + 2, none⟩) hwg (.slice pu3 (y.ps.length + 1) ku3)).setCell (p := ⟨g, j * 5 + 3, none⟩) hwg (.slice (some a1) y.vs.length j3)).setCell (p := ⟨g, j * 5 + 4, none⟩) hwg (.slice q4 y.bs.length j4)).drew
        clear zx1 zx2 zx3 zx4 zy1 zy2 zy3 zy4 x0 x1 x2 x3 x4 y0 y1 y2 y3 y4 hQ4 hP4 hG_0 hG_1 hG_2 hG_3 hG_4
        have hoo10 := own_next (own_far2 (q := g) (i := j * 5 + 4) (u := .slice q4 y.bs.length j4) (own_far2 (q := g) (i := j * 5 + 3) (u := .slice (some a1) y.vs.length j3) (own_far2 (q := g) (i := j * 5 + 2) (u := .slice pu3 (y.ps.length + 1) ku3) (own_far2 (q := g) (i := j * 5 + 1) (u := .string y.r) (own_far2 (q := g) (i := j * 5) (u := .string y.n) hoo3 hne3) hne3) hne3) hne3) hne3) (Below.refl (((((W8.setCell ⟨g, j * 5, none⟩ (.string y.n)).setCell ⟨g, j * 5 + 1, none⟩ (.string y.r)).setCell ⟨g, j * 5 + 2, none⟩ (.slice pu3 (y.ps.length + 1) ku3)).setCell ⟨g, j * 5 + 3, none⟩ (.slice (some a1) y.vs.length j3)).setCell ⟨g, j * 5 + 4, none⟩ (.slice q4 y.bs.length j4)).heap.size (((((W8.setCell ⟨g, j * 5, none⟩ (.string y.n)).setCell ⟨g, j * 5 + 1, none⟩ (.string y.r)).setCell ⟨g, j * 5 + 2, none⟩ (.slice pu3 (y.ps.length + 1) ku3)).setCell ⟨g, j * 5 + 3, none⟩ (.slice (some a1) y.vs.length j3)).setCell ⟨g, j * 5 + 4, none⟩ (.slice q4 y.bs.length j4))).drew (Nat.le_refl _)
        have hlen8 : W8.heap.size = W8.heap.size := rfl
        clear hown9 hoo3 hP hQ hG hb hS4 hlen8
        have hwy := hw2.out
        generalize ((((((W8.setCell ⟨g, j * 5, none⟩ (.string y.n)).setCell ⟨g, j * 5 + 1, none⟩ (.string y.r)).setCell ⟨g, j * 5 + 2, none⟩ (.slice pu3 (y.ps.length + 1) ku3)).setCell ⟨g, j * 5 + 3, none⟩ (.slice (some a1) y.vs.length j3)).setCell ⟨g, j * 5 + 4, none⟩ (.slice q4 y.bs.length j4))).drew = W10 at *
        have hrp : Row AtV 2 W10 (.slice pu3 (y.ps.length + 1) ku3) (y.ps ++ [v]) := (hC6.app hone).row hb10 (by rw [List.length_append]; exact hoo10) (by rw [List.length_append]; simp; omega)
        have hcy := Cells.f (w := W10) (x := ⟨y.n, y.r, y.ps ++ [v], y.vs, y.bs⟩) ⟨z0, z1⟩ hrp (r3.v hb10) (r4.bk hb10)
        have hfr := row_set5 hlj hC4 hb10 hown10 hcy (by omega)
        have hq : ValP W10 (.agg #[.bool p.ssa, .slice p1 p.cs.length k1, .slice p2 p.gs.length k2, .slice p3 p.xs.length k3, .slice (some ⟨g, 0, none⟩) p.fs.length ku9]) ⟨p.ssa, p.cs, p.gs, p.xs, p.fs.set j ⟨y.n, y.r, y.ps ++ [v], y.vs, y.bs⟩⟩ _ _ _ _ := ⟨rfl, Row.v' hb10 pc, pg.v hb10, px.x hb10, hfr⟩
        have hHd := heads_val (w := W10) (Below.refl _ _) hq (fun f hf => (List.mem_or_eq_of_mem_set hf).elim (hQ1.out.vfew f) (fun h => by
          subst h
          simp only [List.length_append, List.length_singleton]
          omega))
        rw [hwy] at hHd
        clear hq hfr hcy hrp hoo10 hown10 hwy
        have hQ10_0 := hQ10.c 0 _ rfl
        have hQ10_1 := hQ10.c 1 _ rfl
        have hQ10_2 := hQ10.c 2 _ rfl
        have hQ10_3 := hQ10.c 3 _ rfl
        have hQ10_4 := hQ10.c 4 _ rfl
        go_wp2_with fail
        refine hHd.mono ?_
        rintro e w5 ⟨rfl, hd⟩
        replace hP10 := hP10.nx hd
        replace hQ10 := hQ10.nx hd
        replace hb10 := bthen' hb10 hd
        clear hd hHd hQ10_0 hQ10_1 hQ10_2 hQ10_3 hQ10_4
        go_wp2_with fail
        go_meet
        case rel => exact ⟨hb10, hP10, _, _, _, _, hQ10⟩
  case rest =>
  clear hb hP hQ
  obtain ⟨hb, hP, d1, d2, d3, d4, hQ⟩ := hcut
  obtain ⟨W, rfl⟩ : ∃ W : World, W = wc := ⟨_, rfl⟩
  have hP_0 := hP.c 0 _ rfl
  have hP_1 := hP.c 1 _ rfl
  have hP_2 := hP.c 2 _ rfl
  have hP_3 := hP.c 3 _ rfl
  have hP_4 := hP.c 4 _ rfl
  have hQ_0 := hQ.c 0 _ rfl
  have hQ_1 := hQ.c 1 _ rfl
  have hQ_2 := hQ.c 2 _ rfl
  have hQ_3 := hQ.c 3 _ rfl
  have hQ_4 := hQ.c 4 _ rfl
  have gf0 := hQ.f 0 (by simp)
  have gf1 := hQ.f 1 (by simp)
  have gf2 := hQ.f 2 (by simp)
  have gf3 := hQ.f 3 (by simp)
  have gf4 := hQ.f 4 (by simp)
  go_upto_region 22 with fail
  clear hP_0 hP_1 hP_2 hP_3 hP_4 hQ_0 hQ_1 hQ_2 hQ_3 hQ_4 gf0 gf1 gf2 gf3 gf4
  replace hQ : Box _ qb [.bool p.ssa, .slice p1 p.cs.length k1, .slice p2 p.gs.length k2, .slice p3 p.xs.length k3, .slice p4 p.fs.length k4] := ((((hQ.set (i := 0) (by simp) (.bool p.ssa)).set (i := 1) (by simp) (.slice p1 p.cs.length k1)).set (i := 2) (by simp) (.slice p2 p.gs.length k2)).set (i := 3) (by simp) (.slice p3 p.xs.length k3)).set (i := 4) (by simp) (.slice p4 p.fs.length k4)
  replace hP := ((((hP.far (q := ⟨qb, 0, none⟩) (by dsimp only; omega) (.bool p.ssa)).far (q := ⟨qb, 1, none⟩) (by dsimp only; omega) (.slice p1 p.cs.length k1)).far (q := ⟨qb, 2, none⟩) (by dsimp only; omega) (.slice p2 p.gs.length k2)).far (q := ⟨qb, 3, none⟩) (by dsimp only; omega) (.slice p3 p.xs.length k3)).far (q := ⟨qb, 4, none⟩) (by dsimp only; omega) (.slice p4 p.fs.length k4)
  replace hb := ((((hb.setCell (p := ⟨qb, 0, none⟩) hqw (.bool p.ssa)).setCell (p := ⟨qb, 1, none⟩) hqw (.slice p1 p.cs.length k1)).setCell (p := ⟨qb, 2, none⟩) hqw (.slice p2 p.gs.length k2)).setCell (p := ⟨qb, 3, none⟩) hqw (.slice p3 p.xs.length k3)).setCell (p := ⟨qb, 4, none⟩) hqw (.slice p4 p.fs.length k4)
  generalize hW2 : (((((W.setCell ⟨qb, 0, none⟩ (.bool p.ssa)).setCell ⟨qb, 1, none⟩ (.slice p1 p.cs.length k1)).setCell ⟨qb, 2, none⟩ (.slice p2 p.gs.length k2)).setCell ⟨qb, 3, none⟩ (.slice p3 p.xs.length k3)).setCell ⟨qb, 4, none⟩ (.slice p4 p.fs.length k4)) = W at *
  clear hW2
  have hlq : qb < W.heap.size := hQ.lt
  have hcg := hQ1.out.g
  have hPa := fun o => (hP.al o).c 2 _ rfl
  have hPb := hP.c 2 _ rfl
  have hbl := hb.alloc hb.size (.cells #[] 40)
  go_wp2_with (at_builtin; (refine wpList_append_slice rfl _ _ 23 rfl W.heap.size 40 iv _ 2 32 Try.underlying23 iv0 iv1 iv2 iv3 rfl (by decide) _ 0 [] rfl (own_made' (Nat.le_refl _)) p2 p.gs.length k2 C2 rfl eC2 lC2 (fun ad e j u hu => keepc hbl (aC2 ad e j u hu)) hC2.2.1 ?c3 ?c4 ?c5 ?_))
  case c3 => unfold maxLen; omega
  case c4 => omega
  case c5 => simp
  intro v9 W9 hown9 hg9
  have hbx := ((Below.refl W.heap.size W).alloc (Nat.le_refl _) (.cells #[] 40)).grown hg9 (by simp) (fun g e => by cases e; exact Nat.le_refl _)
  replace hown9 : W9.ownsRow W.heap.size 40 2 v9 p.gs.length C2 := by simpa using hown9
  obtain ⟨pu9, ku9, rfl⟩ := own_sl hown9
  clear hPa hPb hbl hg9
  have hone := Cells.v (w := w) (x := ⟨⟨#[120, 32, 49]⟩, ⟨#[120, 32, 50]⟩⟩) (by decide) (by decide)
  go_wp2_with (at_builtin; (refine wpList_append_slice rfl _ _ 23 rfl W.heap.size 40 iv _ 2 32 Try.underlying23 iv0 iv1 iv2 iv3 rfl (by decide) _ p.gs.length C2 rfl (World.ownsRow.alloc hown9 _) (some ⟨W9.heap.size, 0, none⟩) 1 1 [.string ⟨#[120, 32, 49]⟩, .string ⟨#[120, 32, 50]⟩] rfl (fun e => by cases e) rfl (fun ad e j u hu => by injection e with e; subst e; rw [add_at, Nat.zero_add]; exact (Box.alloc W9 [.string ⟨#[120, 32, 49]⟩, .string ⟨#[120, 32, 50]⟩] 40).c j u hu) hone.2.1 ?c3 ?c4 ?c5 ?_))
  case c3 => unfold maxLen; omega
  case c4 => omega
  case c5 => have := hbx.size; simp; omega
  intro v10 W10 hown10 hg10
  obtain ⟨pu10, ku10, rfl⟩ := own_sl hown10
  have hby := (hbx.alloc hbx.size (.cells #[.string ⟨#[120, 32, 49]⟩, .string ⟨#[120, 32, 50]⟩] 40)).grown hg10 (by have := hbx.size; simp; omega) (fun g e => (hown9.lt g e).1)
  replace hP := hP.nx hby
  replace hQ := hQ.nx hby
  replace hb := bthen' hb hby
  have hQ2 := hQ.c 2 _ rfl
  have fQ2 := hQ.f 2 (by simp)
  clear hbx hby hg10 hown9
  go_upto_region 23 with fail
  clear hQ2 fQ2
  replace hb := hb.setCell (p := ⟨qb, 2, none⟩) hqw (.slice pu10 (p.gs.length + 1) ku10)
  replace hP := hP.far (q := ⟨qb, 2, none⟩) (by dsimp only; omega) (.slice pu10 (p.gs.length + 1) ku10)
  replace hQ := hQ.set (i := 2) (by simp) (.slice pu10 (p.gs.length + 1) ku10)
  replace hown10 := own_far (q := qb) (i := 2) (u := .slice pu10 (p.gs.length + 1) ku10) hown10 (by omega)
  generalize (W10.setCell ⟨qb, 2, none⟩ (.slice pu10 (p.gs.length + 1) ku10)) = W8 at *
  replace hQ : Box W8 qb [.bool p.ssa, .slice p1 p.cs.length k1, .slice pu10 (p.gs.length + 1) ku10, .slice p3 p.xs.length k3, .slice p4 p.fs.length k4] := hQ
  have hC := lookC_val (w := W8) hb hpv ⟨#[120, 32, 50]⟩
  have hng := names_gs p (x := ⟨⟨#[120, 32, 49]⟩, ⟨#[120, 32, 50]⟩⟩) (by decide) (by decide)
  dsimp only at hng
  replace hng := Lib.hid hng
  have hP_0 := hP.c 0 _ rfl
  have hP_1 := hP.c 1 _ rfl
  have hP_2 := hP.c 2 _ rfl
  have hP_3 := hP.c 3 _ rfl
  have hP_4 := hP.c 4 _ rfl
  go_wp2_with fail
  refine hC.mono ?_
  rintro e w5 ⟨hd, ho⟩
  obtain ⟨q5, c5, rfl⟩ := ho.form
  clear hC hP_0 hP_1 hP_2 hP_3 hP_4
  generalize findB Cl.n ⟨#[120, 32, 50]⟩ p.cs = r at *
  replace hQ := hQ.nx hd
  replace hb := bthen' hb hd
  replace hown10 := own_next hown10 hd (Nat.le_refl _)
  have hbA := hb.alloc hb.size (.cells #[.string (cN r), .slice q5 (cL r) c5] 36)
  have hQA := hQ.al (.cells #[.string (cN r), .slice q5 (cL r) c5] 36)
  replace hown10 := World.ownsRow.alloc hown10 (.cells #[.string (cN r), .slice q5 (cL r) c5] 36)
  generalize his : r.isSome = ok at *
  cases ok
  · have hw := hng.out (by simp)
    have hr2 : Row AtV 2 _ (.slice pu10 (p.gs.length + 1) ku10) (p.gs ++ [⟨⟨#[120, 32, 49]⟩, ⟨#[120, 32, 50]⟩⟩]) := (hC2.app hone).row hbA (by rw [List.length_append]; exact hown10) (by rw [List.length_append]; simp; omega)
    have hq : ValP _ (.agg #[.bool p.ssa, .slice p1 p.cs.length k1, .slice pu10 (p.gs.length + 1) ku10, .slice p3 p.xs.length k3, .slice p4 p.fs.length k4]) ⟨p.ssa, p.cs, p.gs ++ [⟨⟨#[120, 32, 49]⟩, ⟨#[120, 32, 50]⟩⟩], p.xs, p.fs⟩ _ _ _ _ := ⟨rfl, Row.v' hbA pc, hr2, px.x hbA, pf.fn hbA⟩
    have hHd := heads_val (Below.refl _ _) hq hQ1.out.vfew
    rw [hw] at hHd
    clear hq hr2 hw hng his
    have hQA_0 := hQA.c 0 _ rfl
    have hQA_1 := hQA.c 1 _ rfl
    have hQA_2 := hQA.c 2 _ rfl
    have hQA_3 := hQA.c 3 _ rfl
    have hQA_4 := hQA.c 4 _ rfl
    go_wp2_with fail
    refine hHd.mono ?_
    rintro e w6 ⟨rfl, hd⟩
    replace hbA := bthen' hbA hd
    clear hHd hd hQA_0 hQA_1 hQA_2 hQA_3 hQA_4
    go_wp2_with fail
    go_ret
    exact ⟨rfl, hbA⟩
  · clear hQ hQA hng his
    go_wp2_with fail
    go_ret
    exact ⟨rfl, hbA⟩
section
open Go.ChangeShapes Go.WideShapes Go.ChangeAt Go.Deep
variable (H : Type) (enc : TypeId × Value → H) (W : World) (base : Nat) (args : Array Value) (ds gs : List (DataW H)) (before : List MemPlace)
set_option maxRecDepth 100000 in
theorem typesNames_all (hval : ∀ (j : Nat) t v, Try.f7.params[j]? = some t → args[j]? = some v → Value.okWide Try.prog W .any base t v)
    (hW : DataW.Whole enc Try.prog Try.f7.params.toList Rows.typesNamesSpec.vars false W args.toList ds gs before)
    (hk : (DataW.weightsEach Try.prog (Try.f7.params.toList ++ Rows.typesNamesSpec.plain.varTypes Try.prog) (ds ++ gs)).all (· ≤ reachBytes) = true) :
    Calls Try.prog 7 args W fun e W' => e = .returned (.bool true) ∧ Below W.heap.size W W' := by
  obtain ⟨p, q, hA0, hV, rfl, _, _⟩ := hW
  have hA : DataW.TrodAll enc Try.prog W 0 (fun _ => true) true Try.f7.params.toList args.toList ds p := hA0
  rw [Try.params7] at hA hval hk
  obtain ⟨v0, vs0, d0, ds0, p0, q0, hargs, rfl, rfl, h0, r0⟩ := trodAll_cons hA
  obtain ⟨v1, vs1, d1, ds1, p1, q1, rfl, rfl, rfl, h1, r1⟩ := trodAll_cons r0
  obtain ⟨rfl, rfl, rfl⟩ := trodAll_nil r1
  obtain rfl : args = #[v0, v1] := by cases args; simp_all
  obtain ⟨c0, rfl, k0⟩ := rd_of Try.underlying27 (hval 0 _ v0 rfl rfl) h0 (wt_of hk (j := 0) rfl rfl)
  obtain ⟨p, u1, u2, u3, u4, hp⟩ := in_p k0
  obtain ⟨t, rfl, _, _, hw⟩ := open_int Try.underlying5 (hval 1 _ v1 rfl rfl) h1
  have hu := u8_wf hw
  obtain ⟨m, rfl⟩ : ∃ m : Nat, t = (m : Int) := ⟨t.toNat, by omega⟩
  exact names_walk hp m (by omega)
end
end Go.Proofs.Ytjohjpjpfglkkaa
