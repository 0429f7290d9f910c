/- lateenref06.sameBlock, SameFunc, of equal things: true. -/
import Derived.Test.YtjohjpjpfglkkaaSan
import Derived.Test.YtjohjpjpfglkkaaFew
namespace Go.Proofs.Ytjohjpjpfglkkaa
open Go.RowKit

theorem AtI.val {w : World} {a : Addr} {x : Is} (h : AtI w a x) : ∃ u1 u2 u3, ValI w (.agg #[.int .i64 x.op, .string x.d, .string x.n, u1, u2, u3]) x u1 u2 u3 ∧
    w.cell? a = some (.int .i64 x.op) ∧ At w a 1 (.string x.d) ∧ At w a 2 (.string x.n) ∧ At w a 3 u1 ∧ At w a 4 u2 ∧ At w a 5 u3 := by
  obtain ⟨h0, ⟨h1, z1⟩, ⟨h2, z2⟩, ⟨u1, h3, r1⟩, ⟨u2, h4, r2⟩, u3, h5, r3⟩ := h
  exact ⟨u1, u2, u3, ⟨rfl, ⟨z1, z2⟩, r1, r2, r3⟩, h0, h1, h2, h3, h4, h5⟩
theorem AtF.val {w : World} {a : Addr} {x : Fn} (h : AtF w a x) : ∃ u1 u2 u3, ValF w (.agg #[.string x.n, .string x.r, u1, u2, u3]) x u1 u2 u3 ∧
    w.cell? a = some (.string x.n) ∧ At w a 1 (.string x.r) ∧ At w a 2 u1 ∧ At w a 3 u2 ∧ At w a 4 u3 := by
  obtain ⟨⟨h1, z1⟩, ⟨h2, z2⟩, ⟨u1, h3, r1⟩, ⟨u2, h4, r2⟩, u3, h5, r3⟩ := h
  exact ⟨u1, u2, u3, ⟨rfl, ⟨z1, z2⟩, r1, r2, r3⟩, h1, h2, h3, h4, h5⟩
set_option maxHeartbeats 8000000 in
set_option maxRecDepth 100000 in
theorem sameBlock_val {w0 w : World} (h0 : Below w0.heap.size w0 w) {x : Bk} {v u1 u2 u3 : Value} (hv : ValB w0 v x u1 u2 u3) {v' y1 y2 y3 : Value} (hv' : ValB w0 v' x y1 y2 y3) :
    Calls Try.prog 46 #[v, v'] w fun e w' => e = .returned (.bool true) ∧ Below w.heap.size w w' := by
  obtain ⟨rfl, -, hp, hc, ht⟩ := hv
  obtain ⟨rfl, -, hp', hc', ht'⟩ := hv'
  obtain ⟨p1, k1, rfl, -, hn1, hp⟩ := hp
  obtain ⟨q1, l1, rfl, -, -, hp'⟩ := hp'
  obtain ⟨p2, k2, rfl, -, hn2, hc⟩ := hc
  obtain ⟨q2, l2, rfl, -, -, hc'⟩ := hc'
  obtain ⟨p3, k3, rfl, -, hn3, ht⟩ := ht
  obtain ⟨q3, l3, rfl, -, -, ht'⟩ := ht'
  have hE := fun w => eq_ag (k := 9998) x.e.a.k x.e.a.n x.e.a.s w
  have e1 := beq_s x.n
  generalize x.e.k = n1 at *
  generalize x.e.a.k = n2 at *
  generalize x.e.a.s = n3 at *
  generalize x.e.a.n = n4 at *
  generalize x.e.n = n5 at *
  generalize x.n = n6 at *
  generalize x.e.to = lt at *
  generalize x.ps = lp at *
  generalize x.cs = lc at *
  have hb1 := (Below.refl w.heap.size w).alloc (Nat.le_refl _) (.cells #[.string n6, .slice p1 lp.length k1, .slice p2 lc.length k2, .int .i64 n1, .int .i64 n2, .string n3, .int .i64 n4, .slice p3 lt.length k3, .int .i64 n5] 90)
  have hb2 := hb1.alloc hb1.size (.cells #[.string n6, .slice q1 lp.length l1, .slice q2 lc.length l2, .int .i64 n1, .int .i64 n2, .string n3, .int .i64 n4, .slice q3 lt.length l3, .int .i64 n5] 90)
  have hX := (Box.alloc w [.string n6, .slice p1 lp.length k1, .slice p2 lc.length k2, .int .i64 n1, .int .i64 n2, .string n3, .int .i64 n4, .slice p3 lt.length k3, .int .i64 n5] 90).al (.cells #[.string n6, .slice q1 lp.length l1, .slice q2 lc.length l2, .int .i64 n1, .int .i64 n2, .string n3, .int .i64 n4, .slice q3 lt.length l3, .int .i64 n5] 90)
  have hY := Box.alloc (w.alloc (.cells #[.string n6, .slice p1 lp.length k1, .slice p2 lc.length k2, .int .i64 n1, .int .i64 n2, .string n3, .int .i64 n4, .slice p3 lt.length k3, .int .i64 n5] 90)) [.string n6, .slice q1 lp.length l1, .slice q2 lc.length l2, .int .i64 n1, .int .i64 n2, .string n3, .int .i64 n4, .slice q3 lt.length l3, .int .i64 n5] 90
  have z1 : (w.alloc (.cells #[.string n6, .slice p1 lp.length k1, .slice p2 lc.length k2, .int .i64 n1, .int .i64 n2, .string n3, .int .i64 n4, .slice p3 lt.length k3, .int .i64 n5] 90)).heap.size = w.heap.size + 1 := by simp
  rw [z1] at hY
  clear hb1 z1
  go_enter Try.func46, Try.ntmps46
  go_wp2_with fail
  refine (?_ : ∀ W, W = ((w.alloc (.cells #[.string n6, .slice p1 lp.length k1, .slice p2 lc.length k2, .int .i64 n1, .int .i64 n2, .string n3, .int .i64 n4, .slice p3 lt.length k3, .int .i64 n5] 90)).alloc (.cells #[.string n6, .slice q1 lp.length l1, .slice q2 lc.length l2, .int .i64 n1, .int .i64 n2, .string n3, .int .i64 n4, .slice q3 lt.length l3, .int .i64 n5] 90)) → Code.wp _ _ _ _ W) _ rfl
  intro W hW
  rw [← hW] at hb2 hX hY
  clear hW hE e1
  go_loopw [5] (fun i wr => ∃ q : Nat, q ≤ lt.length ∧ i = .int .i64 (q : Int) ∧ Below W.heap.size W wr) (fun i _ => lt.length - (intOf i).toNat)
  case atStart => exact ⟨0, Nat.zero_le _, rfl, Below.refl _ _⟩
  case round =>
    obtain ⟨q, hq, rfl, hb⟩ := hrel
    replace hX := hX.nx hb
    replace hY := hY.nx hb
    have x7 := hX.c 7 _ rfl
    have y7 := hY.c 7 _ rfl
    by_cases hend : q = lt.length
    · subst hend
      clear ht ht'
      have hb3 := bthen' hb2 hb
      clear hb
      go_wp2_with fail
      clear x7 y7
      obtain ⟨wo, rfl⟩ : ∃ wo : World, wo = wr := ⟨_, rfl⟩
      go_loopw [6] (fun i wr => ∃ q : Nat, q ≤ lp.length ∧ i = .int .i64 (q : Int) ∧ Below wo.heap.size wo wr) (fun i _ => lp.length - (intOf i).toNat)
      case atStart => exact ⟨0, Nat.zero_le _, rfl, Below.refl _ _⟩
      case round =>
        obtain ⟨q, hq, rfl, hb⟩ := hrel
        replace hX := hX.nx hb
        replace hY := hY.nx hb
        have x1 := hX.c 1 _ rfl
        have y1 := hY.c 1 _ rfl
        have hb4 := bthen' hb3 hb
        by_cases hend : q = lp.length
        · subst hend
          clear hp hp' hb hb3
          go_wp2_with fail
          clear x1 y1
          obtain ⟨wp, rfl⟩ : ∃ wp : World, wp = wr := ⟨_, rfl⟩
          go_loopw [8] (fun i wr => ∃ q : Nat, q ≤ lc.length ∧ i = .int .i64 (q : Int) ∧ Below wp.heap.size wp wr) (fun i _ => lc.length - (intOf i).toNat)
          case atStart => exact ⟨0, Nat.zero_le _, rfl, Below.refl _ _⟩
          case round =>
            obtain ⟨q, hq, rfl, hb⟩ := hrel
            replace hX := hX.nx hb
            replace hY := hY.nx hb
            have x2 := hX.c 2 _ rfl
            have y2 := hY.c 2 _ rfl
            have hb5 := bthen' hb4 hb
            clear hX hY
            by_cases hend : q = lc.length
            · subst hend
              clear hc hc' hb hb4
              go_wp2_with fail
              go_ret
              exact ⟨rfl, hb5⟩
            · have hlt : q < lc.length := by omega
              have hltI : (q : Int) < (lc.length : Int) := by omega
              obtain ⟨b, rfl, hA⟩ := hc q lc[q] (by simp [hlt])
              obtain ⟨b', rfl, hA'⟩ := hc' q lc[q] (by simp [hlt])
              clear hc hc'
              obtain ⟨t1, t2, t3, hI, c0, c1, c2, c3, c4, c5⟩ := hA.val
              obtain ⟨s1, s2, s3, hI', d0, d1, d2, d3, d4, d5⟩ := hA'.val
              have hS := fun W (hW : Below w0.heap.size w0 W) => sameInstr_val hW hI hI'
              clear hI hI' hA hA'
              have hk := bthen' h0 hb5
              have c0 := keepc hk c0
              have c1 := keepc hk c1
              have c2 := keepc hk c2
              have c3 := keepc hk c3
              have c4 := keepc hk c4
              have c5 := keepc hk c5
              have d0 := keepc hk d0
              have d1 := keepc hk d1
              have d2 := keepc hk d2
              have d3 := keepc hk d3
              have d4 := keepc hk d4
              have d5 := keepc hk d5
              generalize lc[q].op = t4 at *
              generalize lc[q].d = t5 at *
              generalize lc[q].n = t6 at *
              have hb7 := (Below.refl wr.heap.size wr).drew
              have hS1 := fun W (hW : Below wr.heap.size wr W) => hS W (bthen' hk hW)
              clear hk hS
              go_wp2_with fail
              refine wp_region_ser (S := fun _ v => Below wr.heap.size wr v) rfl (by kernel_rfl) hb7 ?_
              iterate 12 (first | ((refine Ser.step (a1 := ?_) rfl (fun L w1 K' Q' hS hi hR hd hK => ?_) ?_ ?_; rotate_left); (· ((skip); go_simp; (try simp only [Act.put, List.setIfInBounds_toArray, List.set_cons_zero, List.set_cons_succ]); exact hK.out _ (hS))); (· rfl)) | ((refine Ser.step (a1 := ?_) rfl (fun L w1 K' Q' hS hi hR hd hK => ?_) ?_ ?_; rotate_left); (· ((have x2 := keepc hS x2; have y2 := keepc hS y2; have c0 := keepc hS c0; have d0 := keepc hS d0; have c1 := keepc hS c1; have d1 := keepc hS d1; have c2 := keepc hS c2; have d2 := keepc hS d2; have c3 := keepc hS c3; have d3 := keepc hS d3; have c4 := keepc hS c4; have d4 := keepc hS d4; have c5 := keepc hS c5; have d5 := keepc hS d5); go_simp; (try simp only [Act.put, List.setIfInBounds_toArray, List.set_cons_zero, List.set_cons_succ]); exact hK.out _ (hS))); (· rfl)) | ((refine Ser.step (a1 := ?_) rfl (fun L w1 K' Q' hS hi hR hd hK => ?_) ?_ ?_; rotate_left); (· (go_simp; go_wp2_with ((refine (hS1 _ hS).mono ?_; rintro e w2 ⟨rfl, hb⟩)); (try simp only [Act.put, List.setIfInBounds_toArray, List.set_cons_zero, List.set_cons_succ]); exact hK.out _ (bthen' hS hb))); (· rfl)))
              refine Ser.nil fun w4 hS4 => ?_
              have hb8 := bthen' hb hS4
              clear hb7 hS1 c0 c1 c2 c3 c4 c5 d0 d1 d2 d3 d4 d5 x2 y2
              go_wp2_with fail
              go_roundw
              case rel => exact ⟨q + 1, by omega, by go_num, hb8⟩
              case measure => simp [intOf]; omega
        · have hlt : q < lp.length := by omega
          have hltI : (q : Int) < (lp.length : Int) := by omega
          obtain ⟨b, rfl, ⟨c0, -⟩, m, c1, r⟩ := hp q lp[q] (by simp [hlt])
          obtain ⟨b', rfl, ⟨d0, -⟩, m', d1, r'⟩ := hp' q lp[q] (by simp [hlt])
          have c0 := keepc (bthen' h0 hb4) c0
          have c1 := keepc (bthen' h0 hb4) c1
          have d0 := keepc (bthen' h0 hb4) d0
          have d1 := keepc (bthen' h0 hb4) d1
          clear hp hp' hc hc' hb3
          generalize lp[q].d = s at *
          generalize lp[q].is = li at *
          obtain ⟨p7, k7, rfl, -, hn7, r⟩ := r
          obtain ⟨q7, l7, rfl, -, -, r'⟩ := r'
          have e1 := beq_s s
          clear hX hY hb2
          go_wp2_with fail
          refine wp_region_ser (S := fun _ v => v = wr.drew) rfl (by kernel_rfl) rfl ?_
          iterate 30 (((refine Ser.step (a1 := ?_) rfl (fun L w1 K' Q' hS hi hR hd hK => ?_) ?_ ?_; rotate_left); (· ((subst hS); go_simp; (try simp only [Act.put, List.setIfInBounds_toArray, List.set_cons_zero, List.set_cons_succ]); exact hK.out _ (rfl))); (· rfl)))
          refine Ser.nil fun w4 hS4 => ?_
          subst hS4
          have hb := hb.drew
          have hb4 := hb4.drew
          have x1 : wr.drew.cell? _ = _ := x1
          have y1 : wr.drew.cell? _ = _ := y1
          have c1 : wr.drew.cell? _ = _ := c1
          have d1 : wr.drew.cell? _ = _ := d1
          generalize wr.drew = wr at *
          clear c0 d0
          go_wp2_with fail
          obtain ⟨wv, rfl⟩ : ∃ wv : World, wv = wr := ⟨_, rfl⟩
          go_loopw [7] (fun i wr => ∃ q : Nat, q ≤ li.length ∧ i = .int .i64 (q : Int) ∧ Below wv.heap.size wv wr) (fun i _ => li.length - (intOf i).toNat)
          case atStart => exact ⟨0, Nat.zero_le _, rfl, Below.refl _ _⟩
          case round =>
            obtain ⟨j, hj, rfl, hb6⟩ := hrel
            have x1 := keepc hb6 x1
            have y1 := keepc hb6 y1
            have c1 := keepc hb6 c1
            have d1 := keepc hb6 d1
            by_cases hend : j = li.length
            · subst hend
              have hbZ := bthen' hb hb6
              clear r r' hb hb4 hb6
              go_wp2_with fail
              go_roundw
              case rel => exact ⟨q + 1, by omega, by go_num, hbZ⟩
              case measure => simp [intOf]; omega
            · have hlt : j < li.length := by omega
              have hltI : (j : Int) < (li.length : Int) := by omega
              obtain ⟨f, rfl, ⟨m0, -⟩, m1, ⟨m2, -⟩, m3⟩ := r j li[j] (by simp [hlt])
              obtain ⟨f', rfl, ⟨n0, -⟩, n1', ⟨n2', -⟩, n3'⟩ := r' j li[j] (by simp [hlt])
              have hk := bthen' h0 (bthen' hb4 hb6)
              have m0 := keepc hk m0
              have m1 := keepc hk m1
              have m2 := keepc hk m2
              have m3 := keepc hk m3
              have n0 := keepc hk n0
              have n1' := keepc hk n1'
              have n2' := keepc hk n2'
              have n3' := keepc hk n3'
              clear r r' hk hb hb4
              generalize li[j].b = t1 at *
              generalize li[j].a.k = t2 at *
              generalize li[j].a.s = t3 at *
              generalize li[j].a.n = t4 at *
              have hE := eq_in t1 t2 t4 t3
              go_wp2_with fail
              refine wp_region_ser (S := fun _ v => v = wr.drew) rfl (by kernel_rfl) rfl ?_
              iterate 19 (((refine Ser.step (a1 := ?_) rfl (fun L w1 K' Q' hS hi hR hd hK => ?_) ?_ ?_; rotate_left); (· ((subst hS); go_simp; (try simp only [Act.put, List.setIfInBounds_toArray, List.set_cons_zero, List.set_cons_succ]); exact hK.out _ (rfl))); (· rfl)))
              refine Ser.nil fun w4 hS4 => ?_
              subst hS4
              have hb8 := hb6.drew
              clear m0 m1 m2 m3 n0 n1' n2' n3' c1 d1 x1 y1 hE
              go_wp2_with fail
              go_roundw
              case rel => exact ⟨j + 1, by omega, by go_num, hb8⟩
              case measure => simp [intOf]; omega
    · have hlt : q < lt.length := by omega
      have hltI : (q : Int) < (lt.length : Int) := by omega
      obtain ⟨b, rfl, c0, -⟩ := ht q lt[q] (by simp [hlt])
      obtain ⟨b', rfl, d0, -⟩ := ht' q lt[q] (by simp [hlt])
      have c0 := keepc (bthen' h0 (bthen' hb2 hb)) c0
      have d0 := keepc (bthen' h0 (bthen' hb2 hb)) d0
      clear ht ht' hX hY hp hp' hc hc' hb2
      rw [Nat.mul_one] at c0 d0
      generalize lt[q] = s at *
      have e1 := beq_s s
      go_wp2_with fail
      refine wp_region_ser (S := fun _ v => v = wr.drew) rfl (by kernel_rfl) rfl ?_
      iterate 13 (((refine Ser.step (a1 := ?_) rfl (fun L w1 K' Q' hS hi hR hd hK => ?_) ?_ ?_; rotate_left); (· ((subst hS); go_simp; (try simp only [Act.put, List.setIfInBounds_toArray, List.set_cons_zero, List.set_cons_succ]); exact hK.out _ (rfl))); (· rfl)))
      refine Ser.nil fun w4 hS4 => ?_
      subst hS4
      have hb8 := hb.drew
      clear c0 d0 x7 y7 hb
      go_wp2_with fail
      go_roundw
      case rel => exact ⟨q + 1, by omega, by go_num, hb8⟩
      case measure => simp [intOf]; omega
set_option maxHeartbeats 8000000 in
set_option maxRecDepth 100000 in
theorem sameFunc_val {w0 w : World} (h0 : Below w0.heap.size w0 w) {x : Fn} {v u1 u2 u3 : Value} (hv : ValF w0 v x u1 u2 u3) {v' y1 y2 y3 : Value} (hv' : ValF w0 v' x y1 y2 y3) :
    Calls Try.prog 22 #[v, v'] w fun e w' => e = .returned (.bool true) ∧ Below w.heap.size w w' := by
  obtain ⟨rfl, -, hp, hc, ht⟩ := hv
  obtain ⟨rfl, -, hp', hc', ht'⟩ := hv'
  have hA := fun W (hW : Below w0.heap.size w0 W) => sameVars_val hW hp hp'
  have hB := fun W (hW : Below w0.heap.size w0 W) => sameVars_val hW hc hc'
  obtain ⟨p1, k1, rfl⟩ := hp.slice
  obtain ⟨q1, l1, rfl⟩ := hp'.slice
  obtain ⟨p2, k2, rfl⟩ := hc.slice
  obtain ⟨q2, l2, rfl⟩ := hc'.slice
  obtain ⟨p3, k3, rfl, -, hn3, ht⟩ := ht
  obtain ⟨q3, l3, rfl, -, -, ht'⟩ := ht'
  clear hp hp' hc hc'
  generalize x.n = n1 at *
  generalize x.r = n2 at *
  generalize x.ps.length = n3 at *
  generalize x.vs.length = n4 at *
  generalize x.bs = lt at *
  have e1 := beq_s n1
  have e2 := beq_s n2
  have hb1 := (Below.refl w.heap.size w).alloc (Nat.le_refl _) (.cells #[.string n1, .string n2, .slice p1 n3 k1, .slice p2 n4 k2, .slice p3 lt.length k3] 30)
  have hb2 := hb1.alloc hb1.size (.cells #[.string n1, .string n2, .slice q1 n3 l1, .slice q2 n4 l2, .slice q3 lt.length l3] 30)
  have hX := (Box.alloc w [.string n1, .string n2, .slice p1 n3 k1, .slice p2 n4 k2, .slice p3 lt.length k3] 30).al (.cells #[.string n1, .string n2, .slice q1 n3 l1, .slice q2 n4 l2, .slice q3 lt.length l3] 30)
  have hY := Box.alloc (w.alloc (.cells #[.string n1, .string n2, .slice p1 n3 k1, .slice p2 n4 k2, .slice p3 lt.length k3] 30)) [.string n1, .string n2, .slice q1 n3 l1, .slice q2 n4 l2, .slice q3 lt.length l3] 30
  have z1 : (w.alloc (.cells #[.string n1, .string n2, .slice p1 n3 k1, .slice p2 n4 k2, .slice p3 lt.length k3] 30)).heap.size = w.heap.size + 1 := by simp
  rw [z1] at hY
  have hA1 := hA _ (bthen' h0 hb2)
  clear hb1 z1 hA
  go_enter Try.func22, Try.ntmps22
  go_wp2_with fail
  refine hA1.mono ?_
  rintro e w1 ⟨rfl, hb3⟩
  have hb4 := bthen' hb2 hb3
  replace hX := hX.nx hb3
  replace hY := hY.nx hb3
  have x3 := hX.c 3 _ rfl
  have x4 := hX.c 4 _ rfl
  have y3 := hY.c 3 _ rfl
  have y4 := hY.c 4 _ rfl
  have hB1 := hB _ (bthen' h0 hb4)
  clear hA1 hb3 hb2 hB
  go_wp2_with fail
  refine hB1.mono ?_
  rintro e w2 ⟨rfl, hb3⟩
  have hb5 := bthen' hb4 hb3
  replace hX := hX.nx hb3
  replace hY := hY.nx hb3
  have x4 := hX.c 4 _ rfl
  have y4 := hY.c 4 _ rfl
  clear hB1 hb3 hb4
  go_wp2_with fail
  go_loopw [5] (fun i wr => ∃ q : Nat, q ≤ lt.length ∧ i = .int .i64 (q : Int) ∧ Below w2.heap.size w2 wr) (fun i _ => lt.length - (intOf i).toNat)
  case atStart => exact ⟨0, Nat.zero_le _, rfl, Below.refl _ _⟩
  case round =>
    obtain ⟨q, hq, rfl, hb⟩ := hrel
    replace hX := hX.nx hb
    replace hY := hY.nx hb
    have x4 := hX.c 4 _ rfl
    have y4 := hY.c 4 _ rfl
    have hb6 := bthen' hb5 hb
    by_cases hend : q = lt.length
    · subst hend
      clear ht ht' hb hb5
      go_wp2_with fail
      go_ret
      exact ⟨rfl, hb6⟩
    · have hlt : q < lt.length := by omega
      have hltI : (q : Int) < (lt.length : Int) := by omega
      obtain ⟨b, rfl, hA⟩ := ht q lt[q] (by simp [hlt])
      obtain ⟨b', rfl, hA'⟩ := ht' q lt[q] (by simp [hlt])
      clear ht ht' hX hY
      obtain ⟨t1, t2, t3, hI, c0, c1, c2, c3, c4, c5, c6, c7, c8⟩ := hA.val
      obtain ⟨s1, s2, s3, hI', d0, d1, d2, d3, d4, d5, d6, d7, d8⟩ := hA'.val
      have hS := fun W (hW : Below w0.heap.size w0 W) => sameBlock_val hW hI hI'
      clear hI hI' hA hA'
      have hk := bthen' h0 hb6
      have c0 := keepc hk c0
      have c1 := keepc hk c1
      have c2 := keepc hk c2
      have c3 := keepc hk c3
      have c4 := keepc hk c4
      have c5 := keepc hk c5
      have c6 := keepc hk c6
      have c7 := keepc hk c7
      have c8 := keepc hk c8
      have d0 := keepc hk d0
      have d1 := keepc hk d1
      have d2 := keepc hk d2
      have d3 := keepc hk d3
      have d4 := keepc hk d4
      have d5 := keepc hk d5
      have d6 := keepc hk d6
      have d7 := keepc hk d7
      have d8 := keepc hk d8
      generalize lt[q].e.k = m1 at *
      generalize lt[q].e.a.k = m2 at *
      generalize lt[q].e.a.s = m3 at *
      generalize lt[q].e.a.n = m4 at *
      generalize lt[q].e.n = m5 at *
      generalize lt[q].n = m6 at *
      have hb7 := (Below.refl wr.heap.size wr).drew
      have hS1 := fun W (hW : Below wr.heap.size wr W) => hS W (bthen' hk hW)
      clear hk hS
      go_wp2_with fail
      refine wp_region_ser (S := fun _ v => Below wr.heap.size wr v) rfl (by kernel_rfl) hb7 ?_
      iterate 12 (first | ((refine Ser.step (a1 := ?_) rfl (fun L w1 K' Q' hS hi hR hd hK => ?_) ?_ ?_; rotate_left); (· ((skip); go_simp; (try simp only [Act.put, List.setIfInBounds_toArray, List.set_cons_zero, List.set_cons_succ]); exact hK.out _ (hS))); (· rfl)) | ((refine Ser.step (a1 := ?_) rfl (fun L w1 K' Q' hS hi hR hd hK => ?_) ?_ ?_; rotate_left); (· ((have x4 := keepc hS x4; have y4 := keepc hS y4; have c0 := keepc hS c0; have d0 := keepc hS d0; have c1 := keepc hS c1; have d1 := keepc hS d1; have c2 := keepc hS c2; have d2 := keepc hS d2; have c3 := keepc hS c3; have d3 := keepc hS d3; have c4 := keepc hS c4; have d4 := keepc hS d4; have c5 := keepc hS c5; have d5 := keepc hS d5; have c6 := keepc hS c6; have d6 := keepc hS d6; have c7 := keepc hS c7; have d7 := keepc hS d7; have c8 := keepc hS c8; have d8 := keepc hS d8); go_simp; (try simp only [Act.put, List.setIfInBounds_toArray, List.set_cons_zero, List.set_cons_succ]); exact hK.out _ (hS))); (· rfl)) | ((refine Ser.step (a1 := ?_) rfl (fun L w1 K' Q' hS hi hR hd hK => ?_) ?_ ?_; rotate_left); (· (go_simp; go_wp2_with ((refine (hS1 _ hS).mono ?_; rintro e w2 ⟨rfl, hb⟩)); (try simp only [Act.put, List.setIfInBounds_toArray, List.set_cons_zero, List.set_cons_succ]); exact hK.out _ (bthen' hS hb))); (· rfl)))
      refine Ser.nil fun w4 hS4 => ?_
      have hb8 := bthen' hb hS4
      clear hb7 hS1 c0 c1 c2 c3 c4 c5 c6 c7 c8 d0 d1 d2 d3 d4 d5 d6 d7 d8 x4 y4
      go_wp2_with fail
      go_roundw
      case rel => exact ⟨q + 1, by omega, by go_num, hb8⟩
      case measure => simp [intOf]; omega
end Go.Proofs.Ytjohjpjpfglkkaa
