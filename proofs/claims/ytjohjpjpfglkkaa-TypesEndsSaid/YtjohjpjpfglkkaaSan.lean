/- lateenref06.SameInstr, of equal instructions: true. -/
import Derived.Test.YtjohjpjpfglkkaaSam
import Derived.Deep.CutBlock
namespace Go.Proofs.Ytjohjpjpfglkkaa
open Go.RowKit

set_option maxHeartbeats 8000000 in
set_option maxRecDepth 100000 in
theorem sameInstr_val {w0 w : World} (h0 : Below w0.heap.size w0 w) {x : Is} {v u1 u2 u3 : Value} (hv : ValI w0 v x u1 u2 u3) {v' y1 y2 y3 : Value} (hv' : ValI w0 v' x y1 y2 y3) :
    Calls Try.prog 59 #[v, v'] w fun e w' => e = .returned (.bool true) ∧ Below w.heap.size w w' := by
  obtain ⟨rfl, -, ha, hf, ho⟩ := hv
  obtain ⟨rfl, -, ha', hf', ho'⟩ := hv'
  have hA := fun W (hW : Below w0.heap.size w0 W) => sameArgs_val hW ha ha'
  obtain ⟨p1, k1, rfl⟩ := ha.slice
  obtain ⟨q1, l1, rfl⟩ := ha'.slice
  obtain ⟨p2, k2, rfl, -, hn2, hf⟩ := hf
  obtain ⟨q2, l2, rfl, -, -, hf'⟩ := hf'
  obtain ⟨p3, k3, rfl, -, hn3, ho⟩ := ho
  obtain ⟨q3, l3, rfl, -, -, ho'⟩ := ho'
  clear ha ha'
  generalize x.as.length = na at *
  have hb1 := (Below.refl w.heap.size w).alloc (Nat.le_refl _) (.cells #[.int .i64 x.op, .string x.d, .string x.n, .slice p1 na k1, .slice p2 x.fr.length k2, .slice p3 x.ob.length k3] 65)
  have hb2 := hb1.alloc hb1.size (.cells #[.int .i64 x.op, .string x.d, .string x.n, .slice q1 na l1, .slice q2 x.fr.length l2, .slice q3 x.ob.length l3] 65)
  have hX := (Box.alloc w [.int .i64 x.op, .string x.d, .string x.n, .slice p1 na k1, .slice p2 x.fr.length k2, .slice p3 x.ob.length k3] 65).al (.cells #[.int .i64 x.op, .string x.d, .string x.n, .slice q1 na l1, .slice q2 x.fr.length l2, .slice q3 x.ob.length l3] 65)
  have hY := Box.alloc (w.alloc (.cells #[.int .i64 x.op, .string x.d, .string x.n, .slice p1 na k1, .slice p2 x.fr.length k2, .slice p3 x.ob.length k3] 65)) [.int .i64 x.op, .string x.d, .string x.n, .slice q1 na l1, .slice q2 x.fr.length l2, .slice q3 x.ob.length l3] 65
  have z1 : (w.alloc (.cells #[.int .i64 x.op, .string x.d, .string x.n, .slice p1 na k1, .slice p2 x.fr.length k2, .slice p3 x.ob.length k3] 65)).heap.size = w.heap.size + 1 := by simp
  rw [z1] at hY
  have hA1 := hA _ (bthen' h0 hb2)
  have e1 := beq_s x.d
  have e2 := beq_s x.n
  clear hb1 z1
  go_enter Try.func59, Try.ntmps59
  go_wp2_with fail
  refine hA1.mono ?_
  rintro e w1 ⟨rfl, hb3⟩
  have hb4 := bthen' hb2 hb3
  have hX := hX.nx hb3
  have hY := hY.nx hb3
  have x4 := hX.c 4 _ rfl
  have x5 := hX.c 5 _ rfl
  have y4 := hY.c 4 _ rfl
  have y5 := hY.c 5 _ rfl
  clear hA1 hb3 hb2
  go_wp2_with fail
  go_loopw [5] (fun i wr => ∃ q : Nat, q ≤ x.fr.length ∧ i = .int .i64 (q : Int) ∧ Below w1.heap.size w1 wr) (fun i _ => x.fr.length - (intOf i).toNat)
  case atStart => exact ⟨0, Nat.zero_le _, rfl, Below.refl _ _⟩
  case round =>
    obtain ⟨q, hq, rfl, hb⟩ := hrel
    have hX := hX.nx hb
    have hY := hY.nx hb
    have x4 := hX.c 4 _ rfl
    have y4 := hY.c 4 _ rfl
    have x5 := hX.c 5 _ rfl
    have y5 := hY.c 5 _ rfl
    have hb5 := bthen' hb4 hb
    by_cases hend : q = x.fr.length
    · subst hend
      clear hf hf' hb hb4
      go_wp2_with fail
      obtain ⟨wo, rfl⟩ : ∃ wo : World, wo = wr := ⟨_, rfl⟩
      go_loopw [9] (fun i wr => ∃ q : Nat, q ≤ x.ob.length ∧ i = .int .i64 (q : Int) ∧ Below wo.heap.size wo wr) (fun i _ => x.ob.length - (intOf i).toNat)
      case atStart => exact ⟨0, Nat.zero_le _, rfl, Below.refl _ _⟩
      case round =>
        obtain ⟨q, hq, rfl, hb⟩ := hrel
        have hX := hX.nx hb
        have hY := hY.nx hb
        have x5 := hX.c 5 _ rfl
        have y5 := hY.c 5 _ rfl
        have hb6 := bthen' hb5 hb
        clear hX hY
        by_cases hend : q = x.ob.length
        · subst hend
          clear ho ho' hb hb5
          go_wp2_with fail
          go_ret
          exact ⟨rfl, hb6⟩
        · have hlt : q < x.ob.length := by omega
          have hltI : (q : Int) < (x.ob.length : Int) := by omega
          obtain ⟨a, rfl, ⟨c0, -⟩, m, c1, r⟩ := ho q x.ob[q] (by simp [hlt])
          obtain ⟨a', rfl, ⟨d0, -⟩, m', d1, r'⟩ := ho' q x.ob[q] (by simp [hlt])
          have c0 := keepc (bthen' h0 hb6) c0
          have c1 := keepc (bthen' h0 hb6) c1
          have d0 := keepc (bthen' h0 hb6) d0
          have d1 := keepc (bthen' h0 hb6) d1
          have hS := fun W (hW : Below w0.heap.size w0 W) => sameArgs_val hW r r'
          obtain ⟨g, j, rfl⟩ := r.slice
          obtain ⟨g', j', rfl⟩ := r'.slice
          clear ho ho' r r' hA
          generalize x.ob[q].c = s at *
          generalize x.ob[q].vs.length = ns at *
          have e1 := beq_s s
          have hb7 := (Below.refl wr.heap.size wr).drew
          have hS1 := fun W (hW : Below wr.heap.size wr W) => hS W (bthen' h0 (bthen' hb6 hW))
          go_wp2_with fail
          refine wp_region_ser (S := fun _ v => Below wr.heap.size wr v) rfl (by kernel_rfl) hb7 ?_
          iterate 29 (first | ((refine Ser.step (a1 := ?_) rfl (fun L w1 K' Q' hS hi hR hd hK => ?_) ?_ ?_; rotate_left); (· ((skip); go_simp; (try simp only [Act.put, List.setIfInBounds_toArray, List.set_cons_zero, List.set_cons_succ]); exact hK.out _ (hS))); (· rfl)) | ((refine Ser.step (a1 := ?_) rfl (fun L w1 K' Q' hS hi hR hd hK => ?_) ?_ ?_; rotate_left); (· ((have x5 := keepc hS x5; have y5 := keepc hS y5; have c0 := keepc hS c0; have d0 := keepc hS d0; have c1 := keepc hS c1; have d1 := keepc hS d1); go_simp; (try simp only [Act.put, List.setIfInBounds_toArray, List.set_cons_zero, List.set_cons_succ]); exact hK.out _ (hS))); (· rfl)) | ((refine Ser.step (a1 := ?_) rfl (fun L w1 K' Q' hS hi hR hd hK => ?_) ?_ ?_; rotate_left); (· (go_simp; go_wp2_with ((refine (hS1 _ hS).mono ?_; rintro e w2 ⟨rfl, hb⟩)); (try simp only [Act.put, List.setIfInBounds_toArray, List.set_cons_zero, List.set_cons_succ]); exact hK.out _ (bthen' hS hb))); (· rfl)))
          refine Ser.nil fun w4 hS4 => ?_
          have hb8 := bthen' hb hS4
          clear hb7 hS1 hS c0 c1 d0 d1 x5 y5
          go_wp2_with fail
          go_roundw
          case rel => exact ⟨q + 1, by omega, by go_num, hb8⟩
          case measure => simp [intOf]; omega
    · have hlt : q < x.fr.length := by omega
      have hltI : (q : Int) < (x.fr.length : Int) := by omega
      obtain ⟨a, rfl, ⟨c0, -⟩, ⟨c1, -⟩, c2, m, c3, r⟩ := hf q x.fr[q] (by simp [hlt])
      obtain ⟨a', rfl, ⟨d0, -⟩, ⟨d1, -⟩, d2, m', d3, r'⟩ := hf' q x.fr[q] (by simp [hlt])
      have c0 := keepc (bthen' h0 hb5) c0
      have c1 := keepc (bthen' h0 hb5) c1
      have c2 := keepc (bthen' h0 hb5) c2
      have c3 := keepc (bthen' h0 hb5) c3
      have d0 := keepc (bthen' h0 hb5) d0
      have d1 := keepc (bthen' h0 hb5) d1
      have d2 := keepc (bthen' h0 hb5) d2
      have d3 := keepc (bthen' h0 hb5) d3
      clear ho ho' hf hf' hA hX hY
      generalize x.fr[q].f = s1 at *
      generalize x.fr[q].b = s2 at *
      generalize x.fr[q].i = i1 at *
      generalize x.fr[q].vs = vs at *
      obtain ⟨p7, k7, rfl, -, hn7, r⟩ := r
      obtain ⟨q7, l7, rfl, -, -, r'⟩ := r'
      have e1 := beq_s s1
      have e2 := beq_s s2
      have hb6 := (Below.refl wr.heap.size wr).alloc (Nat.le_refl _) (.cells #[.string s1, .string s2, .int .i64 i1, .slice p7 vs.length k7] 121)
      have hb7 := hb6.alloc hb6.size (.cells #[.string s1, .string s2, .int .i64 i1, .slice q7 vs.length l7] 121)
      have hP := (Box.alloc wr [.string s1, .string s2, .int .i64 i1, .slice p7 vs.length k7] 121).al (.cells #[.string s1, .string s2, .int .i64 i1, .slice q7 vs.length l7] 121)
      have hQ := Box.alloc (wr.alloc (.cells #[.string s1, .string s2, .int .i64 i1, .slice p7 vs.length k7] 121)) [.string s1, .string s2, .int .i64 i1, .slice q7 vs.length l7] 121
      have z2 : (wr.alloc (.cells #[.string s1, .string s2, .int .i64 i1, .slice p7 vs.length k7] 121)).heap.size = wr.heap.size + 1 := by simp
      rw [z2] at hQ
      have x4' := fun o => keepc ((Below.refl wr.heap.size wr).alloc (Nat.le_refl _) o) x4
      have y4' := fun o => keepc ((Below.refl wr.heap.size wr).alloc (Nat.le_refl _) o) y4
      have d0' := fun o => keepc ((Below.refl wr.heap.size wr).alloc (Nat.le_refl _) o) d0
      have d1' := fun o => keepc ((Below.refl wr.heap.size wr).alloc (Nat.le_refl _) o) d1
      have d2' := fun o => keepc ((Below.refl wr.heap.size wr).alloc (Nat.le_refl _) o) d2
      have d3' := fun o => keepc ((Below.refl wr.heap.size wr).alloc (Nat.le_refl _) o) d3
      clear hb6 z2
      go_wp2_with fail
      clear x4' y4' d0' d1' d2' d3' c0 c1 c2 c3 d0 d1 d2 d3
      refine (?_ : ∀ W, W = ((wr.alloc (.cells #[.string s1, .string s2, .int .i64 i1, .slice p7 vs.length k7] 121)).alloc (.cells #[.string s1, .string s2, .int .i64 i1, .slice q7 vs.length l7] 121)) → Code.wp _ _ _ _ W) _ rfl
      intro W hW
      rw [← hW] at hb7 hP hQ
      clear hW
      have hbW := bthen' hb hb7
      have hb9 := bthen' hb5 hb7
      clear hb7
      obtain ⟨wo, rfl⟩ : ∃ wo : World, wo = wr := ⟨_, rfl⟩
      go_loopw [8] (fun i wr => ∃ q : Nat, q ≤ vs.length ∧ i = .int .i64 (q : Int) ∧ Below W.heap.size W wr) (fun i _ => vs.length - (intOf i).toNat)
      case atStart => exact ⟨0, Nat.zero_le _, rfl, Below.refl _ _⟩
      case round =>
        obtain ⟨j, hj, rfl, hb8⟩ := hrel
        have hP := hP.nx hb8
        have hQ := hQ.nx hb8
        have x3 := hP.c 3 _ rfl
        have y3 := hQ.c 3 _ rfl
        clear hP hQ
        by_cases hend : j = vs.length
        · subst hend
          clear r r' x4 x5 y4 y5
          have hbZ := bthen' hbW hb8
          clear hbW hb9 hb8 hb hb5
          go_wp2_with fail
          go_roundw
          case rel => exact ⟨q + 1, by omega, by go_num, hbZ⟩
          case measure => simp [intOf]; omega
        · have hlt : j < vs.length := by omega
          have hltI : (j : Int) < (vs.length : Int) := by omega
          obtain ⟨b, rfl, ⟨c0, -⟩, c1, ⟨c2, -⟩, c3⟩ := r j vs[j] (by simp [hlt])
          obtain ⟨b', rfl, ⟨d0, -⟩, d1, ⟨d2, -⟩, d3⟩ := r' j vs[j] (by simp [hlt])
          have hk := bthen' h0 (bthen' hb9 hb8)
          have c0 := keepc hk c0
          have c1 := keepc hk c1
          have c2 := keepc hk c2
          have c3 := keepc hk c3
          have d0 := keepc hk d0
          have d1 := keepc hk d1
          have d2 := keepc hk d2
          have d3 := keepc hk d3
          clear r r' x4 x5 y4 y5 hk
          generalize vs[j].n = t1 at *
          generalize vs[j].a.k = t2 at *
          generalize vs[j].a.s = t3 at *
          generalize vs[j].a.n = t4 at *
          have hE := eq_b t1 t2 t4 t3
          go_wp2_with fail
          refine wp_region_ser (S := fun _ v => v = wr.drew) rfl (by kernel_rfl) rfl ?_
          iterate 11 (((refine Ser.step (a1 := ?_) rfl (fun L w1 K' Q' hS hi hR hd hK => ?_) ?_ ?_; rotate_left); (· ((subst hS); go_simp; (try simp only [Act.put, List.setIfInBounds_toArray, List.set_cons_zero, List.set_cons_succ]); exact hK.out _ (rfl))); (· rfl)))
          refine Ser.nil fun w4 hS4 => ?_
          subst hS4
          have hb8 := hb8.drew
          clear hb9 hbW hb hb5 c0 c1 c2 c3 d0 d1 d2 d3 x3 y3 hE
          go_wp2_with fail
          go_roundw
          case rel => exact ⟨j + 1, by omega, by go_num, hb8⟩
          case measure => simp [intOf]; omega
end Go.Proofs.Ytjohjpjpfglkkaa
