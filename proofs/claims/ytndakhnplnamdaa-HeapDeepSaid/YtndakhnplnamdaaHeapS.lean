/- HeapDeep. -/
import Derived.Test.YtndakhnplnamdaaHeapR
import Derived.Deep.Strs
namespace Go.Proofs.Ytndakhnplnamdaa
open Go.RowKit

/-- what is alike reads alike -/
theorem load_ok {n m : Nat} {ob oq : Nat → ObjD} {l : Nat} {vs us : Nat → Vl} {R : Rel2} (hR : Good n m ob oq l vs us R) {x y : Vl} (h : OkV n m R x y) (a : Int) :
    (loadV n ob x a).2 = (loadV m oq y a).2 ∧ ((loadV n ob x a).2 = true → OkV n m R (loadV n ob x a).1 (loadV m oq y a).1) := by
  by_cases hl : leadsB n x = true
  · have hr := leads_ref hl
    have hl2 : leadsB m y = true := by rw [← h.ld hr]; exact hl
    have ho := hR.o _ _ (h.g hl)
    have hlen : (ob (x.2 - 1).toNat).l = (oq (y.2 - 1).toNat).l := ho.l
    unfold loadV
    by_cases hc : 0 ≤ a ∧ a < ((ob (x.2 - 1).toNat).l : Int)
    · rw [if_pos ⟨hl, hc.1, hc.2⟩, if_pos ⟨hl2, hc.1, by rw [← hlen]; exact hc.2⟩]
      exact ⟨rfl, fun _ => ho.v a.toNat (by show a.toNat < (ob (x.2 - 1).toNat).l; omega)⟩
    · rw [if_neg (fun h => hc h.2), if_neg (fun h => hc ⟨h.2.1, by rw [hlen]; exact h.2.2⟩)]
      exact ⟨rfl, fun h => by cases h⟩
  · have hl2 : ¬ leadsB m y = true := fun h2 => by
      have hr := leads_ref h2
      rw [← h.t] at hr
      rw [h.ld hr] at hl
      exact hl h2
    unfold loadV
    rw [if_neg (fun h => hl h.1), if_neg (fun h => hl2 h.1)]
    exact ⟨rfl, fun h => by cases h⟩

/-- whole numbers of a slice, as they lie in memory -/
structure IntsIn (w : World) (pa : Option Addr) (l : Nat) (ns : Nat → Int) : Prop where
  at' : 0 < l → ∃ B o, pa = some ⟨B, o, none⟩ ∧ B < w.heap.size ∧ ∀ i, i < l → w.cell? ⟨B, o + i, none⟩ = some (.int .i64 (ns i))
  r : ∀ i, i < l → -9223372036854775808 ≤ ns i ∧ ns i ≤ 9223372036854775807
  m : l ≤ 9223372036854775807
theorem IntsIn.below {w w1 : World} {pa : Option Addr} {l : Nat} {ns : Nat → Int} (h : IntsIn w pa l ns) (hb : Below w.heap.size w w1) : IntsIn w1 pa l ns :=
  { at' := fun hl => by
      obtain ⟨B, o, e, hB, hc⟩ := h.at' hl
      exact ⟨B, o, e, Nat.lt_of_lt_of_le hB hb.size, fun i hi => by rw [hb.cell hB]; exact hc i hi⟩
    r := h.r
    m := h.m }

theorem at_of (a0 : Int) {l : Nat} (hl : 0 < l) (hl2 : l ≤ 1000) : ∃ q : Nat, q < l ∧ wrap64 ((IntKind.u64.wrap a0).tmod (l : Int)) = (q : Int) := by
  have hp : 0 ≤ IntKind.u64.wrap a0 := by
    simp only [IntKind.wrap, IntKind.signed, IntKind.bits]
    simp
    omega
  have h0 := Int.tmod_nonneg (l : Int) hp
  have h1 := Int.tmod_lt_of_pos (IntKind.u64.wrap a0) (show (0 : Int) < l by omega)
  exact ⟨((IntKind.u64.wrap a0).tmod (l : Int)).toNat, by omega, by rw [IntWalk.wrap64_in _ ⟨by omega, by omega⟩]; omega⟩
/-- the two values that are held against one another -/
structure DeepSt (w wr : World) (px py n m : Nat) (R : Rel2) : Prop where
  b : Below w.heap.size w wr
  h : ∃ x y : Vl, Box wr px [.string x.1, .int .i64 x.2] ∧ Box wr py [.string y.1, .int .i64 y.2] ∧ OkV n m R x y
  x : w.heap.size ≤ px
  y : w.heap.size ≤ py
  d : px ≠ py

set_option maxRecDepth 100000 in
set_option maxHeartbeats 8000000 in
theorem deep_main (ph pa pk pb pw : Option Addr) (n ch l ca m ck l' cb lw cw : Nat) (ob oq : Nat → ObjD) (va vb : Nat → Vl) (ns : Nat → Int) (h1 : fewB n ob = true) (h2 : fewB m oq = true) (hl : l ≤ 50) (hl' : l' ≤ 50) (hw : lw ≤ 100) (hal : AlikeP n m ob oq l l' va vb) (hl0 : 0 < l) (hw0 : 0 < lw)
    (w : World) (hO : Objs w ph n ob) (hQ : Objs w pk m oq) (hA : Vals w pa l va) (hBv : Vals w pb l' vb) (hN : IntsIn w pw lw ns) :
    Calls Try.prog 5 #[.slice ph n ch, .slice pa l ca, .slice pk m ck, .slice pb l' cb, .slice pw lw cw] w (AllTrue w) := by
  have H1 := fun w1 (hb : Below w.heap.size w w1) => few_val ph n ch ob w1 (hO.below hb)
  have H2 := fun w1 (hb : Below w.heap.size w w1) => few_val pk m ck oq w1 (hQ.below hb)
  rw [h1] at H1
  rw [h2] at H2
  obtain ⟨hn, -⟩ := few_n h1
  obtain ⟨hm, -⟩ := few_n h2
  have HA := fun w1 (hb : Below w.heap.size w w1) => (alike_val (ch := ch) (ck := ck) (ca := ca) (cu := cb) hn (by omega) ob oq va vb w1 (hO.below hb) (hQ.below hb) (hA.below hb) (hBv.below hb)).mono (R' := fun e w' => e = .returned (.bool true) ∧ Below w1.heap.size w1 w') fun _ _ ⟨b, h1, h2, h3⟩ => by
    have : b = true := h2.2 hal
    subst this
    exact ⟨h1, h3⟩
  clear h1 h2
  obtain ⟨rfl, R, hR⟩ := hal
  have hlz : ((l : Int) == 0) = false := by rw [beq_eq_false_iff_ne]; omega
  have hwz : ((lw : Int) == 0) = false := by rw [beq_eq_false_iff_ne]; omega
  obtain ⟨Bw, ow, rfl, hBw, hcw⟩ := hN.at' hw0
  have n0 := hcw 0 hw0
  rw [Nat.add_zero] at n0
  have hr0 := hN.r 0 hw0
  obtain ⟨a0, ha0⟩ : ∃ a0, ns 0 = a0 := ⟨_, rfl⟩
  rw [ha0] at n0 hr0
  clear ha0
  go_enter Try.func5, Try.ntmps5
  go_wp2_with fail
  refine (awake_val _).mono ?_
  rintro e w1 ⟨rfl, hB⟩
  go_wp2_with fail
  refine (H1 _ hB).mono ?_
  rintro e w2 ⟨rfl, rfl⟩
  go_wp2_with fail
  refine (H2 _ hB).mono ?_
  rintro e w2 ⟨rfl, rfl⟩
  go_wp2_with fail
  refine (HA _ hB).mono ?_
  rintro e w2 ⟨rfl, hb⟩
  have hB2 := bthen hB hb
  have c0 : w2.cell? ⟨Bw, ow, none⟩ = some (.int .i64 a0) := by rw [hB2.cell hBw]; exact n0
  clear H1 H2 HA hB hb
  obtain ⟨q, hq, EQ⟩ := at_of a0 hl0 (by omega)
  obtain ⟨Ba, oa, rfl, hBa, hca⟩ := (hA.below hB2).at' hl0
  obtain ⟨Bb, ob', rfl, hBb, hcb⟩ := (hBv.below hB2).at' hl0
  obtain ⟨e0, e1⟩ := hca q hq
  obtain ⟨d0, d1⟩ := hcb q hq
  have hokq := hR.v q hq
  generalize va q = xv at *
  generalize vb q = yv at *
  clear hca hcb
  have hst : DeepSt w ((w2.alloc (Obj.cells #[.string xv.1, .int .i64 xv.2] 25)).alloc (Obj.cells #[.string yv.1, .int .i64 yv.2] 25)) w2.heap.size (w2.heap.size + 1) n m R := by
    obtain ⟨hx, hy, hb⟩ := boxes2 (c1 := [.string xv.1, .int .i64 xv.2]) (c2 := [.string yv.1, .int .i64 yv.2]) (t1 := 25) (t2 := 25) (Below.refl _ _)
    exact ⟨bthen hB2 hb, ⟨xv, yv, hx, hy, hokq⟩, hB2.size, Nat.le_succ_of_le hB2.size, by omega⟩
  clear hokq hA hBv
  go_wp2
  clear e0 e1 d0 d1 c0 n0 EQ hB2
  go_loopw [14] (fun i wr => ∃ q : Nat, q ≤ lw ∧ 1 ≤ q ∧ i = .int .i64 (q : Int) ∧ DeepSt w wr w2.heap.size (w2.heap.size + 1) n m R) (fun i _ => lw - (intOf i).toNat)
  case atStart => exact ⟨1, by omega, by omega, rfl, hst⟩
  case round =>
    clear hst
    obtain ⟨q, hq, hq1, rfl, hD⟩ := hrel
    by_cases hlt : q < lw
    · obtain ⟨hB, ⟨⟨s, x⟩, ⟨t, y⟩, hx, hy, hok⟩, hpx, hpy, hne⟩ := hD
      obtain rfl : s = t := hok.t
      have c0 := hx.c 0 _ rfl
      have c1 := hx.c 1 _ rfl
      have d0 := hy.c 0 _ rfl
      have d1 := hy.c 1 _ rfl
      dsimp only at hx hy c0 c1 d0 d1
      have hz : ∃ z, (x == 0) = z ∧ (y == 0) = z := by
        refine ⟨(x == 0), rfl, ?_⟩
        cases hs : (s.toList == [114, 101, 102])
        · have : x = y := hok.p hs
          rw [this]
        · have := hok.z hs
          dsimp only at this
          rw [Bool.eq_iff_iff]
          simp only [beq_iff_eq]
          exact this.symm
      obtain ⟨z, z1, z2⟩ := hz
      have hcase : ((s.toList == [114, 101, 102]) = false ∧ (x != y) = false) ∨ (s.toList == [114, 101, 102]) = true := by
        cases hs : (s.toList == [114, 101, 102])
        · have : x = y := hok.p hs
          exact .inl ⟨rfl, by simp [this]⟩
        · exact .inr rfl
      obtain ⟨a, ha⟩ : ∃ a, ns q = a := ⟨_, rfl⟩
      have hl1 := load_ok hR hok a
      rcases hL1 : loadV n ob (s, x) a with ⟨⟨r1, m1⟩, ok⟩
      rcases hL2 : loadV m oq (s, y) a with ⟨⟨r2, m2⟩, is⟩
      rw [hL1, hL2] at hl1
      obtain ⟨e1, e2⟩ := hl1
      have e1 : ok = is := e1
      subst e1
      have HL1 := fun w1 (hb : Below w.heap.size w w1) => load_val ph n ch ob s x a r1 m1 ok hL1 w1 (hO.below hb)
      have HL2 := fun w1 (hb : Below w.heap.size w w1) => load_val pk m ck oq s y a r2 m2 ok hL2 w1 (hQ.below hb)
      have GN : ∀ w1, Below w.heap.size w w1 → w1.cell? ⟨Bw, ow + q, none⟩ = some (.int .i64 a) := fun w1 hb => by rw [hb.cell hBw, ← ha]; exact hcw q hlt
      have G : ∀ w1, Below wr.heap.size wr w1 → w1.cell? ⟨w2.heap.size, 0, none⟩ = some (.string s) ∧ w1.cell? ⟨w2.heap.size, 1, none⟩ = some (.int .i64 x) ∧ w1.cell? ⟨w2.heap.size + 1, 0, none⟩ = some (.string s) ∧ w1.cell? ⟨w2.heap.size + 1, 1, none⟩ = some (.int .i64 y) ∧ w1.cell? ⟨Bw, ow + q, none⟩ = some (.int .i64 a) ∧ Below w.heap.size w w1 := fun w1 hb =>
        ⟨(hx.nx hb).c 0 _ rfl, (hx.nx hb).c 1 _ rfl, (hy.nx hb).c 0 _ rfl, (hy.nx hb).c 1 _ rfl, GN _ (bthen hB hb), bthen hB hb⟩
      have hss : (s.toList == s.toList) = true := by simp
      clear hok hL1 hL2 ha
      rcases hcase with ⟨r0, r2⟩ | r0
      all_goals
        go_wp2
        clear c0 c1 d0 d1 hss z1 z2 r0
        try clear r2
        refine wp_region_serF (S := SBox wr 10 11 [.string { data := #[] }, .int .i64 0] [.string r1, .int .i64 m1]) rfl (by kernel_rfl) (SBox.start (Below.refl _ _).drew) ?_
        iterate 6 (first | ((refine SerF.step (a1 := ?_) (fun _ => rfl) (fun V L w1 K' Q' hS hi hR hd hK => ?_) ?_ ?_ ?_; rotate_left); (· ((skip); go_simp; (try simp only [Act.put, List.setIfInBounds_toArray, List.set_cons_zero, List.set_cons_succ]); exact hK.out _ (hS.keep rfl rfl))); (· (intro V; rfl)); (· (exact fun _ _ _ _ _ _ => rfl))) | ((refine SerF.step (a1 := ?_) (fun _ => rfl) (fun V L w1 K' Q' hS hi hR hd hK => ?_) ?_ ?_ ?_; rotate_left); (· ((obtain ⟨g0, g1, g2, g3, g4, -⟩ := G _ hS.1); go_simp; (try simp only [Act.put, List.setIfInBounds_toArray, List.set_cons_zero, List.set_cons_succ]); exact hK.out _ (hS.keep rfl rfl))); (· (intro V; rfl)); (· (exact fun _ _ _ _ _ _ => rfl))))
        ((refine SerF.step (a1 := ?_) (fun _ => rfl) (fun V L w1 K' Q' hS hi hR hd hK => ?_) ?_ ?_ ?_; rotate_left); (· (go_simp; go_wp2_with ((go_at_call 12; refine (HL1 _ (G _ hS.1).2.2.2.2.2).mono ?_; rintro e w3 ⟨rfl, hb⟩)); (try simp only [Act.put, List.setIfInBounds_toArray, List.set_cons_zero, List.set_cons_succ]); exact hK.out _ (hS.call hb rfl rfl))); (· (intro V; rfl)); (· (exact fun _ _ _ _ _ _ => rfl)))
        ((refine SerF.step (a1 := ?_) (fun _ => rfl) (fun V L w1 K' Q' hS hi hR hd hK => ?_) ?_ ?_ ?_; rotate_left); (· ((skip); go_simp; (try simp only [Act.put, List.setIfInBounds_toArray, List.set_cons_zero, List.set_cons_succ]); exact hK.out _ (hS.keep rfl rfl))); (· (intro V; rfl)); (· (exact fun _ _ _ _ _ _ => rfl)))
        ((refine SerF.step (a1 := ?_) (fun _ => rfl) (fun V L w1 K' Q' hS hi hR hd hK => ?_) ?_ ?_ ?_; rotate_left); (· ((skip); go_simp; (try simp only [Act.put, List.setIfInBounds_toArray, List.set_cons_zero, List.set_cons_succ]); exact hK.out _ (hS.keep rfl rfl))); (· (intro V; rfl)); (· (exact fun _ _ _ _ _ _ => rfl)))
        ((refine SerF.step (a1 := ?_) (fun _ => rfl) (fun V L w1 K' Q' hS hi hR hd hK => ?_) ?_ ?_ ?_; rotate_left); (· ((skip); go_simp; (try simp only [Act.put, List.setIfInBounds_toArray, List.set_cons_zero, List.set_cons_succ]); exact hK.out _ (hS.keep rfl rfl))); (· (intro V; rfl)); (· (exact fun _ _ _ _ _ _ => rfl)))
        (refine SerF.free (fun _ => rfl) (fun V L w1 K' Q' hS hi hR hd hK => ?_) ?_; (· (go_simp; (try simp only [Act.put, List.setIfInBounds_toArray, List.set_cons_zero, List.set_cons_succ]); exact hK.out _ _ rfl (hS.made rfl hi _))); (try simp only [Act.put, List.setIfInBounds_toArray, List.set_cons_zero, List.set_cons_succ]))
        refine SerF.val undef (fun _ => rfl) (fun V L w1 K' Q' hS hi hR' hd hK => ?_) ?_
        · (have hl := hd.out (10) (by kernel_rfl); obtain ⟨p, hp, hp0, hp1, hx⟩ := hS.at hl hi; have c0 := hx.c 0 _ rfl; have c1 := hx.c 1 _ rfl; have f0 := hx.f 0 (by decide); have f1 := hx.f 1 (by decide); go_simp; refine hK.out _ _ (by simp only [hp]; rfl) (hS.fill hl hp hp0 (by simpa using hp1) ((hS.1.setCell hp0 _).setCell hp0 _) (hx.set2 _ _) rfl))
        simp only [Act.put]
        ((refine SerF.step (a1 := ?_) (fun _ => rfl) (fun V L w1 K' Q' hS hi hR hd hK => ?_) ?_ ?_ ?_; rotate_left); (· ((skip); go_simp; (try simp only [Act.put, List.setIfInBounds_toArray, List.set_cons_zero, List.set_cons_succ]); exact hK.out _ (hS.keep rfl rfl))); (· (intro V; rfl)); (· (exact fun _ _ _ _ _ _ => rfl)))
        refine SerF.nil fun V w3 hS => ?_
        obtain ⟨p1, hp1, hpa1, hpb1, hx1⟩ := hS.done rfl rfl
        have hb3 := hS.1
        simp only [hp1]
        clear hS hp1
        go_wp2
        refine wp_region_serF (S := SBox w3 10 11 [.string { data := #[] }, .int .i64 0] [.string r2, .int .i64 m2]) rfl (by kernel_rfl) (SBox.start (Below.refl _ _).drew) ?_
        iterate 6 (first | ((refine SerF.step (a1 := ?_) (fun _ => rfl) (fun V L w1 K' Q' hS hi hR hd hK => ?_) ?_ ?_ ?_; rotate_left); (· ((skip); go_simp; (try simp only [Act.put, List.setIfInBounds_toArray, List.set_cons_zero, List.set_cons_succ]); exact hK.out _ (hS.keep rfl rfl))); (· (intro V; rfl)); (· (exact fun _ _ _ _ _ _ => rfl))) | ((refine SerF.step (a1 := ?_) (fun _ => rfl) (fun V L w1 K' Q' hS hi hR hd hK => ?_) ?_ ?_ ?_; rotate_left); (· ((obtain ⟨g0, g1, g2, g3, g4, -⟩ := G _ (bthen hb3 hS.1)); go_simp; (try simp only [Act.put, List.setIfInBounds_toArray, List.set_cons_zero, List.set_cons_succ]); exact hK.out _ (hS.keep rfl rfl))); (· (intro V; rfl)); (· (exact fun _ _ _ _ _ _ => rfl))))
        ((refine SerF.step (a1 := ?_) (fun _ => rfl) (fun V L w1 K' Q' hS hi hR hd hK => ?_) ?_ ?_ ?_; rotate_left); (· (go_simp; go_wp2_with ((go_at_call 12; refine (HL2 _ (G _ (bthen hb3 hS.1)).2.2.2.2.2).mono ?_; rintro e w4 ⟨rfl, hb⟩)); (try simp only [Act.put, List.setIfInBounds_toArray, List.set_cons_zero, List.set_cons_succ]); exact hK.out _ (hS.call hb rfl rfl))); (· (intro V; rfl)); (· (exact fun _ _ _ _ _ _ => rfl)))
        ((refine SerF.step (a1 := ?_) (fun _ => rfl) (fun V L w1 K' Q' hS hi hR hd hK => ?_) ?_ ?_ ?_; rotate_left); (· ((skip); go_simp; (try simp only [Act.put, List.setIfInBounds_toArray, List.set_cons_zero, List.set_cons_succ]); exact hK.out _ (hS.keep rfl rfl))); (· (intro V; rfl)); (· (exact fun _ _ _ _ _ _ => rfl)))
        ((refine SerF.step (a1 := ?_) (fun _ => rfl) (fun V L w1 K' Q' hS hi hR hd hK => ?_) ?_ ?_ ?_; rotate_left); (· ((skip); go_simp; (try simp only [Act.put, List.setIfInBounds_toArray, List.set_cons_zero, List.set_cons_succ]); exact hK.out _ (hS.keep rfl rfl))); (· (intro V; rfl)); (· (exact fun _ _ _ _ _ _ => rfl)))
        ((refine SerF.step (a1 := ?_) (fun _ => rfl) (fun V L w1 K' Q' hS hi hR hd hK => ?_) ?_ ?_ ?_; rotate_left); (· ((skip); go_simp; (try simp only [Act.put, List.setIfInBounds_toArray, List.set_cons_zero, List.set_cons_succ]); exact hK.out _ (hS.keep rfl rfl))); (· (intro V; rfl)); (· (exact fun _ _ _ _ _ _ => rfl)))
        (refine SerF.free (fun _ => rfl) (fun V L w1 K' Q' hS hi hR hd hK => ?_) ?_; (· (go_simp; (try simp only [Act.put, List.setIfInBounds_toArray, List.set_cons_zero, List.set_cons_succ]); exact hK.out _ _ rfl (hS.made rfl hi _))); (try simp only [Act.put, List.setIfInBounds_toArray, List.set_cons_zero, List.set_cons_succ]))
        refine SerF.val undef (fun _ => rfl) (fun V L w1 K' Q' hS hi hR' hd hK => ?_) ?_
        · (have hl := hd.out (10) (by kernel_rfl); obtain ⟨p, hp, hp0, hp1, hx⟩ := hS.at hl hi; have c0 := hx.c 0 _ rfl; have c1 := hx.c 1 _ rfl; have f0 := hx.f 0 (by decide); have f1 := hx.f 1 (by decide); go_simp; refine hK.out _ _ (by simp only [hp]; rfl) (hS.fill hl hp hp0 (by simpa using hp1) ((hS.1.setCell hp0 _).setCell hp0 _) (hx.set2 _ _) rfl))
        simp only [Act.put]
        ((refine SerF.step (a1 := ?_) (fun _ => rfl) (fun V L w1 K' Q' hS hi hR hd hK => ?_) ?_ ?_ ?_; rotate_left); (· ((skip); go_simp; (try simp only [Act.put, List.setIfInBounds_toArray, List.set_cons_zero, List.set_cons_succ]); exact hK.out _ (hS.keep rfl rfl))); (· (intro V; rfl)); (· (exact fun _ _ _ _ _ _ => rfl)))
        refine SerF.nil fun V w4 hS => ?_
        obtain ⟨p2, hp2, hpa2, hpb2, hx2⟩ := hS.done rfl rfl
        have hb4 := bthen hb3 hS.1
        have hx1 := hx1.nx hS.1
        simp only [hp2]
        clear hS hp2 G GN HL1 HL2
        have hB4 := bthen hB hb4
        have hpx3 : w2.heap.size < wr.heap.size := hx.lt
        have hpy3 : w2.heap.size + 1 < wr.heap.size := hy.lt
        have hx := hx.nx hb4
        have hy := hy.nx hb4
        cases ok
        · clear hx hy hx1 hx2
          go_wp2
          go_ret
          exact ⟨rfl, hB4⟩
        · have c0 := hx.c 0 _ rfl
          have c1 := hx.c 1 _ rfl
          have f0 := hx.f 0 (by simp)
          have f1 := hx.f 1 (by simp)
          have a0' := hx1.c 0 _ rfl
          have a1' := hx1.c 1 _ rfl
          have hW5 : DeepSt w ((((w4.setCell ⟨w2.heap.size, 0, none⟩ (.string r1)).setCell ⟨w2.heap.size, 1, none⟩ (.int .i64 m1)).setCell ⟨w2.heap.size + 1, 0, none⟩ (.string r2)).setCell ⟨w2.heap.size + 1, 1, none⟩ (.int .i64 m2)) w2.heap.size (w2.heap.size + 1) n m R :=
            ⟨(((hB4.setCell (p := ⟨w2.heap.size, 0, none⟩) hpx _).setCell (p := ⟨w2.heap.size, 1, none⟩) hpx _).setCell (p := ⟨w2.heap.size + 1, 0, none⟩) hpy _).setCell (p := ⟨w2.heap.size + 1, 1, none⟩) hpy _,
              ⟨(r1, m1), (r2, m2), ((hx.set2 _ _).far (q := ⟨w2.heap.size + 1, 0, none⟩) (by dsimp only; omega) _).far (q := ⟨w2.heap.size + 1, 1, none⟩) (by dsimp only; omega) _,
                ((hy.far (q := ⟨w2.heap.size, 0, none⟩) (by dsimp only; omega) _).far (q := ⟨w2.heap.size, 1, none⟩) (by dsimp only; omega) _).set2 _ _, e2 rfl⟩, hpx, hpy, hne⟩
          have hy5 := (hy.far (q := ⟨w2.heap.size, 0, none⟩) (by dsimp only; omega) (.string r1)).far (q := ⟨w2.heap.size, 1, none⟩) (by dsimp only; omega) (.int .i64 m1)
          have hx25 := (hx2.far (q := ⟨w2.heap.size, 0, none⟩) (by dsimp only; omega) (.string r1)).far (q := ⟨w2.heap.size, 1, none⟩) (by dsimp only; omega) (.int .i64 m1)
          have d0 := hy5.c 0 _ rfl
          have d1 := hy5.c 1 _ rfl
          have k0 := hy5.f 0 (by simp)
          have k1 := hy5.f 1 (by simp)
          have b0' := hx25.c 0 _ rfl
          have b1' := hx25.c 1 _ rfl
          clear hx hy hx1 hx2 hy5 hx25
          go_wp2
          go_roundw
          case rel => exact ⟨q + 1, by omega, by omega, by go_num, hW5⟩
          case measure => simp [intOf]; omega
    · obtain rfl : lw = q := by omega
      have hBf := hD.b
      clear hD
      go_wp2
      go_ret
      exact ⟨rfl, hBf⟩
end Go.Proofs.Ytndakhnplnamdaa
