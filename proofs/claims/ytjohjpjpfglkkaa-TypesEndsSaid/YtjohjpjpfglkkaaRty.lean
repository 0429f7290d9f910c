/- The reference's types: whether each type is declared, and no name there twice. -/
import Derived.Test.YtjohjpjpfglkkaaClS
namespace Go.Proofs.Ytjohjpjpfglkkaa
open Go.RowKit

theorem known_ref (p : Pg) (t : ByteArray) : knownB p t = (!isRf t || (findB Cl.n t p.cs).isSome) := by
  unfold knownB isRf
  by_cases h1 : t = intS <;> by_cases h2 : t = floatS <;> simp [h1, h2]
theorem decl_iff (p : Pg) (l : List Vr) : declB p l = true ↔ (∀ v ∈ l, knownB p v.t = true) ∧ (l.map Vr.n).Nodup := by
  unfold declB
  rw [Bool.and_eq_true, List.all_eq_true, unl_iff]
  simp
theorem nodup_next {α : Type} {l : List α} {f : α → ByteArray} {q : Nat} (hq : q < l.length) (h : ((l.take q).map f).Nodup) (hn : ∀ k, (h : k < q) → f l[k] ≠ f l[q]) : ((l.take (q + 1)).map f).Nodup := by
  rw [List.take_add_one, List.getElem?_eq_getElem hq]
  simp only [Option.toList_some, List.map_append, List.map_cons, List.map_nil]
  rw [List.nodup_append]
  refine ⟨h, by simp, ?_⟩
  intro a ha b hb
  obtain rfl : b = f l[q] := by simpa using hb
  obtain ⟨x, hx, rfl⟩ := List.mem_map.1 ha
  obtain ⟨i, hi, rfl⟩ := List.getElem_of_mem hx
  simp only [List.length_take] at hi
  rw [List.getElem_take]
  exact hn i (by omega)
theorem nodup_no {α : Type} {l : List α} {f : α → ByteArray} {k q : Nat} (hk : k < q) (hq : q < l.length) (h : f (l[k]'(by omega)) = f l[q]) : ¬ (l.map f).Nodup := by
  intro hn
  have h2 := List.pairwise_iff_getElem.1 hn k q (by simp; omega) (by simp; omega) hk
  simp only [List.getElem_map] at h2
  exact h2 h
set_option maxHeartbeats 8000000 in
set_option maxRecDepth 100000 in
theorem rtypes_val {w0 w : World} (h0 : Below w0.heap.size w0 w) {p : Pg} {v u1 u2 u3 u4 : Value} (hp : ValP w0 v p u1 u2 u3 u4) {l : List Vr} {u : Value} {w9 : World} (h9 : Below w9.heap.size w9 w) (hl : Row AtV 2 w9 u l) :
    Calls Try.prog 54 #[v, u] w fun e w' => e = .returned (.bool (declB p l)) ∧ Below w.heap.size w w' := by
  have hpv := hp
  obtain ⟨rfl, -, -, -, -⟩ := hp
  obtain ⟨pl, kl, rfl, -, hn, hl⟩ := hl
  have hC := fun W (hW : Below w.heap.size w W) x => rlookC_val (bthen' h0 hW) hpv x
  have hb1 := (Below.refl w.heap.size w).alloc (Nat.le_refl _) (.cells #[.bool p.ssa, u1, u2, u3, u4] 27)
  have hP := Box.alloc w [.bool p.ssa, u1, u2, u3, u4] 27
  obtain ⟨R, hR⟩ : ∃ R, R = declB p l := ⟨_, rfl⟩
  rw [← hR]
  have hR := Lib.hid hR
  go_enter Try.func54, Try.ntmps54
  go_wp2_with fail
  go_loopw [5] (fun i wr => ∃ q : Nat, q ≤ l.length ∧ i = .int .i64 (q : Int) ∧ Below w.heap.size w wr ∧ Box wr w.heap.size [.bool p.ssa, u1, u2, u3, u4] ∧ (∀ k, (h : k < l.length) → k < q → knownB p l[k].t = true) ∧ ((l.take q).map Vr.n).Nodup) (fun i _ => l.length - (intOf i).toNat)
  case atStart => exact ⟨0, Nat.zero_le _, rfl, hb1, hP, fun k _ h => by omega, by simp⟩
  case round =>
    clear hb1 hP
    obtain ⟨q, hq, rfl, hb, hP, hK, hN⟩ := hrel
    by_cases hend : q = l.length
    · subst hend
      have hR2 : R = true := by
        rw [hR.out, decl_iff]
        refine ⟨fun v hv => ?_, by simpa using hN⟩
        obtain ⟨k, hk, rfl⟩ := List.getElem_of_mem hv
        exact hK k hk hk
      clear hl hP hK hN
      go_wp2_with fail
      go_ret
      exact ⟨by rw [hR2]; rfl, hb⟩
    · have hlt : q < l.length := by omega
      have hltI : (q : Int) < (l.length : Int) := by omega
      obtain ⟨a, rfl, ⟨c0, z0⟩, c1, z1⟩ := hl q l[q] (by simp [hlt])
      have hk9 := bthen' h9 hb
      replace c0 := keepc hk9 c0
      replace c1 := keepc hk9 c1
      have hCx := fun W (hW : Below wr.heap.size wr W) => hC W (bthen' hb hW) l[q].t
      have hRf := fun W => rref_val l[q].t W
      have hkn := known_ref p l[q].t
      generalize (findB Cl.n l[q].t p.cs) = r at *
      generalize isRf l[q].t = rf at *
      have hdr := (Below.refl wr.heap.size wr).drew
      go_wp2_with fail
      refine wp_region_serF (S := ClS wr 6 7 8 10 (cN r) (cL r) r.isSome) rfl (by kernel_rfl) (ClS.start hdr) ?_
      ((refine SerF.step (a1 := ?_) (fun _ => rfl) (fun V L w1 K' Q' hS hi hR hd hK => ?_) ?_ ?_ ?_; rotate_left); (· ((have hB := hP.nx hS.1; have q0 := hB.c 0 _ rfl; have q1 := hB.c 1 _ rfl; have q2 := hB.c 2 _ rfl; have q3 := hB.c 3 _ rfl; have q4 := hB.c 4 _ rfl); go_simp; (try simp only [Act.put, List.setIfInBounds_toArray, List.set_cons_zero, List.set_cons_succ]); exact hK.out _ (hS.keep rfl rfl rfl rfl))); (· (intro V; rfl)); (· (exact fun _ _ _ _ _ _ => rfl)))
      iterate 4 (((refine SerF.step (a1 := ?_) (fun _ => rfl) (fun V L w1 K' Q' hS hi hR hd hK => ?_) ?_ ?_ ?_; rotate_left); (· ((skip); go_simp; (try simp only [Act.put, List.setIfInBounds_toArray, List.set_cons_zero, List.set_cons_succ]); exact hK.out _ (hS.keep rfl rfl rfl rfl))); (· (intro V; rfl)); (· (exact fun _ _ _ _ _ _ => rfl))))
      ((refine SerF.step (a1 := ?_) (fun _ => rfl) (fun V L w1 K' Q' hS hi hR hd hK => ?_) ?_ ?_ ?_; rotate_left); (· ((have c1 := keepc hS.1 c1); go_simp; (try simp only [Act.put, List.setIfInBounds_toArray, List.set_cons_zero, List.set_cons_succ]); exact hK.out _ (hS.keep rfl rfl rfl rfl))); (· (intro V; rfl)); (· (exact fun _ _ _ _ _ _ => rfl)))
      refine SerF.free (fun _ => rfl) (fun V L w1 K' Q' hS hi hR' hd hK => ?_) ?_
      · go_simp
        go_wp2_with (go_at_call 11; refine (hCx _ hS.1).mono ?_; rintro e w2 ⟨hb, ho⟩; obtain ⟨q2, c2, rfl⟩ := ho.form)
        (try simp only [Act.put, List.setIfInBounds_toArray, List.set_cons_zero, List.set_cons_succ])
        exact hK.out _ _ rfl ((hS.world hb).put (fun _ => ⟨_, _, rfl⟩) (fun e => absurd e (by decide)) (fun e => absurd e (by decide)) (fun e => absurd e (by decide)))
      (try simp only [Act.put, List.setIfInBounds_toArray, List.set_cons_zero, List.set_cons_succ])
      refine SerF.free (fun _ => rfl) (fun V L w1 K' Q' hS hi hR' hd hK => ?_) ?_
      · obtain ⟨q2, c2, hV⟩ := hS.2.1 (hd.out 6 (by kernel_rfl))
        simp only [hV]
        go_simp
        (try simp only [Act.put, List.setIfInBounds_toArray, List.set_cons_zero, List.set_cons_succ])
        exact hK.out _ _ (by simp only [hV]; rfl) (hS.put (fun e => absurd e (by decide)) (fun _ => ⟨_, _, rfl⟩) (fun e => absurd e (by decide)) (fun e => absurd e (by decide)))
      (try simp only [Act.put, List.setIfInBounds_toArray, List.set_cons_zero, List.set_cons_succ])
      refine SerF.free (fun _ => rfl) (fun V L w1 K' Q' hS hi hR' hd hK => ?_) ?_
      · obtain ⟨q2, c2, hV⟩ := hS.2.2.1 (hd.out 7 (by kernel_rfl))
        simp only [hV]
        go_simp
        (try simp only [Act.put, List.setIfInBounds_toArray, List.set_cons_zero, List.set_cons_succ])
        exact hK.out _ _ (by simp only [hV]; rfl) (hS.put (fun e => absurd e (by decide)) (fun e => absurd e (by decide)) (fun _ => ⟨_, _, rfl⟩) (fun e => absurd e (by decide)))
      (try simp only [Act.put, List.setIfInBounds_toArray, List.set_cons_zero, List.set_cons_succ])
      refine SerF.val (.bool r.isSome) (fun _ => rfl) (fun V L w1 K' Q' hS hi hR' hd hK => ?_) ?_
      · obtain ⟨q2, c2, hV⟩ := hS.2.2.1 (hd.out 7 (by kernel_rfl))
        simp only [hV]
        go_simp
        (try simp only [Act.put, List.setIfInBounds_toArray, List.set_cons_zero, List.set_cons_succ])
        exact hK.out _ _ (by simp only [hV]; rfl) (hS.keep rfl rfl rfl rfl)
      (try simp only [Act.put, List.setIfInBounds_toArray, List.set_cons_zero, List.set_cons_succ])
      refine SerF.free (fun _ => rfl) (fun V L w1 K' Q' hS hi hR' hd hK => ?_) ?_
      · go_simp
        (try simp only [Act.put, List.setIfInBounds_toArray, List.set_cons_zero, List.set_cons_succ])
        exact hK.out _ _ rfl ((hS.world ((Below.refl _ _).alloc (Nat.le_refl _) _)).put (fun e => absurd e (by decide)) (fun e => absurd e (by decide)) (fun e => absurd e (by decide)) (fun _ => ⟨_, _, _, rfl, hS.1.size, by simp, Box.alloc _ _ _⟩))
      (try simp only [Act.put, List.setIfInBounds_toArray, List.set_cons_zero, List.set_cons_succ])
      refine SerF.val undef (fun _ => rfl) (fun V L w1 K' Q' hS hi hR' hd hK => ?_) ?_
      · have hl := hd.out 10 (by kernel_rfl)
        obtain ⟨q2, c2, hV⟩ := hS.2.2.2.1 (hd.out 8 (by kernel_rfl))
        obtain ⟨pb, x, y, hp, hp0, hp1, hx⟩ := hS.2.2.2.2 hl
        have f0 := hx.f 0 (by simp)
        have f1 := hx.f 1 (by simp)
        have d0 := hx.c 0 _ rfl
        have d1 := hx.c 1 _ rfl
        simp only [hV, hp]
        go_simp
        refine hK.out _ _ (by simp only [hV, hp]; rfl) ((hS.fill hl hp _ _).keep rfl rfl rfl rfl)
      simp only [Act.put]
      ((refine SerF.step (a1 := ?_) (fun _ => rfl) (fun V L w1 K' Q' hS hi hR hd hK => ?_) ?_ ?_ ?_; rotate_left); (· ((skip); go_simp; (try simp only [Act.put, List.setIfInBounds_toArray, List.set_cons_zero, List.set_cons_succ]); exact hK.out _ (hS.keep rfl rfl rfl rfl))); (· (intro V; rfl)); (· (exact fun _ _ _ _ _ _ => rfl)))
      refine SerF.nil fun V w1 hS => ?_
      have hbx := hS.1
      obtain ⟨q2, c2, hV1⟩ := hS.2.1 rfl
      obtain ⟨q3, c3, hV2⟩ := hS.2.2.1 rfl
      obtain ⟨q4, c4, hV3⟩ := hS.2.2.2.1 rfl
      obtain ⟨pb, x, y, hp, hp0, hp1, hx⟩ := hS.2.2.2.2 rfl
      simp only [hV1, hV2, hV3, hp]
      clear hS hV1 hV2 hV3 hp hCx hdr
      have hb2 := bthen' hb hbx
      replace c0 := keepc hbx c0
      replace c1 := keepc hbx c1
      have hP2 := hP.nx hbx
      go_wp2_with fail
      refine (hRf _).mono ?_
      rintro e w2 ⟨rfl, rfl⟩
      clear hRf
      have hbad : rf = true → r.isSome = false → R = false := fun h1 h2 => by
        rw [hR.out, Bool.eq_false_iff]
        intro h3
        have h4 := ((decl_iff p l).1 h3).1 l[q] (by simp)
        rw [hkn, h1, h2] at h4
        cases h4
      cases hrf : (rf && !r.isSome)
      · have hkq : knownB p l[q].t = true := by
          rw [hkn]
          revert hrf
          cases rf <;> cases r.isSome <;> decide
        have hK' : ∀ k, (h : k < l.length) → k < q + 1 → knownB p l[k].t = true := fun k h h2 => by
          rcases Nat.lt_or_ge k q with h3 | h3
          · exact hK k h h3
          · obtain rfl : k = q := by omega
            exact hkq
        clear hkn hbad hK hkq hP hb hbx
        generalize hX : Lib.hid hK' = hK2
        clear hX hK'
        generalize r.isSome = ok at *
        cases rf
        all_goals
          first | (have h := hrf; simp only [Bool.true_and, Bool.not_eq_false'] at h; subst h) | skip
          clear hrf
          go_wp2_with fail
          obtain ⟨wo, rfl⟩ : ∃ wo : World, wo = wr := ⟨_, rfl⟩
          go_loopw [8] (fun i wr => ∃ j : Nat, j ≤ q ∧ i = .int .i64 (j : Int) ∧ Below w1.heap.size w1 wr ∧ ∀ k, (h : k < j) → (h2 : k < l.length) → l[k].n ≠ l[q].n) (fun i _ => q - (intOf i).toNat)
          case atStart => exact ⟨0, Nat.zero_le _, rfl, Below.refl _ _, fun k h => by omega⟩
          case round =>
            obtain ⟨j, hj, rfl, hb3, hne⟩ := hrel
            have hb4 := bthen' hb2 hb3
            by_cases hend2 : j = q
            · subst hend2
              have hN2 := nodup_next (f := Vr.n) hlt hN fun k h => hne k h (by omega)
              have hN3 := Lib.hid hN2
              have hP3 := hP2.nx hb3
              clear hN hN2 hne hl hP2 hb2 hb3 c0 c1
              go_wp2_with fail
              go_roundw
              case rel => exact ⟨j + 1, by omega, by go_num, hb4, hP3, hK2.out, hN3.out⟩
              case measure => simp [intOf]; omega
            · have hjq : j < q := by omega
              have hjqI : (j : Int) < (q : Int) := by omega
              obtain ⟨a', ha', ⟨d0, -⟩, -⟩ := hl j l[j] (by simp)
              obtain rfl : a = a' := by simpa using ha'
              have hk9 := bthen' h9 hb4
              replace d0 := keepc hk9 d0
              replace c0 := keepc hb3 c0
              have hltj : j < l.length := by omega
              have hltjI : (j : Int) < (l.length : Int) := by omega
              have hno := nodup_no (f := Vr.n) hjq hlt
              have hnx : l[j].n ≠ l[q].n → ∀ k, (h : k < j + 1) → (h2 : k < l.length) → l[k].n ≠ l[q].n := fun h1 k h h2 => by
                rcases Nat.lt_or_ge k j with h3 | h3
                · exact hne k h3 h2
                · obtain rfl : k = j := by omega
                  exact h1
              have hbad : l[j].n = l[q].n → R = false := fun h => by
                rw [hR.out, Bool.eq_false_iff]
                intro h3
                exact hno h ((decl_iff p l).1 h3).2
              replace hnx := Lib.hid hnx
              replace hbad := Lib.hid hbad
              clear hl hne hno hN hP2
              have hb5 := hb3.drew
              have hb6 := hb4.drew
              by_cases heq : l[j].n = l[q].n
              · have e1 := seq_t heq
                have hR2 := Lib.hid (hbad.out heq)
                clear hnx hbad heq
                generalize l[j].n = s1 at *
                generalize l[q].n = s2 at *
                go_wp2_with fail
                refine wp_region_ser (S := fun _ v => v = wr.drew) rfl (by kernel_rfl) rfl ?_
                iterate 11 (((refine Ser.step (a1 := ?_) rfl (fun L w1 K' Q' hS hi hR hd hK => ?_) ?_ ?_; rotate_left); (· ((subst hS); go_simp; (try simp only [Act.put, List.setIfInBounds_toArray, List.set_cons_zero, List.set_cons_succ]); exact hK.out _ (rfl))); (· rfl)))
                refine Ser.nil fun w4 hS4 => ?_
                subst hS4
                clear c0 d0 hb5 hb4 hb3 hb2
                go_wp2_with fail
                go_ret
                exact ⟨by rw [hR2.out]; rfl, hb6⟩
              · have e1 := seq_f heq
                replace hnx := Lib.hid (hnx.out heq)
                clear hbad heq
                generalize hs1 : l[j].n = s1 at *
                generalize hs2 : l[q].n = s2 at *
                clear hs1 hs2
                go_wp2_with fail
                refine wp_region_ser (S := fun _ v => v = wr.drew) rfl (by kernel_rfl) rfl ?_
                iterate 11 (((refine Ser.step (a1 := ?_) rfl (fun L w1 K' Q' hS hi hR hd hK => ?_) ?_ ?_; rotate_left); (· ((subst hS); go_simp; (try simp only [Act.put, List.setIfInBounds_toArray, List.set_cons_zero, List.set_cons_succ]); exact hK.out _ (rfl))); (· rfl)))
                refine Ser.nil fun w4 hS4 => ?_
                subst hS4
                clear c0 d0 hb4 hb3 hb2 hb6
                go_wp2_with fail
                go_roundw
                case rel => exact ⟨j + 1, by omega, by go_num, hb5, hnx.out⟩
                case measure => simp [intOf]; omega
      · simp only [Bool.and_eq_true, Bool.not_eq_true'] at hrf
        obtain ⟨e1, e2⟩ := hrf
        have hR2 := hbad e1 e2
        subst e1
        clear hbad hl hK hN hP hP2 hb hbx hkn
        go_wp2_with fail
        go_ret
        exact ⟨by rw [hR2]; rfl, hb2⟩
end Go.Proofs.Ytjohjpjpfglkkaa
