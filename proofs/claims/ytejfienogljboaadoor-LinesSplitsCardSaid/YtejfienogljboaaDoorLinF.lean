/- back, there: the same lines in a row of the call's own. -/
import Derived.Test.YtejfienogljboaaDoorLinE
namespace Go.Proofs.YtejfienogljboaaDoor
open Go.RowKit

def ivC (ns : Nat → Int) (us : Nat → Value) (i k : Nat) : Value := if k = 0 then .int .i64 (ns i) else us i
theorem iv_at {w : World} {B : Nat} {T : TypeId} {v : Value} {l : List LnI} {ns : Nat → Int} {us : Nat → Value} (h : Owns w B T 2 v l.length (ivC ns us)) (hr : ∀ (i : Nat) x, l[i]? = some x → ns i = x.1 ∧ StrAt w (us i) x.2) : LinesAt w v l := by
  obtain ⟨pu, cu, rfl⟩ := h.slice
  refine ⟨pu, cu, rfl, fun i x hx => ?_⟩
  have hi : i < l.length := by
    rcases Nat.lt_or_ge i l.length with h1 | h1
    · exact h1
    · rw [List.getElem?_eq_none h1] at hx; cases hx
  obtain ⟨g, cu', e, _, _, _, hc, _⟩ := h.at (by omega)
  injection e with e1 e2 e3
  subst e1
  refine ⟨_, us i, rfl, ?_, ?_, (hr i x hx).2⟩
  · have := hc i 0 hi (by omega)
    rw [Nat.add_zero] at this
    rw [add_at, Nat.zero_add, this]
    simp [ivC, (hr i x hx).1]
  · have := hc i 1 hi (by omega)
    rw [add_at, Nat.zero_add]
    dsimp only
    rw [this]
    simp [ivC]
theorem iv_one {n : Int} {u : Value} (h : u.oneCell' = true) : ∀ x ∈ [Value.int .i64 n, u], x.oneCell' = true := by
  intro x hx
  simp only [List.mem_cons, List.not_mem_nil, or_false] at hx
  rcases hx with rfl | rfl
  · rfl
  · exact h
/-- what lies in the rows read -/
structure Src (w : World) (p : Option Addr) (l : List LnI) (ns : Nat → Int) (us : Nat → Value) : Prop where
  c : ∀ i, i < l.length → ∃ a, p = some a ∧ w.cell? (a.add (i * 2)) = some (.int .i64 (ns i)) ∧ w.cell? ⟨(a.add (i * 2)).block, (a.add (i * 2)).off + 1, none⟩ = some (us i)
  r : ∀ (i : Nat) x, l[i]? = some x → ns i = x.1 ∧ StrAt w (us i) x.2
theorem src {w : World} {p : Option Addr} {cu n : Nat} {l : List LnI} (h : LinesAt w (.slice p n cu) l) : n = l.length ∧ ∃ ns us, Src w p l ns us := by
  obtain ⟨p', cu', e, h⟩ := h
  injection e with e1 e2 e3
  subst e1 e2 e3
  refine ⟨rfl, ?_⟩
  have H : ∀ i, ∃ u, ∀ (x : LnI), l[i]? = some x → ∃ a, p = some a ∧ w.cell? (a.add (i * 2)) = some (.int .i64 x.1) ∧ w.cell? ⟨(a.add (i * 2)).block, (a.add (i * 2)).off + 1, none⟩ = some u ∧ StrAt w u x.2 := fun i => by
    cases hx : l[i]? with
    | none => exact ⟨.slice none 0 0, fun x e => by cases e⟩
    | some y =>
      obtain ⟨a, u, h1, h2, h3, h4⟩ := h i y hx
      exact ⟨u, fun x e => by cases e; exact ⟨a, h1, h2, h3, h4⟩⟩
  obtain ⟨us, hus⟩ := Classical.axiomOfChoice H
  refine ⟨fun i => match l[i]? with | some x => x.1 | none => 0, us, fun i hi => ?_, fun i x hx => ?_⟩
  · obtain ⟨a, h1, h2, h3, _⟩ := hus i l[i] (by simp [hi])
    refine ⟨a, h1, ?_, h3⟩
    rw [h2]
    simp [hi]
  · obtain ⟨a, h1, h2, h3, h4⟩ := hus i x hx
    exact ⟨by rw [hx], h4⟩

theorem Stg.lo {i j k l : Nat} {X0 X2 X3 X4 : (Nat → Value) → World → Prop} {V : Nat → Value} {L : Nat → Bool} {w1 : World} (h : Stg i j k l X0 X0 X2 X3 X4 V L w1) (h2 : L j = false) (h3 : L k = false) (h4 : L l = false) : X0 V w1 := by
  unfold Stg at h
  rw [h2, h3, h4] at h
  simp only [Bool.false_eq_true, if_false] at h
  split at h <;> exact h
def CopyPost (w : World) (l : List LnI) (e : Ending) (w' : World) : Prop := ∃ v, e = .returned v ∧ Below w.heap.size w w' ∧ LinesAt w' v l

def CopyPostN (w : World) (l : List LnI) (e : Ending) (w' : World) : Prop := ∃ v, e = .returned v ∧ Below w.heap.size w w' ∧ LinesAt w' v l ∧ ∀ n c, v = .slice none n c → n = 0 ∧ c = 0
theorem Owns.none_nil {w : World} {B : Nat} {e : TypeId} {s : Nat} {v : Value} {n : Nat} {f : Nat → Nat → Value} (h : Owns w B e s v n f) : ∀ k c, v = .slice none k c → k = 0 ∧ c = 0 := by
  intro k c e
  rcases h.2 with ⟨rfl, rfl⟩ | ⟨g, cap, cur, rfl, _⟩
  · injection e with _ e1 e2
    exact ⟨e1.symm, e2.symm⟩
  · injection e with e0
    cases e0
set_option maxHeartbeats 4000000 in
theorem back_valN (l : List LnI) (hn : l.length ≤ 4194305) (v : Value) (w : World) (hl : LinesAt w v l) : Calls Tryd.prog 13 #[v] w (CopyPostN w l) := by
  obtain ⟨i1, hj, hy0, hy1, hy2⟩ := info_parts infoR
  obtain ⟨p, cu, rfl, hl'⟩ := hl
  obtain ⟨_, ns, us, hS⟩ := src ⟨p, cu, rfl, hl'⟩
  clear hl'
  go_enter Tryd.func13, Tryd.ntmps13
  go_wp2
  go_loopw [3, 4] (fun o i wr => ∃ q : Nat, q ≤ l.length ∧ i = .int .i64 (q : Int) ∧ Below w.heap.size w wr ∧ Owns wr w.heap.size 41 2 o q (ivC ns us)) (fun _ i _ => l.length - (intOf i).toNat)
  case atStart => exact ⟨0, Nat.zero_le _, rfl, Below.refl _ _, Owns.nil⟩
  case round =>
    obtain ⟨q, hq, rfl, hb, ho⟩ := hrel
    obtain ⟨pu, ku, rfl⟩ := ho.slice
    by_cases hend : q = l.length
    · subst hend
      have hP : CopyPostN w l (.returned (.slice pu l.length ku)) wr := ⟨_, rfl, hb, iv_at ho fun i x hx => ⟨(hS.r i x hx).1, (hS.r i x hx).2.next hb (Nat.le_refl _)⟩, ho.none_nil⟩
      clear hS ho hb
      go_wp2
      go_ret
      exact hP
    · have hlt : q < l.length := by omega
      have hltI : (q : Int) < (l.length : Int) := by omega
      obtain ⟨a, rfl, hc0, hc1⟩ := hS.c q hlt
      obtain ⟨pw, cw, hu, _⟩ := (hS.r q l[q] (by simp [hlt])).2
      have ha : a.block < w.heap.size := by rw [← add_block a (q * 2)]; exact cells_lt hc0
      have c0 : wr.drew.cell? (a.add (q * 2)) = some (.int .i64 (ns q)) := by rw [← hc0]; exact hb.drew.cell (by rw [add_block]; exact ha)
      have c1 : wr.drew.cell? ⟨(a.add (q * 2)).block, (a.add (q * 2)).off + 1, none⟩ = some (us q) := by rw [← hc1]; exact hb.drew.cell (by show (a.add (q * 2)).block < _; rw [add_block]; exact ha)
      have ho2 := ho.drew
      have hbd := hb.drew
      have hfin : ∀ w2 v', (wr.drew.alloc (.cells #[.int .i64 (ns q), us q] 41)).grownBy w2 (Value.slice pu q ku).ownBlock → w2.ownsRow w.heap.size 41 2 v' (q + 1) (rowC 2 q (ivC ns us) ++ [.int .i64 (ns q), us q]) → Below w.heap.size w w2 ∧ Owns w2 w.heap.size 41 2 v' (q + 1) (ivC ns us) := fun w2 v' hg hown =>
        ⟨(hbd.alloc hbd.size _).grown hg (by have := hb.size; simp; omega) fun g e => (ho.lt g e).1, Owns.push hown (fun _ _ _ _ => rfl) (by simp [List.range_succ, ivC])⟩
      have hbz : w.heap.size ≤ wr.heap.size := hb.size
      rw [hu] at c1 hfin
      clear hS hc0 hc1 ho hb hu hbd
      generalize l[q].2.length = nw at *
      generalize ns q = nq at *
      go_wp2
      refine wp_region_serF (S := Stg 77 12 13 14 (fun _ v => v = wr.drew) (fun _ v => v = wr.drew) (fun V v => V 12 = .slice (some ⟨wr.drew.heap.size, 0, none⟩) 1 1 ∧ v = wr.drew.alloc (.cells #[.int .i64 nq, .slice pw nw cw] 41)) (fun V v => (∃ pu2 cu2, V 13 = .slice pu2 (q + 1) cu2) ∧ Below w.heap.size w v ∧ Owns v w.heap.size 41 2 (V 13) (q + 1) (ivC ns us)) (fun V v => (∃ pu2 cu2, V 14 = .slice pu2 (q + 1) cu2) ∧ Below w.heap.size w v ∧ Owns v w.heap.size 41 2 (V 14) (q + 1) (ivC ns us))) rfl (by kernel_rfl) (Stg.start rfl) ?_
      iterate 5 (((refine SerF.step (a1 := ?_) (fun _ => rfl) (fun V L w1 K' Q' hS hi hR hd hK => ?_) ?_ ?_ ?_; rotate_left); (· ((skip); go_simp; (try simp only [Act.put, List.setIfInBounds_toArray, List.set_cons_zero, List.set_cons_succ]); exact hK.out _ (hS.keep rfl rfl rfl rfl))); (· (intro V; rfl)); (· (exact fun _ _ _ _ _ _ => rfl))))
      ((refine SerF.step (a1 := ?_) (fun _ => rfl) (fun V L w1 K' Q' hS hi hR hd hK => ?_) ?_ ?_ ?_; rotate_left); (· ((have a11 := hR.out 11 5 (by kernel_rfl) hi; have a12 := hR.out 12 11 (by kernel_rfl) a11; have a13 := hR.out 13 12 (by kernel_rfl) a12; have a14 := hR.out 14 13 (by kernel_rfl) a13; have e0 := hS.lo a12 a13 a14; subst e0); go_simp; (try simp only [Act.put, List.setIfInBounds_toArray, List.set_cons_zero, List.set_cons_succ]); exact hK.out _ (hS.keep rfl rfl rfl rfl))); (· (intro V; rfl)); (· (exact fun _ _ _ _ _ _ => rfl)))
      iterate 4 (((refine SerF.step (a1 := ?_) (fun _ => rfl) (fun V L w1 K' Q' hS hi hR hd hK => ?_) ?_ ?_ ?_; rotate_left); (· ((skip); go_simp; (try simp only [Act.put, List.setIfInBounds_toArray, List.set_cons_zero, List.set_cons_succ]); exact hK.out _ (hS.keep rfl rfl rfl rfl))); (· (intro V; rfl)); (· (exact fun _ _ _ _ _ _ => rfl))))
      ((refine SerF.step (a1 := ?_) (fun _ => rfl) (fun V L w1 K' Q' hS hi hR hd hK => ?_) ?_ ?_ ?_; rotate_left); (· ((have a11 := hR.out 11 10 (by kernel_rfl) hi; have a12 := hR.out 12 11 (by kernel_rfl) a11; have a13 := hR.out 13 12 (by kernel_rfl) a12; have a14 := hR.out 14 13 (by kernel_rfl) a13; have e0 := hS.lo a12 a13 a14; subst e0); go_simp; (try simp only [Act.put, List.setIfInBounds_toArray, List.set_cons_zero, List.set_cons_succ]); exact hK.out _ (hS.keep rfl rfl rfl rfl))); (· (intro V; rfl)); (· (exact fun _ _ _ _ _ _ => rfl)))
      ((refine SerF.step (a1 := ?_) (fun _ => rfl) (fun V L w1 K' Q' hS hi hR hd hK => ?_) ?_ ?_ ?_; rotate_left); (· ((skip); go_simp; (try simp only [Act.put, List.setIfInBounds_toArray, List.set_cons_zero, List.set_cons_succ]); exact hK.out _ (hS.keep rfl rfl rfl rfl))); (· (intro V; rfl)); (· (exact fun _ _ _ _ _ _ => rfl)))
      refine SerF.free (fun _ => rfl) (fun V L w1 K' Q' hS hi hR hd hK => ?_) ?_
      · have a13 := hR.out 13 12 (by kernel_rfl) hi
        have a14 := hR.out 14 13 (by kernel_rfl) a13
        have e0 := hS.lo hi a13 a14
        subst e0
        go_simp
        (try simp only [Act.put, List.setIfInBounds_toArray, List.set_cons_zero, List.set_cons_succ])
        exact hK.out _ _ rfl (Stg.t2 ⟨rfl, rfl⟩ rfl rfl a13 a14)
      (try simp only [Act.put, List.setIfInBounds_toArray, List.set_cons_zero, List.set_cons_succ])
      refine SerF.free (fun _ => rfl) (fun V L w1 K' Q' hS hi hR hd hK => ?_) ?_
      · have a14 := hR.out 14 13 (by kernel_rfl) hi
        obtain ⟨hV, rfl⟩ := hS.s2 (hd.out 12 (by kernel_rfl)) hi a14
        refine wp_append_own _ _ 26 rfl w.heap.size 41 i1 _ 2 32 Tryd.underlying26 hj hy0 hy1 hy2 rfl (by decide) _ _ _ rfl (ho2.alloc _) ⟨wr.drew.heap.size, 0, none⟩ 1 1 [.int .i64 nq, .slice pw nw cw] hV rfl (line_news _ _ _) (iv_one rfl) (by unfold maxLen; omega) (by omega) (by simp; omega) (fun v' w' h1 h2 => ?_)
        obtain ⟨pu2, ku2, rfl⟩ := own_sl h1
        obtain ⟨g1, g2⟩ := hfin _ _ h2 h1
        exact hK.out _ _ rfl (Stg.t3 ⟨⟨_, _, rfl⟩, g1, g2⟩ rfl a14)
      (try simp only [Act.put, List.setIfInBounds_toArray, List.set_cons_zero, List.set_cons_succ])
      refine SerF.free (fun _ => rfl) (fun V L w1 K' Q' hS hi hR hd hK => ?_) ?_
      · have hX := Lib.hid (hS.s3 (hd.out 13 (by kernel_rfl)) hi)
        go_simp
        (try simp only [Act.put, List.setIfInBounds_toArray, List.set_cons_zero, List.set_cons_succ])
        exact hK.out _ _ rfl (Stg.t4 hX.out)
      (try simp only [Act.put, List.setIfInBounds_toArray, List.set_cons_zero, List.set_cons_succ])
      refine SerF.nil fun V w1 hS => ?_
      obtain ⟨⟨pu2, cu2, hV⟩, hb2, ho3⟩ := hS.s4 rfl
      rw [hV] at ho3
      simp only [hV]
      clear hS hfin ho2 c0 c1 hV
      go_wp2
      go_roundw
      case rel => exact ⟨q + 1, by omega, by go_num, hb2, ho3⟩
      case measure => simp [intOf]; omega
theorem back_val (l : List LnI) (hn : l.length ≤ 4194305) (v : Value) (w : World) (hl : LinesAt w v l) : Calls Tryd.prog 13 #[v] w (CopyPost w l) := by
  refine (back_valN l hn v w hl).mono ?_
  rintro e w' ⟨v, h1, h2, h3, -⟩
  exact ⟨v, h1, h2, h3⟩
end Go.Proofs.YtejfienogljboaaDoor
