/- there: lines of the reference's as lines of the program's. -/
import Derived.Test.YtejfienogljboaaDoorLinF
namespace Go.Proofs.YtejfienogljboaaDoor
open Go.RowKit

def CopyPostI (w : World) (p : Option Addr) (l : List LnI) (e : Ending) (w' : World) : Prop :=
  ∃ v ns us, e = .returned v ∧ Below w.heap.size w w' ∧ Owns w' w.heap.size 40 2 v l.length (ivC ns us) ∧ Src w p l ns us
set_option maxHeartbeats 4000000 in
theorem there_valI (l : List LnI) (hn : l.length ≤ 4194305) (p : Option Addr) (cu : Nat) (w : World) (hl' : LinesAt w (.slice p l.length cu) l) : Calls Tryd.prog 16 #[.slice p l.length cu] w (CopyPostI w p l) := by
  obtain ⟨i1, hj, hy0, hy1, hy2⟩ := info_parts infoL
  obtain ⟨_, ns, us, hS⟩ := src hl'
  clear hl'
  go_enter Tryd.func16, Tryd.ntmps16
  go_wp2
  go_loopw [3, 4] (fun o i wr => ∃ q : Nat, q ≤ l.length ∧ i = .int .i64 (q : Int) ∧ Below w.heap.size w wr ∧ Owns wr w.heap.size 40 2 o q (ivC ns us)) (fun _ i _ => l.length - (intOf i).toNat)
  case atStart => exact ⟨0, Nat.zero_le _, rfl, Below.refl _ _, Owns.nil⟩
  case round =>
    obtain ⟨q, hq, rfl, hb, ho⟩ := hrel
    obtain ⟨pu, ku, rfl⟩ := ho.slice
    by_cases hend : q = l.length
    · subst hend
      have hP : CopyPostI w p l (.returned (.slice pu l.length ku)) wr := ⟨_, ns, us, rfl, hb, ho, hS⟩
      clear hS ho hb
      go_wp2
      go_ret
      exact hP
    · have hlt : q < l.length := by omega
      have hltI : (q : Int) < (l.length : Int) := by omega
      obtain ⟨a, rfl, hc0, hc1⟩ := hS.c q hlt
      obtain ⟨pw, cw, hu, _⟩ := (hS.r q l[q] (by simp [hlt])).2
      have ha : a.block < w.heap.size := by rw [← add_block a (q * 2)]; exact cells_lt hc0
      have c0 : wr.drew.cell? (a.add (q * 2)) = some (.int .i64 (ns q)) := by rw [← hc0]; exact hb.drew.cell (by rw [add_block]; exact ha)
      have c1 : wr.drew.cell? ⟨(a.add (q * 2)).block, (a.add (q * 2)).off + 1, none⟩ = some (us q) := by rw [← hc1]; exact hb.drew.cell (by show (a.add (q * 2)).block < _; rw [add_block]; exact ha)
      have ho2 := ho.drew
      have hbd := hb.drew
      have hfin : ∀ w2 v', (wr.drew.alloc (.cells #[.int .i64 (ns q), us q] 40)).grownBy w2 (Value.slice pu q ku).ownBlock → w2.ownsRow w.heap.size 40 2 v' (q + 1) (rowC 2 q (ivC ns us) ++ [.int .i64 (ns q), us q]) → Below w.heap.size w w2 ∧ Owns w2 w.heap.size 40 2 v' (q + 1) (ivC ns us) := fun w2 v' hg hown =>
        ⟨(hbd.alloc hbd.size _).grown hg (by have := hb.size; simp; omega) fun g e => (ho.lt g e).1, Owns.push hown (fun _ _ _ _ => rfl) (by simp [List.range_succ, ivC])⟩
      have hbz : w.heap.size ≤ wr.heap.size := hb.size
      rw [hu] at c1 hfin
      clear hS hc0 hc1 ho hb hu hbd
      generalize l[q].2.length = nw at *
      generalize ns q = nq at *
      go_wp2
      refine wp_region_serF (S := Stg 77 12 13 14 (fun _ v => v = wr.drew) (fun _ v => v = wr.drew) (fun V v => V 12 = .slice (some ⟨wr.drew.heap.size, 0, none⟩) 1 1 ∧ v = wr.drew.alloc (.cells #[.int .i64 nq, .slice pw nw cw] 40)) (fun V v => (∃ pu2 cu2, V 13 = .slice pu2 (q + 1) cu2) ∧ Below w.heap.size w v ∧ Owns v w.heap.size 40 2 (V 13) (q + 1) (ivC ns us)) (fun V v => (∃ pu2 cu2, V 14 = .slice pu2 (q + 1) cu2) ∧ Below w.heap.size w v ∧ Owns v w.heap.size 40 2 (V 14) (q + 1) (ivC ns us))) rfl (by kernel_rfl) (Stg.start rfl) ?_
      iterate 5 (((refine SerF.step (a1 := ?_) (fun _ => rfl) (fun V L w1 K' Q' hS hi hR hd hK => ?_) ?_ ?_ ?_; rotate_left); (· ((skip); go_simp; (try simp only [Act.put, List.setIfInBounds_toArray, List.set_cons_zero, List.set_cons_succ]); exact hK.out _ (hS.keep rfl rfl rfl rfl))); (· (intro V; rfl)); (· (exact fun _ _ _ _ _ _ => rfl))))
      ((refine SerF.step (a1 := ?_) (fun _ => rfl) (fun V L w1 K' Q' hS hi hR hd hK => ?_) ?_ ?_ ?_; rotate_left); (· ((have a11 := hR.out 11 5 (by kernel_rfl) hi; have a12 := hR.out 12 11 (by kernel_rfl) a11; have a13 := hR.out 13 12 (by kernel_rfl) a12; have a14 := hR.out 14 13 (by kernel_rfl) a13; have e0 := hS.lo a12 a13 a14; subst e0); go_simp; (try simp only [Act.put, List.setIfInBounds_toArray, List.set_cons_zero, List.set_cons_succ]); exact hK.out _ (hS.keep rfl rfl rfl rfl))); (· (intro V; rfl)); (· (exact fun _ _ _ _ _ _ => rfl)))
      iterate 4 (((refine SerF.step (a1 := ?_) (fun _ => rfl) (fun V L w1 K' Q' hS hi hR hd hK => ?_) ?_ ?_ ?_; rotate_left); (· ((skip); go_simp; (try simp only [Act.put, List.setIfInBounds_toArray, List.set_cons_zero, List.set_cons_succ]); exact hK.out _ (hS.keep rfl rfl rfl rfl))); (· (intro V; rfl)); (· (exact fun _ _ _ _ _ _ => rfl))))
      ((refine SerF.step (a1 := ?_) (fun _ => rfl) (fun V L w1 K' Q' hS hi hR hd hK => ?_) ?_ ?_ ?_; rotate_left); (· ((have a11 := hR.out 11 10 (by kernel_rfl) hi; have a12 := hR.out 12 11 (by kernel_rfl) a11; have a13 := hR.out 13 12 (by kernel_rfl) a12; have a14 := hR.out 14 13 (by kernel_rfl) a13; have e0 := hS.lo a12 a13 a14; subst e0); go_simp; (try simp only [Act.put, List.setIfInBounds_toArray, List.set_cons_zero, List.set_cons_succ]); exact hK.out _ (hS.keep rfl rfl rfl rfl))); (· (intro V; rfl)); (· (exact fun _ _ _ _ _ _ => rfl)))
      ((refine SerF.step (a1 := ?_) (fun _ => rfl) (fun V L w1 K' Q' hS hi hR hd hK => ?_) ?_ ?_ ?_; rotate_left); (· ((skip); go_simp; (try simp only [Act.put, List.setIfInBounds_toArray, List.set_cons_zero, List.set_cons_succ]); exact hK.out _ (hS.keep rfl rfl rfl rfl))); (· (intro V; rfl)); (· (exact fun _ _ _ _ _ _ => rfl)))
      refine SerF.free (fun _ => rfl) (fun V L w1 K' Q' hS hi hR hd hK => ?_) ?_
      · have a13 := hR.out 13 12 (by kernel_rfl) hi
        have a14 := hR.out 14 13 (by kernel_rfl) a13
        have e0 := hS.lo hi a13 a14
        subst e0
        go_simp
        (try simp only [Act.put, List.setIfInBounds_toArray, List.set_cons_zero, List.set_cons_succ])
        exact hK.out _ _ rfl (Stg.t2 ⟨rfl, rfl⟩ rfl rfl a13 a14)
      (try simp only [Act.put, List.setIfInBounds_toArray, List.set_cons_zero, List.set_cons_succ])
      refine SerF.free (fun _ => rfl) (fun V L w1 K' Q' hS hi hR hd hK => ?_) ?_
      · have a14 := hR.out 14 13 (by kernel_rfl) hi
        obtain ⟨hV, rfl⟩ := hS.s2 (hd.out 12 (by kernel_rfl)) hi a14
        refine wp_append_own _ _ 22 rfl w.heap.size 40 i1 _ 2 32 Tryd.underlying22 hj hy0 hy1 hy2 rfl (by decide) _ _ _ rfl (ho2.alloc _) ⟨wr.drew.heap.size, 0, none⟩ 1 1 [.int .i64 nq, .slice pw nw cw] hV rfl (line_news _ _ _) (iv_one rfl) (by unfold maxLen; omega) (by omega) (by simp; omega) (fun v' w' h1 h2 => ?_)
        obtain ⟨pu2, ku2, rfl⟩ := own_sl h1
        obtain ⟨g1, g2⟩ := hfin _ _ h2 h1
        exact hK.out _ _ rfl (Stg.t3 ⟨⟨_, _, rfl⟩, g1, g2⟩ rfl a14)
      (try simp only [Act.put, List.setIfInBounds_toArray, List.set_cons_zero, List.set_cons_succ])
      refine SerF.free (fun _ => rfl) (fun V L w1 K' Q' hS hi hR hd hK => ?_) ?_
      · have hX := Lib.hid (hS.s3 (hd.out 13 (by kernel_rfl)) hi)
        go_simp
        (try simp only [Act.put, List.setIfInBounds_toArray, List.set_cons_zero, List.set_cons_succ])
        exact hK.out _ _ rfl (Stg.t4 hX.out)
      (try simp only [Act.put, List.setIfInBounds_toArray, List.set_cons_zero, List.set_cons_succ])
      refine SerF.nil fun V w1 hS => ?_
      obtain ⟨⟨pu2, cu2, hV⟩, hb2, ho3⟩ := hS.s4 rfl
      rw [hV] at ho3
      simp only [hV]
      clear hS hfin ho2 c0 c1 hV
      go_wp2
      go_roundw
      case rel => exact ⟨q + 1, by omega, by go_num, hb2, ho3⟩
      case measure => simp [intOf]; omega
theorem there_val (l : List LnI) (hn : l.length ≤ 4194305) (v : Value) (w : World) (hl : LinesAt w v l) : Calls Tryd.prog 16 #[v] w (CopyPost w l) := by
  obtain ⟨p, cu, rfl, hl'⟩ := id hl
  refine (there_valI l hn p cu w hl).mono ?_
  rintro e w' ⟨v, ns, us, h1, hb, ho, hS⟩
  exact ⟨v, h1, hb, iv_at ho fun i x hx => ⟨(hS.r i x hx).1, (hS.r i x hx).2.next hb (Nat.le_refl _)⟩⟩
end Go.Proofs.YtejfienogljboaaDoor
