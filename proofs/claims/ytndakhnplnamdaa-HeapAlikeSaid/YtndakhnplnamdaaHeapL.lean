/- lateenlaw15: moved. -/
import Derived.Test.YtndakhnplnamdaaHeapK
namespace Go.Proofs.Ytndakhnplnamdaa
open Go.RowKit

def MvTo (n f : Nat) (o q : ObjD) : Prop := o.c = q.c ∧ o.l = q.l ∧ ∀ j, j < q.l → o.vs j = shiftV n f (q.vs j)
def MvSt (w wr : World) (f q n : Nat) (ob : Nat → ObjD) (v : Value) : Prop := ∃ oq, HeapRow wr w.heap.size v (f + q) oq ∧ (∀ i, i < q → MvTo n f (oq (f + i)) (ob i)) ∧ Below w.heap.size w wr
def MovedPost (w : World) (n f : Nat) (ob : Nat → ObjD) (e : Ending) (w' : World) : Prop :=
  ∃ pu cu oq, e = .returned (.slice pu (f + n) cu) ∧ Objs w' pu (f + n) oq ∧ (∀ i, i < n → MvTo n f (oq (f + i)) (ob i)) ∧ Below w.heap.size w w'
theorem MvSt.step {w wr w2 : World} {D px n f q k : Nat} {c : ByteArray} {v v' : Value} {pv : Option Addr} {kv : Nat} {oq ob : Nat → ObjD} {vs : Nat → Vl} (h : InSt w wr D px c v (.slice pv k kv) (f + q) oq k vs) (hS : ∀ i, i < q → MvTo n f (oq (f + i)) (ob i)) {ox : Obj} (hk : k ≤ 9223372036854775807) (hr : ∀ i, i < k → -9223372036854775808 ≤ (vs i).2 ∧ (vs i).2 ≤ 9223372036854775807)
    (hg : (wr.alloc ox).grownBy w2 v.ownBlock) (hown : w2.ownsRow w.heap.size 41 2 v' (f + q + 1) (rowC 2 (f + q) (objC oq) ++ [.string c, .slice pv k kv])) (h1 : (ob q).c = c) (h2 : (ob q).l = k) (h3 : ∀ j, j < k → vs j = shiftV n f ((ob q).vs j)) : MvSt w w2 f (q + 1) n ob v' := by
  obtain ⟨a, b⟩ := h.done hk hr hg hown
  refine ⟨_, a, fun j hj => ?_, b⟩
  by_cases e : j = q
  · subst e
    rw [obPush_at]
    exact ⟨h1.symm, h2.symm, fun j hj => h3 j (by rw [← h2]; exact hj)⟩
  · rw [obPush_ne (by omega)]
    exact hS j (by omega)
/-- the stages of 'x.Vals = append(x.Vals, shifted(..))' -/
def Mv2 (w0 : World) (s : ByteArray) (x : Int) (V : Nat → Value) (w1 : World) : Prop := ∃ wa, w1 = wa.alloc (Obj.cells #[.string s, .int .i64 x] 25) ∧ Below w0.heap.size w0 wa ∧ V 14 = .slice (some ⟨wa.heap.size, 0, none⟩) 1 1
def Mv3 (w0 : World) (D k : Nat) (sv : Value) (vs : Nat → Vl) (s : ByteArray) (x : Int) (V : Nat → Value) (w1 : World) : Prop :=
  ∃ wa pv kv, (wa.alloc (Obj.cells #[.string s, .int .i64 x] 25)).grownBy w1 sv.ownBlock ∧ Below w0.heap.size w0 wa ∧ V 15 = .slice pv (k + 1) kv ∧ w1.ownsRow D 25 2 (.slice pv (k + 1) kv) (k + 1) (rowC 2 k (valC vs) ++ [.string s, .int .i64 x])

set_option maxHeartbeats 4000000 in
theorem moved_nil (ph : Option Addr) (n ch f : Nat) (ob : Nat → ObjD) (h0 : f = 0) (hn : n ≤ 1000) (hl : ∀ i, i < n → (ob i).l ≤ 1000) (hf : f ≤ 1000) (w : World) (hO : Objs w ph n ob) :
    Calls Try.prog 22 #[.slice ph n ch, .slice none f 0] w (MovedPost w n f ob) := by
  obtain ⟨i0, hi, hz0, hz1, hz2⟩ := info_parts infoO
  obtain ⟨i1, hj, hy0, hy1, hy2⟩ := info_parts infoV
  have hst0 : MvSt w w f 0 n ob (.slice none 0 0) := by
    subst h0
    exact ⟨ob, ⟨Owns.nil, fun i hi => absurd hi (Nat.not_lt_zero i), fun i hi => absurd hi (Nat.not_lt_zero i)⟩, fun i hi => absurd hi (Nat.not_lt_zero i), Below.refl _ _⟩
  have H0 := Lib.hid h0
  clear h0
  go_enter Try.func22, Try.ntmps22
  go_wp2_with (at_builtin; refine wpList_append_own_none rfl _ _ 22 rfl 0 41 i0 2 Try.underlying22 hi _ 0 [] rfl (World.ownsRow_nil _ _ _ _) (by have h0 := H0.out; subst h0; rfl) ?_)
  go_wp2
  go_loopw [5, 6] (fun v i wr => ∃ q : Nat, q ≤ n ∧ i = .int .i64 (q : Int) ∧ MvSt w wr f q n ob v) (fun _ i _ => n - (intOf i).toNat)
  case atStart => exact ⟨0, Nat.zero_le _, rfl, hst0⟩
  case round =>
    clear hst0
    obtain ⟨q, hq, rfl, oq, hH, hS, hb⟩ := hrel
    obtain ⟨pu, cu, rfl⟩ := hH.row.slice
    have O1 := hO.below hb
    by_cases hlt : q < n
    · obtain ⟨Bh, oh, rfl, hBh, hch⟩ := O1.at' (by omega)
      obtain ⟨c0, c1⟩ := hch q hlt
      have hlq := hl q hlt
      have hst := InSt.start hH hb (ob q).c (fun j => shiftV n f ((ob q).vs j))
      have FO : ∀ w2, Below w.heap.size w w2 → w2.cell? ⟨Bh, oh + q * 2 + 1, none⟩ = some (.slice (ob q).p (ob q).l (ob q).k) ∧ Vals w2 (ob q).p (ob q).l (ob q).vs := fun w2 h2 => by
        have hO2 := hO.below h2
        obtain ⟨B', o', e, _, hc⟩ := hO2.at' (by omega)
        have e : (⟨Bh, oh, none⟩ : Addr) = ⟨B', o', none⟩ := by simpa using e
        injection e with e1 e2
        subst e1 e2
        exact ⟨(hc q hlt).2, hO2.v q hlt⟩
      have hvr : ∀ i, i < (ob q).l → -9223372036854775808 ≤ (shiftV n f ((ob q).vs i)).2 ∧ (shiftV n f ((ob q).vs i)).2 ≤ 9223372036854775807 := fun i hi => by
        have h1 := (hO.v q hlt).r i hi
        unfold shiftV
        split
        · rename_i hl
          have := leads_in hl
          dsimp only
          omega
        · exact h1
      clear hch O1 hH hb
      go_wp2
      obtain ⟨wo, rfl⟩ : ∃ wo : World, wo = wr := ⟨_, rfl⟩
      go_loopw [8] (fun k wk => ∃ kk : Nat, kk ≤ (ob q).l ∧ k = .int .i64 (kk : Int) ∧ ∃ sv, InSt w wk wo.heap.size wo.heap.size (ob q).c (.slice pu (f + q) cu) sv (f + q) oq kk (fun j => shiftV n f ((ob q).vs j))) (fun k _ => (ob q).l - (intOf k).toNat)
      case atStart => exact ⟨0, Nat.zero_le _, rfl, _, hst⟩
      case round =>
        obtain ⟨kk, hkk, rfl, sv, hI⟩ := hrel
        clear hst
        obtain ⟨pv, kv, rfl⟩ := hI.o.slice
        obtain ⟨d1, V1⟩ := FO _ hI.b
        by_cases hlk : kk < (ob q).l
        · obtain ⟨Bv, ov, hpv, hBv, hcv⟩ := V1.at' (by omega)
          obtain ⟨e0, e1⟩ := hcv kk hlk
          have d2 := d1
          rw [hpv] at d2
          have hgen : ∃ ss xx, (ob q).vs kk = (ss, xx) := ⟨_, _, rfl⟩
          obtain ⟨ss, xx, hsx⟩ := hgen
          rw [hsx] at e0 e1
          dsimp only at e0 e1
          have hgen : ∃ st xt, shiftV n f (ss, xx) = (st, xt) := ⟨_, _, rfl⟩
          obtain ⟨st, xt, hsh⟩ := hgen
          have hx := hI.x
          have p1 := hx.c 1 _ rfl
          have G : ∀ w1, Below wr.drew.heap.size wr.drew w1 → w1.cell? ⟨wo.heap.size, 1, none⟩ = some (.slice pv kk kv) := fun w1 hb1 => (hx.drew.nx hb1).c 1 _ rfl
          have hI0 := hI.next ((Below.refl _ _).drew)
          have HC := shifted_val (some ⟨Bh, oh, none⟩) n ch f hn hf ss xx st xt hsh
          clear hcv d1 hBv
          have hlen := hlq
          have hfin : ∀ wa w2 sv', Below wr.drew.heap.size wr.drew wa → (wa.alloc (Obj.cells #[.string st, .int .i64 xt] 25)).grownBy w2 (Value.slice pv kk kv).ownBlock → w2.ownsRow wo.heap.size 25 2 sv' (kk + 1) (rowC 2 kk (valC fun j => shiftV n f ((ob q).vs j)) ++ [.string st, .int .i64 xt]) →
              InSt w (w2.setCell ⟨wo.heap.size, 1, none⟩ sv') wo.heap.size wo.heap.size (ob q).c (.slice pu (f + q) cu) sv' (f + q) oq (kk + 1) (fun j => shiftV n f ((ob q).vs j)) ∧ Box w2 wo.heap.size [.string (ob q).c, .slice pv kk kv] := fun wa w2 sv' hb hg hr => by
            have hIa := hI0.next hb
            refine ⟨hIa.push1 hg hr (by rw [hsx]; exact hsh), ?_⟩
            exact (hIa.x.al _).same (hg.block _ (by have := hIa.x.lt; simp; omega) (Ne.symm hIa.px_ne))
          have hro : ∀ wa, Below wr.drew.heap.size wr.drew wa → wa.ownsRow wo.heap.size 25 2 (.slice pv kk kv) kk (rowC 2 kk (valC fun j => shiftV n f ((ob q).vs j))) ∧ wo.heap.size ≤ wa.heap.size := fun wa hb => by
            have hIa := hI0.next hb
            exact ⟨hIa.o, Nat.le_of_lt hIa.x.lt⟩
          clear hI hI0 hsx hsh hx FO
          generalize (ob q).l = lq at *
          have hel : (kk : Int) < (lq : Int) := by omega
          have helq : (q : Int) < (n : Int) := by omega
          go_wp2
          refine wp_region_serF (S := Stg 13 14 15 17 (fun _ v => v = wr.drew) (fun _ v => Below wr.drew.heap.size wr.drew v) (Mv2 wr.drew st xt) (Mv3 wr.drew wo.heap.size kk (.slice pv kk kv) (fun j => shiftV n f ((ob q).vs j)) st xt) (fun _ v => ∃ sv, InSt w v wo.heap.size wo.heap.size (ob q).c (.slice pu (f + q) cu) sv (f + q) oq (kk + 1) (fun j => shiftV n f ((ob q).vs j)))) rfl (by kernel_rfl) (Stg.start rfl) ?_
          ((refine SerF.step (a1 := ?_) (fun _ => rfl) (fun V L w1 K' Q' hS hi hR hd hK => ?_) ?_ ?_ ?_; rotate_left); (· ((skip); go_simp; (try simp only [Act.put, List.setIfInBounds_toArray, List.set_cons_zero, List.set_cons_succ]); exact hK.out _ (hS.keep rfl rfl rfl rfl))); (· (intro V; rfl)); (· (exact fun _ _ _ _ _ _ => rfl)))
          ((refine SerF.step (a1 := ?_) (fun _ => rfl) (fun V L w1 K' Q' hS hi hR hd hK => ?_) ?_ ?_ ?_; rotate_left); (· ((have a15 := hR.out 15 1 (by kernel_rfl) hi; have a17 := hR.out 17 15 (by kernel_rfl) a15; have q1 := hS.low (X := fun w => w.cell? ⟨wo.heap.size, 1, none⟩ = some (.slice pv kk kv)) a15 a17 (fun w e => by rw [e]; exact G _ (Below.refl _ _)) (fun w e => G _ e) (fun w e => by obtain ⟨wa, rfl, hb, _⟩ := e; exact G _ (hb.alloc hb.size _))); go_simp; (try simp only [Act.put, List.setIfInBounds_toArray, List.set_cons_zero, List.set_cons_succ]); exact hK.out _ (hS.keep rfl rfl rfl rfl))); (· (intro V; rfl)); (· (exact fun _ _ _ _ _ _ => rfl)))
          iterate 5 (((refine SerF.step (a1 := ?_) (fun _ => rfl) (fun V L w1 K' Q' hS hi hR hd hK => ?_) ?_ ?_ ?_; rotate_left); (· ((skip); go_simp; (try simp only [Act.put, List.setIfInBounds_toArray, List.set_cons_zero, List.set_cons_succ]); exact hK.out _ (hS.keep rfl rfl rfl rfl))); (· (intro V; rfl)); (· (exact fun _ _ _ _ _ _ => rfl))))
          ((refine SerF.step (a1 := ?_) (fun _ => rfl) (fun V L w1 K' Q' hS hi hR hd hK => ?_) ?_ ?_ ?_; rotate_left); (· ((have a9 := hR.out 9 7 (by kernel_rfl) hi; have a10 := hR.out 10 9 (by kernel_rfl) a9; have a13 := hR.out 13 10 (by kernel_rfl) a10; have a14 := hR.out 14 13 (by kernel_rfl) a13; have a15 := hR.out 15 14 (by kernel_rfl) a14; have a17 := hR.out 17 15 (by kernel_rfl) a15; have e0 := hS.s0 a13 a14 a15 a17; subst e0); go_simp; (try simp only [Act.put, List.setIfInBounds_toArray, List.set_cons_zero, List.set_cons_succ]); exact hK.out _ (hS.keep rfl rfl rfl rfl))); (· (intro V; rfl)); (· (exact fun _ _ _ _ _ _ => rfl)))
          iterate 2 (((refine SerF.step (a1 := ?_) (fun _ => rfl) (fun V L w1 K' Q' hS hi hR hd hK => ?_) ?_ ?_ ?_; rotate_left); (· ((skip); go_simp; (try simp only [Act.put, List.setIfInBounds_toArray, List.set_cons_zero, List.set_cons_succ]); exact hK.out _ (hS.keep rfl rfl rfl rfl))); (· (intro V; rfl)); (· (exact fun _ _ _ _ _ _ => rfl))))
          ((refine SerF.step (a1 := ?_) (fun _ => rfl) (fun V L w1 K' Q' hS hi hR hd hK => ?_) ?_ ?_ ?_; rotate_left); (· ((have a13 := hR.out 13 10 (by kernel_rfl) hi; have a14 := hR.out 14 13 (by kernel_rfl) a13; have a15 := hR.out 15 14 (by kernel_rfl) a14; have a17 := hR.out 17 15 (by kernel_rfl) a15; have e0 := hS.s0 a13 a14 a15 a17; subst e0); go_simp; (try simp only [Act.put, List.setIfInBounds_toArray, List.set_cons_zero, List.set_cons_succ]); exact hK.out _ (hS.keep rfl rfl rfl rfl))); (· (intro V; rfl)); (· (exact fun _ _ _ _ _ _ => rfl)))
          iterate 2 (((refine SerF.step (a1 := ?_) (fun _ => rfl) (fun V L w1 K' Q' hS hi hR hd hK => ?_) ?_ ?_ ?_; rotate_left); (· ((skip); go_simp; (try simp only [Act.put, List.setIfInBounds_toArray, List.set_cons_zero, List.set_cons_succ]); exact hK.out _ (hS.keep rfl rfl rfl rfl))); (· (intro V; rfl)); (· (exact fun _ _ _ _ _ _ => rfl))))
          (refine SerF.step (a1 := ?_) (fun _ => rfl) (fun V L w1 K' Q' hS hi hR hd hK => ?_) ?_ ?_ ?_; rotate_left)
          · have a14 := hR.out 14 13 (by kernel_rfl) hi
            have a15 := hR.out 15 14 (by kernel_rfl) a14
            have a17 := hR.out 17 15 (by kernel_rfl) a15
            have e0 := hS.s0 hi a14 a15 a17
            subst e0
            go_simp
            go_wp2_with (go_at_call 21; refine (HC _).mono ?_; rintro e w2 ⟨rfl, hb⟩)
            (try simp only [Act.put, List.setIfInBounds_toArray, List.set_cons_zero, List.set_cons_succ])
            exact hK.out _ (Stg.t1 hb rfl rfl rfl a14 a15 a17)
          · intro V; rfl
          · exact fun _ _ _ _ _ _ => rfl
          refine SerF.free (fun _ => rfl) (fun V L w1 K' Q' hS hi hR hd hK => ?_) ?_
          · have a15 := hR.out 15 14 (by kernel_rfl) hi
            have a17 := hR.out 17 15 (by kernel_rfl) a15
            have e1 := hS.s1 (hd.out 13 (by kernel_rfl)) hi a15 a17
            go_simp
            (try simp only [Act.put, List.setIfInBounds_toArray, List.set_cons_zero, List.set_cons_succ])
            exact hK.out _ _ rfl (Stg.t2 ⟨w1, rfl, e1, rfl⟩ rfl rfl a15 a17)
          (try simp only [Act.put, List.setIfInBounds_toArray, List.set_cons_zero, List.set_cons_succ])
          refine SerF.free (fun _ => rfl) (fun V L w1 K' Q' hS hi hR hd hK => ?_) ?_
          · have a17 := hR.out 17 15 (by kernel_rfl) hi
            obtain ⟨wa, rfl, hb, hV⟩ := hS.s2 (hd.out 14 (by kernel_rfl)) hi a17
            obtain ⟨ho, hsz⟩ := hro wa hb
            refine wp_append_own _ _ 23 rfl wo.heap.size 25 i1 _ 2 24 Try.underlying23 hj hy0 hy1 hy2 rfl (by decide) _ _ _ rfl (ho.alloc _) ⟨wa.heap.size, 0, none⟩ 1 1 [.string st, .int .i64 xt] hV rfl (val_news wa st xt) (val_one st xt) (by unfold maxLen; omega) (by omega) (by simp; omega) (fun v' w' h1 h2 => ?_)
            obtain ⟨pu2, ku2, rfl⟩ := own_sl h1
            exact hK.out _ _ rfl (Stg.t3 ⟨wa, _, _, h2, hb, rfl, h1⟩ rfl a17)
          (try simp only [Act.put, List.setIfInBounds_toArray, List.set_cons_zero, List.set_cons_succ])
          ((refine SerF.step (a1 := ?_) (fun _ => rfl) (fun V L w1 K' Q' hS hi hR hd hK => ?_) ?_ ?_ ?_; rotate_left); (· ((skip); go_simp; (try simp only [Act.put, List.setIfInBounds_toArray, List.set_cons_zero, List.set_cons_succ]); exact hK.out _ (hS.keep rfl rfl rfl rfl))); (· (intro V; rfl)); (· (exact fun _ _ _ _ _ _ => rfl)))
          refine SerF.val undef (fun _ => rfl) (fun V L w1 K' Q' hS hi hR' hd hK => ?_) ?_
          · obtain ⟨wa, pv2, kv2, hg, hb, hV, ho⟩ := hS.s3 (hd.out 15 (by kernel_rfl)) hi
            obtain ⟨hI2, hbx⟩ := hfin wa w1 _ hb hg ho
            have r1 := hbx.c 1 _ rfl
            have f1 := hbx.f 1 (by simp)
            clear hbx hg hb ho
            go_simp
            refine hK.out _ _ (by simp only [hV]; rfl) (Stg.t4 ⟨_, hI2⟩)
          simp only [Act.put]
          refine SerF.nil fun V w1 hS => ?_
          obtain ⟨sv2, hI2⟩ := hS.s4 rfl
          clear hS hfin hro HC G p1
          go_wp2
          go_roundw
          case rel => exact ⟨kk + 1, by omega, by go_num, _, hI2⟩
          case measure => simp [intOf]; omega
        · obtain rfl : kk = (ob q).l := by omega
          have hrow : wr.ownsRow w.heap.size 41 2 (.slice pu (f + q) cu) (f + q) (rowC 2 (f + q) (objC oq)) := hI.h.row
          have hP := fun w2 v' ox hg hown => MvSt.step (n := n) hI hS (w2 := w2) (v' := v') (ox := ox) (by omega) hvr hg hown rfl rfl (fun _ _ => rfl)
          have hnews := rnew_news wr (ob q).c pv (ob q).l kv
          have hsz := hI.b.size
          have p0 := hI.x.c 0 _ rfl
          have p1 := hI.x.c 1 _ rfl
          clear FO hI
          generalize (ob q).l = lq at *
          generalize (ob q).c = cc at *
          go_wp2_with (at_builtin; refine wpList_append_own _ rfl _ _ 22 rfl w.heap.size 41 i0 _ 2 40 Try.underlying22 hi hz0 hz1 hz2 rfl (by decide) _ _ _ rfl (hrow.alloc _) ⟨wr.heap.size, 0, none⟩ 1 1 [.string cc, .slice pv lq kv] rfl rfl hnews (rnew_one cc pv lq kv) ?d7 ?d8 ?d9 ?_)
          case d7 => unfold maxLen; omega
          case d8 => omega
          case d9 => simp; omega
          intro v2 w2 hown2 hg2 _
          have hO2 := hP _ _ _ hg2 hown2
          clear hP hown2 hg2 hrow hnews
          go_wp2
          go_roundw
          case rel => exact ⟨q + 1, by omega, by go_num, hO2⟩
          case measure => simp [intOf]; omega
    · obtain rfl : q = n := by omega
      have hO2 := hH.objs rfl (by omega)
      have hBf := hb
      clear hH O1 hO
      go_wp2
      go_ret
      exact ⟨_, _, oq, rfl, hO2, hS, hBf⟩
set_option maxHeartbeats 4000000 in
theorem moved_some (ph : Option Addr) (n ch : Nat) (a : Addr) (f cf : Nat) (ob oF : Nat → ObjD) (hn : n ≤ 1000) (hl : ∀ i, i < n → (ob i).l ≤ 1000) (hf : f ≤ 1000) (w : World) (hO : Objs w ph n ob) (hF : Objs w (some a) f oF) :
    Calls Try.prog 22 #[.slice ph n ch, .slice (some a) f cf] w (MovedPost w n f ob) := by
  obtain ⟨i0, hi, hz0, hz1, hz2⟩ := info_parts infoO
  obtain ⟨i1, hj, hy0, hy1, hy2⟩ := info_parts infoV
  have hnews := hF.news
  go_enter Try.func22, Try.ntmps22
  go_wp2_with (at_builtin; refine wpList_append_own _ rfl _ _ 22 rfl w.heap.size 41 i0 _ 2 40 Try.underlying22 hi hz0 hz1 hz2 rfl (by decide) _ _ _ rfl (World.ownsRow_nil _ _ _ _) a f cf (rowC 2 f (objC oF)) rfl ?c1 hnews ?c3 ?c4 ?c5 ?c6 ?_)
  case c1 => exact rowC_len _ _ _
  case c3 => exact rowC_one fun i k _ _ => objC_one oF i k
  case c4 => unfold maxLen; omega
  case c5 => omega
  case c6 => exact Nat.le_refl _
  intro v1 w1 hown1 hg1 _
  have hB1 : Below w.heap.size w w1 := (Below.refl _ _).grown hg1 (Nat.le_refl _) (fun k e => by cases e)
  have hst0 : MvSt w w1 f 0 n ob v1 := ⟨oF, HeapRow.ofObjs hF hB1 (Nat.le_refl _) hown1, fun i hi => absurd hi (Nat.not_lt_zero i), hB1⟩
  clear hnews hown1 hg1 hB1
  go_wp2
  go_loopw [5, 6] (fun v i wr => ∃ q : Nat, q ≤ n ∧ i = .int .i64 (q : Int) ∧ MvSt w wr f q n ob v) (fun _ i _ => n - (intOf i).toNat)
  case atStart => exact ⟨0, Nat.zero_le _, rfl, hst0⟩
  case round =>
    clear hst0
    obtain ⟨q, hq, rfl, oq, hH, hS, hb⟩ := hrel
    obtain ⟨pu, cu, rfl⟩ := hH.row.slice
    have O1 := hO.below hb
    by_cases hlt : q < n
    · obtain ⟨Bh, oh, rfl, hBh, hch⟩ := O1.at' (by omega)
      obtain ⟨c0, c1⟩ := hch q hlt
      have hlq := hl q hlt
      have hst := InSt.start hH hb (ob q).c (fun j => shiftV n f ((ob q).vs j))
      have FO : ∀ w2, Below w.heap.size w w2 → w2.cell? ⟨Bh, oh + q * 2 + 1, none⟩ = some (.slice (ob q).p (ob q).l (ob q).k) ∧ Vals w2 (ob q).p (ob q).l (ob q).vs := fun w2 h2 => by
        have hO2 := hO.below h2
        obtain ⟨B', o', e, _, hc⟩ := hO2.at' (by omega)
        have e : (⟨Bh, oh, none⟩ : Addr) = ⟨B', o', none⟩ := by simpa using e
        injection e with e1 e2
        subst e1 e2
        exact ⟨(hc q hlt).2, hO2.v q hlt⟩
      have hvr : ∀ i, i < (ob q).l → -9223372036854775808 ≤ (shiftV n f ((ob q).vs i)).2 ∧ (shiftV n f ((ob q).vs i)).2 ≤ 9223372036854775807 := fun i hi => by
        have h1 := (hO.v q hlt).r i hi
        unfold shiftV
        split
        · rename_i hl
          have := leads_in hl
          dsimp only
          omega
        · exact h1
      clear hch O1 hH hb
      go_wp2
      obtain ⟨wo, rfl⟩ : ∃ wo : World, wo = wr := ⟨_, rfl⟩
      go_loopw [8] (fun k wk => ∃ kk : Nat, kk ≤ (ob q).l ∧ k = .int .i64 (kk : Int) ∧ ∃ sv, InSt w wk wo.heap.size wo.heap.size (ob q).c (.slice pu (f + q) cu) sv (f + q) oq kk (fun j => shiftV n f ((ob q).vs j))) (fun k _ => (ob q).l - (intOf k).toNat)
      case atStart => exact ⟨0, Nat.zero_le _, rfl, _, hst⟩
      case round =>
        obtain ⟨kk, hkk, rfl, sv, hI⟩ := hrel
        clear hst
        obtain ⟨pv, kv, rfl⟩ := hI.o.slice
        obtain ⟨d1, V1⟩ := FO _ hI.b
        by_cases hlk : kk < (ob q).l
        · obtain ⟨Bv, ov, hpv, hBv, hcv⟩ := V1.at' (by omega)
          obtain ⟨e0, e1⟩ := hcv kk hlk
          have d2 := d1
          rw [hpv] at d2
          have hgen : ∃ ss xx, (ob q).vs kk = (ss, xx) := ⟨_, _, rfl⟩
          obtain ⟨ss, xx, hsx⟩ := hgen
          rw [hsx] at e0 e1
          dsimp only at e0 e1
          have hgen : ∃ st xt, shiftV n f (ss, xx) = (st, xt) := ⟨_, _, rfl⟩
          obtain ⟨st, xt, hsh⟩ := hgen
          have hx := hI.x
          have p1 := hx.c 1 _ rfl
          have G : ∀ w1, Below wr.drew.heap.size wr.drew w1 → w1.cell? ⟨wo.heap.size, 1, none⟩ = some (.slice pv kk kv) := fun w1 hb1 => (hx.drew.nx hb1).c 1 _ rfl
          have hI0 := hI.next ((Below.refl _ _).drew)
          have HC := shifted_val (some ⟨Bh, oh, none⟩) n ch f hn hf ss xx st xt hsh
          clear hcv d1 hBv
          have hlen := hlq
          have hfin : ∀ wa w2 sv', Below wr.drew.heap.size wr.drew wa → (wa.alloc (Obj.cells #[.string st, .int .i64 xt] 25)).grownBy w2 (Value.slice pv kk kv).ownBlock → w2.ownsRow wo.heap.size 25 2 sv' (kk + 1) (rowC 2 kk (valC fun j => shiftV n f ((ob q).vs j)) ++ [.string st, .int .i64 xt]) →
              InSt w (w2.setCell ⟨wo.heap.size, 1, none⟩ sv') wo.heap.size wo.heap.size (ob q).c (.slice pu (f + q) cu) sv' (f + q) oq (kk + 1) (fun j => shiftV n f ((ob q).vs j)) ∧ Box w2 wo.heap.size [.string (ob q).c, .slice pv kk kv] := fun wa w2 sv' hb hg hr => by
            have hIa := hI0.next hb
            refine ⟨hIa.push1 hg hr (by rw [hsx]; exact hsh), ?_⟩
            exact (hIa.x.al _).same (hg.block _ (by have := hIa.x.lt; simp; omega) (Ne.symm hIa.px_ne))
          have hro : ∀ wa, Below wr.drew.heap.size wr.drew wa → wa.ownsRow wo.heap.size 25 2 (.slice pv kk kv) kk (rowC 2 kk (valC fun j => shiftV n f ((ob q).vs j))) ∧ wo.heap.size ≤ wa.heap.size := fun wa hb => by
            have hIa := hI0.next hb
            exact ⟨hIa.o, Nat.le_of_lt hIa.x.lt⟩
          clear hI hI0 hsx hsh hx FO
          generalize (ob q).l = lq at *
          have hel : (kk : Int) < (lq : Int) := by omega
          have helq : (q : Int) < (n : Int) := by omega
          go_wp2
          refine wp_region_serF (S := Stg 13 14 15 17 (fun _ v => v = wr.drew) (fun _ v => Below wr.drew.heap.size wr.drew v) (Mv2 wr.drew st xt) (Mv3 wr.drew wo.heap.size kk (.slice pv kk kv) (fun j => shiftV n f ((ob q).vs j)) st xt) (fun _ v => ∃ sv, InSt w v wo.heap.size wo.heap.size (ob q).c (.slice pu (f + q) cu) sv (f + q) oq (kk + 1) (fun j => shiftV n f ((ob q).vs j)))) rfl (by kernel_rfl) (Stg.start rfl) ?_
          ((refine SerF.step (a1 := ?_) (fun _ => rfl) (fun V L w1 K' Q' hS hi hR hd hK => ?_) ?_ ?_ ?_; rotate_left); (· ((skip); go_simp; (try simp only [Act.put, List.setIfInBounds_toArray, List.set_cons_zero, List.set_cons_succ]); exact hK.out _ (hS.keep rfl rfl rfl rfl))); (· (intro V; rfl)); (· (exact fun _ _ _ _ _ _ => rfl)))
          ((refine SerF.step (a1 := ?_) (fun _ => rfl) (fun V L w1 K' Q' hS hi hR hd hK => ?_) ?_ ?_ ?_; rotate_left); (· ((have a15 := hR.out 15 1 (by kernel_rfl) hi; have a17 := hR.out 17 15 (by kernel_rfl) a15; have q1 := hS.low (X := fun w => w.cell? ⟨wo.heap.size, 1, none⟩ = some (.slice pv kk kv)) a15 a17 (fun w e => by rw [e]; exact G _ (Below.refl _ _)) (fun w e => G _ e) (fun w e => by obtain ⟨wa, rfl, hb, _⟩ := e; exact G _ (hb.alloc hb.size _))); go_simp; (try simp only [Act.put, List.setIfInBounds_toArray, List.set_cons_zero, List.set_cons_succ]); exact hK.out _ (hS.keep rfl rfl rfl rfl))); (· (intro V; rfl)); (· (exact fun _ _ _ _ _ _ => rfl)))
          iterate 5 (((refine SerF.step (a1 := ?_) (fun _ => rfl) (fun V L w1 K' Q' hS hi hR hd hK => ?_) ?_ ?_ ?_; rotate_left); (· ((skip); go_simp; (try simp only [Act.put, List.setIfInBounds_toArray, List.set_cons_zero, List.set_cons_succ]); exact hK.out _ (hS.keep rfl rfl rfl rfl))); (· (intro V; rfl)); (· (exact fun _ _ _ _ _ _ => rfl))))
          ((refine SerF.step (a1 := ?_) (fun _ => rfl) (fun V L w1 K' Q' hS hi hR hd hK => ?_) ?_ ?_ ?_; rotate_left); (· ((have a9 := hR.out 9 7 (by kernel_rfl) hi; have a10 := hR.out 10 9 (by kernel_rfl) a9; have a13 := hR.out 13 10 (by kernel_rfl) a10; have a14 := hR.out 14 13 (by kernel_rfl) a13; have a15 := hR.out 15 14 (by kernel_rfl) a14; have a17 := hR.out 17 15 (by kernel_rfl) a15; have e0 := hS.s0 a13 a14 a15 a17; subst e0); go_simp; (try simp only [Act.put, List.setIfInBounds_toArray, List.set_cons_zero, List.set_cons_succ]); exact hK.out _ (hS.keep rfl rfl rfl rfl))); (· (intro V; rfl)); (· (exact fun _ _ _ _ _ _ => rfl)))
          iterate 2 (((refine SerF.step (a1 := ?_) (fun _ => rfl) (fun V L w1 K' Q' hS hi hR hd hK => ?_) ?_ ?_ ?_; rotate_left); (· ((skip); go_simp; (try simp only [Act.put, List.setIfInBounds_toArray, List.set_cons_zero, List.set_cons_succ]); exact hK.out _ (hS.keep rfl rfl rfl rfl))); (· (intro V; rfl)); (· (exact fun _ _ _ _ _ _ => rfl))))
          ((refine SerF.step (a1 := ?_) (fun _ => rfl) (fun V L w1 K' Q' hS hi hR hd hK => ?_) ?_ ?_ ?_; rotate_left); (· ((have a13 := hR.out 13 10 (by kernel_rfl) hi; have a14 := hR.out 14 13 (by kernel_rfl) a13; have a15 := hR.out 15 14 (by kernel_rfl) a14; have a17 := hR.out 17 15 (by kernel_rfl) a15; have e0 := hS.s0 a13 a14 a15 a17; subst e0); go_simp; (try simp only [Act.put, List.setIfInBounds_toArray, List.set_cons_zero, List.set_cons_succ]); exact hK.out _ (hS.keep rfl rfl rfl rfl))); (· (intro V; rfl)); (· (exact fun _ _ _ _ _ _ => rfl)))
          iterate 2 (((refine SerF.step (a1 := ?_) (fun _ => rfl) (fun V L w1 K' Q' hS hi hR hd hK => ?_) ?_ ?_ ?_; rotate_left); (· ((skip); go_simp; (try simp only [Act.put, List.setIfInBounds_toArray, List.set_cons_zero, List.set_cons_succ]); exact hK.out _ (hS.keep rfl rfl rfl rfl))); (· (intro V; rfl)); (· (exact fun _ _ _ _ _ _ => rfl))))
          (refine SerF.step (a1 := ?_) (fun _ => rfl) (fun V L w1 K' Q' hS hi hR hd hK => ?_) ?_ ?_ ?_; rotate_left)
          · have a14 := hR.out 14 13 (by kernel_rfl) hi
            have a15 := hR.out 15 14 (by kernel_rfl) a14
            have a17 := hR.out 17 15 (by kernel_rfl) a15
            have e0 := hS.s0 hi a14 a15 a17
            subst e0
            go_simp
            go_wp2_with (go_at_call 21; refine (HC _).mono ?_; rintro e w2 ⟨rfl, hb⟩)
            (try simp only [Act.put, List.setIfInBounds_toArray, List.set_cons_zero, List.set_cons_succ])
            exact hK.out _ (Stg.t1 hb rfl rfl rfl a14 a15 a17)
          · intro V; rfl
          · exact fun _ _ _ _ _ _ => rfl
          refine SerF.free (fun _ => rfl) (fun V L w1 K' Q' hS hi hR hd hK => ?_) ?_
          · have a15 := hR.out 15 14 (by kernel_rfl) hi
            have a17 := hR.out 17 15 (by kernel_rfl) a15
            have e1 := hS.s1 (hd.out 13 (by kernel_rfl)) hi a15 a17
            go_simp
            (try simp only [Act.put, List.setIfInBounds_toArray, List.set_cons_zero, List.set_cons_succ])
            exact hK.out _ _ rfl (Stg.t2 ⟨w1, rfl, e1, rfl⟩ rfl rfl a15 a17)
          (try simp only [Act.put, List.setIfInBounds_toArray, List.set_cons_zero, List.set_cons_succ])
          refine SerF.free (fun _ => rfl) (fun V L w1 K' Q' hS hi hR hd hK => ?_) ?_
          · have a17 := hR.out 17 15 (by kernel_rfl) hi
            obtain ⟨wa, rfl, hb, hV⟩ := hS.s2 (hd.out 14 (by kernel_rfl)) hi a17
            obtain ⟨ho, hsz⟩ := hro wa hb
            refine wp_append_own _ _ 23 rfl wo.heap.size 25 i1 _ 2 24 Try.underlying23 hj hy0 hy1 hy2 rfl (by decide) _ _ _ rfl (ho.alloc _) ⟨wa.heap.size, 0, none⟩ 1 1 [.string st, .int .i64 xt] hV rfl (val_news wa st xt) (val_one st xt) (by unfold maxLen; omega) (by omega) (by simp; omega) (fun v' w' h1 h2 => ?_)
            obtain ⟨pu2, ku2, rfl⟩ := own_sl h1
            exact hK.out _ _ rfl (Stg.t3 ⟨wa, _, _, h2, hb, rfl, h1⟩ rfl a17)
          (try simp only [Act.put, List.setIfInBounds_toArray, List.set_cons_zero, List.set_cons_succ])
          ((refine SerF.step (a1 := ?_) (fun _ => rfl) (fun V L w1 K' Q' hS hi hR hd hK => ?_) ?_ ?_ ?_; rotate_left); (· ((skip); go_simp; (try simp only [Act.put, List.setIfInBounds_toArray, List.set_cons_zero, List.set_cons_succ]); exact hK.out _ (hS.keep rfl rfl rfl rfl))); (· (intro V; rfl)); (· (exact fun _ _ _ _ _ _ => rfl)))
          refine SerF.val undef (fun _ => rfl) (fun V L w1 K' Q' hS hi hR' hd hK => ?_) ?_
          · obtain ⟨wa, pv2, kv2, hg, hb, hV, ho⟩ := hS.s3 (hd.out 15 (by kernel_rfl)) hi
            obtain ⟨hI2, hbx⟩ := hfin wa w1 _ hb hg ho
            have r1 := hbx.c 1 _ rfl
            have f1 := hbx.f 1 (by simp)
            clear hbx hg hb ho
            go_simp
            refine hK.out _ _ (by simp only [hV]; rfl) (Stg.t4 ⟨_, hI2⟩)
          simp only [Act.put]
          refine SerF.nil fun V w1 hS => ?_
          obtain ⟨sv2, hI2⟩ := hS.s4 rfl
          clear hS hfin hro HC G p1
          go_wp2
          go_roundw
          case rel => exact ⟨kk + 1, by omega, by go_num, _, hI2⟩
          case measure => simp [intOf]; omega
        · obtain rfl : kk = (ob q).l := by omega
          have hrow : wr.ownsRow w.heap.size 41 2 (.slice pu (f + q) cu) (f + q) (rowC 2 (f + q) (objC oq)) := hI.h.row
          have hP := fun w2 v' ox hg hown => MvSt.step (n := n) hI hS (w2 := w2) (v' := v') (ox := ox) (by omega) hvr hg hown rfl rfl (fun _ _ => rfl)
          have hnews := rnew_news wr (ob q).c pv (ob q).l kv
          have hsz := hI.b.size
          have p0 := hI.x.c 0 _ rfl
          have p1 := hI.x.c 1 _ rfl
          clear FO hI
          generalize (ob q).l = lq at *
          generalize (ob q).c = cc at *
          go_wp2_with (at_builtin; refine wpList_append_own _ rfl _ _ 22 rfl w.heap.size 41 i0 _ 2 40 Try.underlying22 hi hz0 hz1 hz2 rfl (by decide) _ _ _ rfl (hrow.alloc _) ⟨wr.heap.size, 0, none⟩ 1 1 [.string cc, .slice pv lq kv] rfl rfl hnews (rnew_one cc pv lq kv) ?d7 ?d8 ?d9 ?_)
          case d7 => unfold maxLen; omega
          case d8 => omega
          case d9 => simp; omega
          intro v2 w2 hown2 hg2 _
          have hO2 := hP _ _ _ hg2 hown2
          clear hP hown2 hg2 hrow hnews
          go_wp2
          go_roundw
          case rel => exact ⟨q + 1, by omega, by go_num, hO2⟩
          case measure => simp [intOf]; omega
    · obtain rfl : q = n := by omega
      have hO2 := hH.objs rfl (by omega)
      have hBf := hb
      clear hH O1 hO
      go_wp2
      go_ret
      exact ⟨_, _, oq, rfl, hO2, hS, hBf⟩
end Go.Proofs.Ytndakhnplnamdaa
