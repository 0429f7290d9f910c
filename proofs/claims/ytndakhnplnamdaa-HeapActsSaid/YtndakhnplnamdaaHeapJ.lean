/- The reference's Store. -/
import Derived.Test.YtndakhnplnamdaaHeapI
namespace Go.Proofs.Ytndakhnplnamdaa
open Go.RowKit

def RStorePost (w : World) (n : Nat) (ob : Nat → ObjD) (ok : Bool) (e : Ending) (w' : World) : Prop :=
  ∃ pu cu oq, e = .returned (.tuple #[.slice pu n cu, .bool ok]) ∧ Objs w' pu n oq ∧ SameAs n oq ob ∧ Below w.heap.size w w'
theorem putOb_c (n : Nat) (ob : Nat → ObjD) (o : Vl) (at' : Int) (v : Vl) (i : Nat) : (putOb n ob o at' v i).c = (ob i).c ∧ (putOb n ob o at' v i).l = (ob i).l := by
  unfold putOb
  split <;> exact ⟨rfl, rfl⟩
/-- the rounds of the outer loop -/
def OutSt (w wr : World) (_ q : Nat) (ob : Nat → ObjD) (v : Value) : Prop := ∃ oq, HeapRow wr w.heap.size v q oq ∧ SameAs q oq ob ∧ Below w.heap.size w wr
theorem OutSt.start {w : World} {n : Nat} {ob : Nat → ObjD} : OutSt w w n 0 ob (.slice none 0 0) :=
  ⟨ob, ⟨Owns.nil, fun i hi => absurd hi (Nat.not_lt_zero i), fun i hi => absurd hi (Nat.not_lt_zero i)⟩, fun i hi => absurd hi (Nat.not_lt_zero i), Below.refl _ _⟩
theorem OutSt.step {w wr w2 : World} {D px n q k : Nat} {c : ByteArray} {v v' : Value} {pv : Option Addr} {kv : Nat} {oq ob : Nat → ObjD} {vs : Nat → Vl} (h : InSt w wr D px c v (.slice pv k kv) q oq k vs) (hS : SameAs q oq ob) {ox : Obj} (hk : k ≤ 9223372036854775807) (hr : ∀ i, i < k → -9223372036854775808 ≤ (vs i).2 ∧ (vs i).2 ≤ 9223372036854775807)
    (hg : (wr.alloc ox).grownBy w2 v.ownBlock) (hown : w2.ownsRow w.heap.size 41 2 v' (q + 1) (rowC 2 q (objC oq) ++ [.string c, .slice pv k kv])) (h1 : (ob q).c = c) (h2 : (ob q).l = k) (h3 : (ob q).vs = vs) : OutSt w w2 n (q + 1) ob v' := by
  obtain ⟨a, b⟩ := h.done hk hr hg hown
  refine ⟨_, a, fun j hj => ?_, b⟩
  by_cases e : j = q
  · subst e
    rw [obPush_at]
    exact ⟨h1.symm, h2.symm, h3.symm⟩
  · rw [obPush_ne e]
    exact hS j (by omega)

set_option maxHeartbeats 4000000 in
theorem rstore_no (ph : Option Addr) (n ch : Nat) (ob : Nat → ObjD) (hn : n ≤ 1000) (hl : ∀ i, i < n → (ob i).l ≤ 1000) (s : ByteArray) (x at' : Int) (t : ByteArray) (y : Int) (r : ByteArray) (m : Int) (hL : loadV n ob (s, x) at' = ((r, m), false)) (w : World) (hO : Objs w ph n ob) :
    Calls Try.prog 15 #[.slice ph n ch, .agg #[.string s, .int .i64 x], .int .i64 at', .agg #[.string t, .int .i64 y]] w (RStorePost w n ob false) := by
  obtain ⟨i0, hi, hz0, hz1, hz2⟩ := info_parts infoO
  obtain ⟨i1, hj, hy0, hy1, hy2⟩ := info_parts infoV
  have hB0 : Below w.heap.size w ((w.alloc (Obj.cells #[.string s, .int .i64 x] 25)).alloc (Obj.cells #[.string t, .int .i64 y] 25)) := (boxes2 (c1 := [.string s, .int .i64 x]) (c2 := [.string t, .int .i64 y]) (Below.refl _ _)).2.2
  have HL := rload_val ph n ch ob s x at' r m false hL _ (hO.below hB0)
  go_enter Try.func15, Try.ntmps15
  go_wp2_with fail
  refine HL.mono ?_
  rintro e w1 ⟨rfl, hb⟩
  obtain ⟨wB, hwB⟩ : ∃ wB, w1.alloc (Obj.cells #[.string r, .int .i64 m] 25) = wB := ⟨_, rfl⟩
  obtain ⟨bx, bv, hB1⟩ := boxes2 (c1 := [.string s, .int .i64 x]) (c2 := [.string t, .int .i64 y]) hb
  have hbB : Below w1.heap.size w1 wB := hwB ▸ (Below.refl _ _).alloc (Nat.le_refl _) _
  have bx := bx.nx hbB
  have bv := bv.nx hbB
  have hBB := hB1.trans (hbB.mono hB1.size)
  have hOB := hO.below hBB
  have HB := Lib.hid hwB
  clear HL hb hB1 hB0 hbB hL hwB hO
  go_wp2
  rw [HB.out]
  clear HB
  go_loopw [12, 13] (fun v i wr => ∃ q : Nat, q ≤ n ∧ i = .int .i64 (q : Int) ∧ OutSt wB wr n q ob v) (fun _ i _ => n - (intOf i).toNat)
  case atStart => exact ⟨0, Nat.zero_le _, rfl, OutSt.start⟩
  case round =>
    obtain ⟨q, hq, rfl, oq, hH, hS, hb⟩ := hrel
    obtain ⟨pu, cu, rfl⟩ := hH.row.slice
    have O1 := hOB.below hb
    by_cases hlt : q < n
    · obtain ⟨Bh, oh, rfl, hBh, hch⟩ := O1.at' (by omega)
      obtain ⟨c0, c1⟩ := hch q hlt
      have hlq := hl q hlt
      have hst := InSt.start hH hb (ob q).c (ob q).vs
      have FO : ∀ w2, Below wB.heap.size wB w2 → w2.cell? ⟨Bh, oh + q * 2 + 1, none⟩ = some (.slice (ob q).p (ob q).l (ob q).k) ∧ Vals w2 (ob q).p (ob q).l (ob q).vs ∧ w2.cell? ⟨w.heap.size, 1, none⟩ = some (.int .i64 x) := fun w2 h2 => by
        have hO2 := hOB.below h2
        obtain ⟨B', o', e, _, hc⟩ := hO2.at' (by omega)
        have e : (⟨Bh, oh, none⟩ : Addr) = ⟨B', o', none⟩ := by simpa using e
        injection e with e1 e2
        subst e1 e2
        exact ⟨(hc q hlt).2, hO2.v q hlt, (bx.nx h2).c 1 _ rfl⟩
      have hvr := (hOB.v q hlt).r
      clear hch O1 hH hb
      go_wp2
      obtain ⟨wo, rfl⟩ : ∃ wo : World, wo = wr := ⟨_, rfl⟩
      go_loopw [15] (fun k wk => ∃ kk : Nat, kk ≤ (ob q).l ∧ k = .int .i64 (kk : Int) ∧ ∃ sv, InSt wB wk wo.heap.size wo.heap.size (ob q).c (.slice pu q cu) sv q oq kk (ob q).vs) (fun k _ => (ob q).l - (intOf k).toNat)
      case atStart => exact ⟨0, Nat.zero_le _, rfl, _, hst⟩
      case round =>
        obtain ⟨kk, hkk, rfl, sv, hI⟩ := hrel
        obtain ⟨pv, kv, rfl⟩ := hI.o.slice
        obtain ⟨d1, V1, -⟩ := FO _ hI.b
        have p0 := hI.x.c 0 _ rfl
        have p1 := hI.x.c 1 _ rfl
        by_cases hlk : kk < (ob q).l
        · obtain ⟨Bv, ov, hpv, hBv, hcv⟩ := V1.at' (by omega)
          obtain ⟨e0, e1⟩ := hcv kk hlk
          rw [hpv] at d1
          have hgen : ∃ ss xx, (ob q).vs kk = (ss, xx) := ⟨_, _, rfl⟩
          obtain ⟨ss, xx, hsx⟩ := hgen
          rw [hsx] at e0 e1
          dsimp only at e0 e1
          have hrow : wr.ownsRow wo.heap.size 25 2 (.slice pv kk kv) kk (rowC 2 kk (valC (ob q).vs)) := hI.o
          have hP := fun w2 sv' hg hr => hI.push (w2 := w2) (sv' := sv') (o1 := Obj.cells #[.string ss, .int .i64 xx] 25) (o2 := Obj.cells #[.string ss, .int .i64 xx] 25) (s := ss) (x := xx) hg hr hsx
          have hnews := val_news (wr.alloc (Obj.cells #[.string ss, .int .i64 xx] 25)) ss xx
          have hs1 : (wr.alloc (Obj.cells #[.string ss, .int .i64 xx] 25)).heap.size = wr.heap.size + 1 := by simp
          rw [hs1] at hnews
          have hsz : wo.heap.size ≤ wr.heap.size + 1 + 1 := by have := hI.x.lt; omega
          have hp2 : ∀ w2, ((wr.alloc (Obj.cells #[.string ss, .int .i64 xx] 25)).alloc (Obj.cells #[.string ss, .int .i64 xx] 25)).grownBy w2 (Value.slice pv kk kv).ownBlock → Box w2 wo.heap.size [.string (ob q).c, .slice pv kk kv] := fun w2 hg =>
            ((hI.x.al _).al _).same (hg.block _ (by have := hI.x.lt; simp; omega) (Ne.symm hI.px_ne))
          have hpa := hI.x.al (Obj.cells #[.string ss, .int .i64 xx] 25)
          have p2 := hpa.c 1 _ rfl
          clear hcv hst FO hI hpa hpv hBv
          have hlen := hlq
          generalize (ob q).l = lq at *
          go_wp2_with (at_builtin; refine wpList_append_own _ rfl _ _ 23 rfl wo.heap.size 25 i1 _ 2 24 Try.underlying23 hj hy0 hy1 hy2 rfl (by decide) _ _ _ rfl ((hrow.alloc _).alloc _) ⟨wr.heap.size + 1, 0, none⟩ 1 1 [.string ss, .int .i64 xx] rfl rfl hnews (val_one ss xx) ?d4 ?d5 ?d6 ?_)
          case d4 => unfold maxLen; omega
          case d5 => omega
          case d6 => simp; omega
          intro v2 w2 hown2 hg2 _
          obtain ⟨pv2, kv2, rfl⟩ := own_sl hown2
          have hbx := hp2 _ hg2
          have f1 := hbx.f 1 (by simp)
          have r1 := hbx.c 1 _ rfl
          have hI2 := hP _ _ hg2 hown2
          clear hP hp2 hbx hown2 hg2 hrow hnews
          go_wp2
          go_roundw
          case rel => exact ⟨kk + 1, by omega, by go_num, _, hI2⟩
          case measure => simp [intOf]; omega
        · obtain rfl : kk = (ob q).l := by omega
          have hrow : wr.ownsRow wB.heap.size 41 2 (.slice pu q cu) q (rowC 2 q (objC oq)) := hI.h.row
          have hP := fun w2 v' ox hg hown => OutSt.step (n := n) hI hS (w2 := w2) (v' := v') (ox := ox) (by omega) hvr hg hown rfl rfl rfl
          have hnews := rnew_news wr (ob q).c pv (ob q).l kv
          have hsz := hI.b.size
          clear hst FO hI
          generalize (ob q).l = lq at *
          generalize (ob q).c = cc at *
          go_wp2_with (at_builtin; refine wpList_append_own _ rfl _ _ 22 rfl wB.heap.size 41 i0 _ 2 40 Try.underlying22 hi hz0 hz1 hz2 rfl (by decide) _ _ _ rfl (hrow.alloc _) ⟨wr.heap.size, 0, none⟩ 1 1 [.string cc, .slice pv lq kv] rfl rfl hnews (rnew_one cc pv lq kv) ?d7 ?d8 ?d9 ?_)
          case d7 => unfold maxLen; omega
          case d8 => omega
          case d9 => simp; omega
          intro v2 w2 hown2 hg2 _
          have hO2 := hP _ _ _ hg2 hown2
          clear hP hown2 hg2 hrow hnews
          go_wp2
          go_roundw
          case rel => exact ⟨q + 1, by omega, by go_num, hO2⟩
          case measure => simp [intOf]; omega
    · obtain rfl : q = n := by omega
      have hO2 := hH.objs rfl (by omega)
      have hBf := hBB.trans (hb.mono hBB.size)
      clear hH O1 hOB bx bv
      go_wp2
      go_ret2
      exact ⟨_, _, oq, rfl, hO2, hS, hBf⟩
set_option maxHeartbeats 4000000 in
theorem rstore_yes (ph : Option Addr) (n ch : Nat) (ob : Nat → ObjD) (hn : n ≤ 1000) (hl : ∀ i, i < n → (ob i).l ≤ 1000) (s : ByteArray) (q0 i0' : Nat) (hq0 : q0 < n) (hi0 : i0' < (ob q0).l) (t : ByteArray) (y : Int) (hyr : -9223372036854775808 ≤ y ∧ y ≤ 9223372036854775807) (r : ByteArray) (m : Int) (hL : loadV n ob (s, (q0 : Int) + 1) (i0' : Int) = ((r, m), true)) (w : World) (hO : Objs w ph n ob) :
    Calls Try.prog 15 #[.slice ph n ch, .agg #[.string s, .int .i64 ((q0 : Int) + 1)], .int .i64 (i0' : Int), .agg #[.string t, .int .i64 y]] w (RStorePost w n (setOb ob q0 i0' (t, y)) true) := by
  obtain ⟨i0, hi, hz0, hz1, hz2⟩ := info_parts infoO
  obtain ⟨i1, hj, hy0, hy1, hy2⟩ := info_parts infoV
  have hB0 : Below w.heap.size w ((w.alloc (Obj.cells #[.string s, .int .i64 ((q0 : Int) + 1)] 25)).alloc (Obj.cells #[.string t, .int .i64 y] 25)) := (boxes2 (c1 := [.string s, .int .i64 ((q0 : Int) + 1)]) (c2 := [.string t, .int .i64 y]) (Below.refl _ _)).2.2
  have HL := rload_val ph n ch ob s ((q0 : Int) + 1) (i0' : Int) r m true hL _ (hO.below hB0)
  go_enter Try.func15, Try.ntmps15
  go_wp2_with fail
  refine HL.mono ?_
  rintro e w1 ⟨rfl, hb⟩
  obtain ⟨wB, hwB⟩ : ∃ wB, w1.alloc (Obj.cells #[.string r, .int .i64 m] 25) = wB := ⟨_, rfl⟩
  obtain ⟨bx, bv, hB1⟩ := boxes2 (c1 := [.string s, .int .i64 ((q0 : Int) + 1)]) (c2 := [.string t, .int .i64 y]) hb
  have hbB : Below w1.heap.size w1 wB := hwB ▸ (Below.refl _ _).alloc (Nat.le_refl _) _
  have bx := bx.nx hbB
  have bv := bv.nx hbB
  have hBB := hB1.trans (hbB.mono hB1.size)
  have hOB := hO.below hBB
  have HB := Lib.hid hwB
  clear HL hb hB1 hB0 hbB hL hwB hO
  go_wp2
  rw [HB.out]
  clear HB
  go_loopw [12, 13] (fun v i wr => ∃ q : Nat, q ≤ n ∧ i = .int .i64 (q : Int) ∧ OutSt wB wr n q (setOb ob q0 i0' (t, y)) v) (fun _ i _ => n - (intOf i).toNat)
  case atStart => exact ⟨0, Nat.zero_le _, rfl, OutSt.start⟩
  case round =>
    obtain ⟨q, hq, rfl, oq, hH, hS, hb⟩ := hrel
    obtain ⟨pu, cu, rfl⟩ := hH.row.slice
    have O1 := hOB.below hb
    by_cases hlt : q < n
    · obtain ⟨Bh, oh, rfl, hBh, hch⟩ := O1.at' (by omega)
      obtain ⟨c0, c1⟩ := hch q hlt
      have hlq := hl q hlt
      have hst := InSt.start hH hb (ob q).c (setOb ob q0 i0' (t, y) q).vs
      have FO : ∀ w2, Below wB.heap.size wB w2 → w2.cell? ⟨Bh, oh + q * 2 + 1, none⟩ = some (.slice (ob q).p (ob q).l (ob q).k) ∧ Vals w2 (ob q).p (ob q).l (ob q).vs ∧ w2.cell? ⟨w.heap.size, 1, none⟩ = some (.int .i64 ((q0 : Int) + 1)) ∧ w2.cell? ⟨w.heap.size + 1, 0, none⟩ = some (.string t) ∧ w2.cell? ⟨w.heap.size + 1, 1, none⟩ = some (.int .i64 y) := fun w2 h2 => by
        have hO2 := hOB.below h2
        obtain ⟨B', o', e, _, hc⟩ := hO2.at' (by omega)
        have e : (⟨Bh, oh, none⟩ : Addr) = ⟨B', o', none⟩ := by simpa using e
        injection e with e1 e2
        subst e1 e2
        exact ⟨(hc q hlt).2, hO2.v q hlt, (bx.nx h2).c 1 _ rfl, (bv.nx h2).c 0 _ rfl, (bv.nx h2).c 1 _ rfl⟩
      have hT : (setOb ob q0 i0' (t, y) q).c = (ob q).c ∧ (setOb ob q0 i0' (t, y) q).l = (ob q).l := by
        by_cases e : q = q0
        · subst e; rw [setOb_at]; exact ⟨rfl, rfl⟩
        · rw [setOb_ne e]; exact ⟨rfl, rfl⟩
      have hTv : ∀ j, (setOb ob q0 i0' (t, y) q).vs j = if q = q0 ∧ j = i0' then (t, y) else (ob q).vs j := fun j => by
        by_cases e : q = q0
        · subst e; rw [setOb_at]; simp
        · rw [setOb_ne e]; simp [e]
      have hvr : ∀ i, i < (ob q).l → -9223372036854775808 ≤ ((setOb ob q0 i0' (t, y) q).vs i).2 ∧ ((setOb ob q0 i0' (t, y) q).vs i).2 ≤ 9223372036854775807 := fun i hi => by
        rw [hTv]
        split
        · exact hyr
        · exact (hOB.v q hlt).r i hi
      generalize hg : setOb ob q0 i0' (t, y) q = TO at *
      have hT1 := Lib.hid hT.1
      have hT2 := Lib.hid hT.2
      have hTv := Lib.hid hTv
      have hTO := Lib.hid hg
      clear hT hg
      clear hch O1 hH hb
      go_wp2
      obtain ⟨wo, rfl⟩ : ∃ wo : World, wo = wr := ⟨_, rfl⟩
      go_loopw [15] (fun k wk => ∃ kk : Nat, kk ≤ (ob q).l ∧ k = .int .i64 (kk : Int) ∧ ∃ sv, InSt wB wk wo.heap.size wo.heap.size (ob q).c (.slice pu q cu) sv q oq kk TO.vs) (fun k _ => (ob q).l - (intOf k).toNat)
      case atStart => exact ⟨0, Nat.zero_le _, rfl, _, hst⟩
      case round =>
        obtain ⟨kk, hkk, rfl, sv, hI⟩ := hrel
        obtain ⟨pv, kv, rfl⟩ := hI.o.slice
        obtain ⟨d1, V1, bo, -⟩ := FO _ hI.b
        have FB := fun o => (FO _ (hI.b.alloc hI.b.size o)).2.2
        have p0 := hI.x.c 0 _ rfl
        have p1 := hI.x.c 1 _ rfl
        by_cases hlk : kk < (ob q).l
        · obtain ⟨Bv, ov, hpv, hBv, hcv⟩ := V1.at' (by omega)
          obtain ⟨e0, e1⟩ := hcv kk hlk
          rw [hpv] at d1
          have hgen : ∃ ss xx, (ob q).vs kk = (ss, xx) := ⟨_, _, rfl⟩
          obtain ⟨ss, xx, hsx⟩ := hgen
          rw [hsx] at e0 e1
          dsimp only at e0 e1
          have hmem : (q = q0 ∧ kk = i0' ∧ TO.vs kk = (t, y)) ∨ (((q : Int) == (q0 : Int)) = false ∧ TO.vs kk = (ss, xx)) ∨ (q = q0 ∧ ((kk : Int) == (i0' : Int)) = false ∧ TO.vs kk = (ss, xx)) := by
            rw [hTv.out]
            by_cases a1 : q = q0
            · by_cases a2 : kk = i0'
              · exact .inl ⟨a1, a2, by rw [if_pos ⟨a1, a2⟩]⟩
              · refine .inr (.inr ⟨a1, by rw [beq_eq_false_iff_ne]; omega, ?_⟩)
                rw [if_neg (fun h => a2 h.2)]
                exact hsx
            · refine .inr (.inl ⟨by rw [beq_eq_false_iff_ne]; omega, ?_⟩)
              rw [if_neg (fun h => a1 h.1)]
              exact hsx
          clear hsx hTv
          rcases hmem with ⟨rfl, rfl, hsx⟩ | ⟨g1, hsx⟩ | ⟨rfl, g1, hsx⟩
          · have hrow : wr.ownsRow wo.heap.size 25 2 (.slice pv kk kv) kk (rowC 2 kk (valC TO.vs)) := hI.o
            have hP := fun w2 sv' hg hr => hI.push (w2 := w2) (sv' := sv') (o1 := Obj.cells #[.string t, .int .i64 y] 25) (o2 := Obj.cells #[.string t, .int .i64 y] 25) (s := t) (x := y) hg hr hsx
            have hnews := val_news (wr.alloc (Obj.cells #[.string t, .int .i64 y] 25)) t y
            have hs1 : (wr.alloc (Obj.cells #[.string t, .int .i64 y] 25)).heap.size = wr.heap.size + 1 := by simp
            rw [hs1] at hnews
            have hsz : wo.heap.size ≤ wr.heap.size + 1 + 1 := by have := hI.x.lt; omega
            have hp2 : ∀ w2, ((wr.alloc (Obj.cells #[.string t, .int .i64 y] 25)).alloc (Obj.cells #[.string t, .int .i64 y] 25)).grownBy w2 (Value.slice pv kk kv).ownBlock → Box w2 wo.heap.size [.string (ob q).c, .slice pv kk kv] := fun w2 hg =>
              ((hI.x.al _).al _).same (hg.block _ (by have := hI.x.lt; simp; omega) (Ne.symm hI.px_ne))
            have hpa := hI.x.al (Obj.cells #[.string t, .int .i64 y] 25)
            have p2 := hpa.c 1 _ rfl
            clear hcv hst FO hI hpa hpv hBv
            have hlen := hlq
            generalize (ob q).l = lq at *
            go_wp2_with (at_builtin; refine wpList_append_own _ rfl _ _ 23 rfl wo.heap.size 25 i1 _ 2 24 Try.underlying23 hj hy0 hy1 hy2 rfl (by decide) _ _ _ rfl ((hrow.alloc _).alloc _) ⟨wr.heap.size + 1, 0, none⟩ 1 1 [.string t, .int .i64 y] rfl rfl hnews (val_one t y) ?d41 ?d51 ?d61 ?_)
            case d41 => unfold maxLen; omega
            case d51 => omega
            try (case d61 => simp; omega)
            intro v2 w2 hown2 hg2 _
            obtain ⟨pv2, kv2, rfl⟩ := own_sl hown2
            have hbx := hp2 _ hg2
            have f1 := hbx.f 1 (by simp)
            have r1 := hbx.c 1 _ rfl
            have hI2 := hP _ _ hg2 hown2
            clear hP hp2 hbx hown2 hg2 hrow hnews
            go_wp2
            go_roundw
            case rel => exact ⟨kk + 1, by omega, by go_num, _, hI2⟩
            case measure => simp [intOf]; omega
          · have hrow : wr.ownsRow wo.heap.size 25 2 (.slice pv kk kv) kk (rowC 2 kk (valC TO.vs)) := hI.o
            have hP := fun w2 sv' hg hr => hI.push (w2 := w2) (sv' := sv') (o1 := Obj.cells #[.string ss, .int .i64 xx] 25) (o2 := Obj.cells #[.string ss, .int .i64 xx] 25) (s := ss) (x := xx) hg hr hsx
            have hnews := val_news (wr.alloc (Obj.cells #[.string ss, .int .i64 xx] 25)) ss xx
            have hs1 : (wr.alloc (Obj.cells #[.string ss, .int .i64 xx] 25)).heap.size = wr.heap.size + 1 := by simp
            rw [hs1] at hnews
            have hsz : wo.heap.size ≤ wr.heap.size + 1 + 1 := by have := hI.x.lt; omega
            have hp2 : ∀ w2, ((wr.alloc (Obj.cells #[.string ss, .int .i64 xx] 25)).alloc (Obj.cells #[.string ss, .int .i64 xx] 25)).grownBy w2 (Value.slice pv kk kv).ownBlock → Box w2 wo.heap.size [.string (ob q).c, .slice pv kk kv] := fun w2 hg =>
              ((hI.x.al _).al _).same (hg.block _ (by have := hI.x.lt; simp; omega) (Ne.symm hI.px_ne))
            have hpa := hI.x.al (Obj.cells #[.string ss, .int .i64 xx] 25)
            have p2 := hpa.c 1 _ rfl
            clear hcv hst FO hI hpa hpv hBv
            have hlen := hlq
            generalize (ob q).l = lq at *
            go_wp2_with (at_builtin; refine wpList_append_own _ rfl _ _ 23 rfl wo.heap.size 25 i1 _ 2 24 Try.underlying23 hj hy0 hy1 hy2 rfl (by decide) _ _ _ rfl ((hrow.alloc _).alloc _) ⟨wr.heap.size + 1, 0, none⟩ 1 1 [.string ss, .int .i64 xx] rfl rfl hnews (val_one ss xx) ?d42 ?d52 ?d62 ?_)
            case d42 => unfold maxLen; omega
            case d52 => omega
            try (case d62 => simp; omega)
            intro v2 w2 hown2 hg2 _
            obtain ⟨pv2, kv2, rfl⟩ := own_sl hown2
            have hbx := hp2 _ hg2
            have f1 := hbx.f 1 (by simp)
            have r1 := hbx.c 1 _ rfl
            have hI2 := hP _ _ hg2 hown2
            clear hP hp2 hbx hown2 hg2 hrow hnews
            go_wp2
            go_roundw
            case rel => exact ⟨kk + 1, by omega, by go_num, _, hI2⟩
            case measure => simp [intOf]; omega
          · have hrow : wr.ownsRow wo.heap.size 25 2 (.slice pv kk kv) kk (rowC 2 kk (valC TO.vs)) := hI.o
            have hP := fun w2 sv' hg hr => hI.push (w2 := w2) (sv' := sv') (o1 := Obj.cells #[.string ss, .int .i64 xx] 25) (o2 := Obj.cells #[.string ss, .int .i64 xx] 25) (s := ss) (x := xx) hg hr hsx
            have hnews := val_news (wr.alloc (Obj.cells #[.string ss, .int .i64 xx] 25)) ss xx
            have hs1 : (wr.alloc (Obj.cells #[.string ss, .int .i64 xx] 25)).heap.size = wr.heap.size + 1 := by simp
            rw [hs1] at hnews
            have hsz : wo.heap.size ≤ wr.heap.size + 1 + 1 := by have := hI.x.lt; omega
            have hp2 : ∀ w2, ((wr.alloc (Obj.cells #[.string ss, .int .i64 xx] 25)).alloc (Obj.cells #[.string ss, .int .i64 xx] 25)).grownBy w2 (Value.slice pv kk kv).ownBlock → Box w2 wo.heap.size [.string (ob q).c, .slice pv kk kv] := fun w2 hg =>
              ((hI.x.al _).al _).same (hg.block _ (by have := hI.x.lt; simp; omega) (Ne.symm hI.px_ne))
            have hpa := hI.x.al (Obj.cells #[.string ss, .int .i64 xx] 25)
            have p2 := hpa.c 1 _ rfl
            clear hcv hst FO hI hpa hpv hBv
            have hlen := hlq
            generalize (ob q).l = lq at *
            go_wp2_with (at_builtin; refine wpList_append_own _ rfl _ _ 23 rfl wo.heap.size 25 i1 _ 2 24 Try.underlying23 hj hy0 hy1 hy2 rfl (by decide) _ _ _ rfl ((hrow.alloc _).alloc _) ⟨wr.heap.size + 1, 0, none⟩ 1 1 [.string ss, .int .i64 xx] rfl rfl hnews (val_one ss xx) ?d43 ?d53 ?d63 ?_)
            case d43 => unfold maxLen; omega
            case d53 => omega
            try (case d63 => simp; omega)
            intro v2 w2 hown2 hg2 _
            obtain ⟨pv2, kv2, rfl⟩ := own_sl hown2
            have hbx := hp2 _ hg2
            have f1 := hbx.f 1 (by simp)
            have r1 := hbx.c 1 _ rfl
            have hI2 := hP _ _ hg2 hown2
            clear hP hp2 hbx hown2 hg2 hrow hnews
            go_wp2
            go_roundw
            case rel => exact ⟨kk + 1, by omega, by go_num, _, hI2⟩
            case measure => simp [intOf]; omega
        · obtain rfl : kk = (ob q).l := by omega
          have hrow : wr.ownsRow wB.heap.size 41 2 (.slice pu q cu) q (rowC 2 q (objC oq)) := hI.h.row
          have hP := fun w2 v' ox hg hown => OutSt.step (n := n) hI hS (w2 := w2) (v' := v') (ox := ox) (by omega) hvr hg hown (by rw [hTO.out]; exact hT1.out) (by rw [hTO.out]; exact hT2.out) (by rw [hTO.out])
          have hnews := rnew_news wr (ob q).c pv (ob q).l kv
          have hsz := hI.b.size
          clear hst FO hI
          generalize (ob q).l = lq at *
          generalize (ob q).c = cc at *
          go_wp2_with (at_builtin; refine wpList_append_own _ rfl _ _ 22 rfl wB.heap.size 41 i0 _ 2 40 Try.underlying22 hi hz0 hz1 hz2 rfl (by decide) _ _ _ rfl (hrow.alloc _) ⟨wr.heap.size, 0, none⟩ 1 1 [.string cc, .slice pv lq kv] rfl rfl hnews (rnew_one cc pv lq kv) ?d7 ?d8 ?d9 ?_)
          case d7 => unfold maxLen; omega
          case d8 => omega
          case d9 => simp; omega
          intro v2 w2 hown2 hg2 _
          have hO2 := hP _ _ _ hg2 hown2
          clear hP hown2 hg2 hrow hnews
          go_wp2
          go_roundw
          case rel => exact ⟨q + 1, by omega, by go_num, hO2⟩
          case measure => simp [intOf]; omega
    · obtain rfl : q = n := by omega
      have hO2 := hH.objs rfl (by omega)
      have hBf := hBB.trans (hb.mono hBB.size)
      clear hH O1 hOB bx bv
      go_wp2
      go_ret2
      exact ⟨_, _, oq, rfl, hO2, hS, hBf⟩
end Go.Proofs.Ytndakhnplnamdaa
