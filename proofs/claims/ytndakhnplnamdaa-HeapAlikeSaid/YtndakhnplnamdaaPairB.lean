/- A fresh pair: pair. -/
import Derived.Test.YtndakhnplnamdaaPair
import Derived.Laws.AppendOwn
namespace Go.Proofs.Ytndakhnplnamdaa
open Go.RowKit Go.ChangeMaps

/-- five worlds, one behind the other: behind numbers i, j, k, l -/
def Chain (i j k l : Nat) (W0 W1 W2 W3 W4 : World) (L : Nat → Bool) (w1 : World) : Prop := w1 = if L l then W4 else if L k then W3 else if L j then W2 else if L i then W1 else W0
section
variable {i j k l : Nat} {W0 W1 W2 W3 W4 w1 : World} {L : Nat → Bool}
theorem Chain.keep (h : Chain i j k l W0 W1 W2 W3 W4 L w1) {x : Nat} (h1 : (i == x) = false) (h2 : (j == x) = false) (h3 : (k == x) = false) (h4 : (l == x) = false) : Chain i j k l W0 W1 W2 W3 W4 (upd L x) w1 := by
  unfold Chain
  rw [upd_ne h1, upd_ne h2, upd_ne h3, upd_ne h4]
  exact h
theorem Chain.any {X : World → Prop} (h : Chain i j k l W0 W1 W2 W3 W4 L w1) (x0 : X W0) (x1 : X W1) (x2 : X W2) (x3 : X W3) (x4 : X W4) : X w1 := by
  unfold Chain at h
  rw [h]
  split
  · exact x4
  split
  · exact x3
  split
  · exact x2
  split
  · exact x1
  · exact x0
theorem Chain.s0 (h : Chain i j k l W0 W1 W2 W3 W4 L w1) (h1 : L i = false) (h2 : L j = false) (h3 : L k = false) (h4 : L l = false) : w1 = W0 := by
  unfold Chain at h; rw [h, h1, h2, h3, h4]; rfl
theorem Chain.s1 (h : Chain i j k l W0 W1 W2 W3 W4 L w1) (h1 : L i = true) (h2 : L j = false) (h3 : L k = false) (h4 : L l = false) : w1 = W1 := by
  unfold Chain at h; rw [h, h1, h2, h3, h4]; rfl
theorem Chain.s2 (h : Chain i j k l W0 W1 W2 W3 W4 L w1) (h2 : L j = true) (h3 : L k = false) (h4 : L l = false) : w1 = W2 := by
  unfold Chain at h; rw [h, h2, h3, h4]; rfl
theorem Chain.s3 (h : Chain i j k l W0 W1 W2 W3 W4 L w1) (h3 : L k = true) (h4 : L l = false) : w1 = W3 := by
  unfold Chain at h; rw [h, h3, h4]; rfl
theorem Chain.t1 (h2 : (j == i) = false) (h3 : (k == i) = false) (h4 : (l == i) = false) (e2 : L j = false) (e3 : L k = false) (e4 : L l = false) : Chain i j k l W0 W1 W2 W3 W4 (upd L i) W1 := by
  unfold Chain; rw [upd_self, upd_ne h2, upd_ne h3, upd_ne h4, e2, e3, e4]; rfl
theorem Chain.t2 (h3 : (k == j) = false) (h4 : (l == j) = false) (e3 : L k = false) (e4 : L l = false) : Chain i j k l W0 W1 W2 W3 W4 (upd L j) W2 := by
  unfold Chain; rw [upd_self, upd_ne h3, upd_ne h4, e3, e4]; rfl
theorem Chain.t3 (h4 : (l == k) = false) (e4 : L l = false) : Chain i j k l W0 W1 W2 W3 W4 (upd L k) W3 := by
  unfold Chain; rw [upd_self, upd_ne h4, e4]; rfl
theorem Chain.t4 : Chain i j k l W0 W1 W2 W3 W4 (upd L l) W4 := by
  unfold Chain; rw [upd_self]; rfl
end

theorem infoP : (Try.prog.info? 60).map (fun i => (i.zero, i.size, i.bytes)) = some (some (.agg #[.int .i64 0, .int .i64 0]), 2, 16) := by kernel_rfl

theorem swp_ne {T : List (Int × Int)} {b : Int} (h : ∀ x ∈ T, x.2 ≠ b) : ∀ x ∈ T.map swp, x.1 ≠ b := by
  intro x hx
  obtain ⟨y, hy, rfl⟩ := List.mem_map.1 hx
  exact h y hy

theorem own_slice {w : World} {B : Nat} {e : TypeId} {size : Nat} {v : Value} {n : Nat} {xs : List Value} (h : w.ownsRow B e size v n xs) : ∃ pu cu, v = .slice pu n cu := by
  rcases h.2 with ⟨rfl, rfl⟩ | ⟨g, cap, cur, rfl, _⟩
  · exact ⟨_, _, rfl⟩
  · exact ⟨_, _, rfl⟩
theorem grown_box {w w' : World} {p : Nat} {cs : List Value} {row : Option Nat} (h : Box w p cs) (hl : p < w.heap.size) (hg : w.grownBy w' row) (hn : some p ≠ row) : Box w' p cs := h.same (hg.block p hl hn)
theorem grown_map {w w' : World} {b : Nat} {T : List (Int × Int)} {row : Option Nat} (h : MapIs w b T) (hg : w.grownBy w' row) (hn : some b ≠ row) : MapIs w' b T := h.other (hg.block b h.lt hn)
theorem Typ.notRow {w : World} {p : Nat} {t : TypeId} (h : Typ w p t) {B : Nat} {e : TypeId} (he : e ≠ t) {size : Nat} {v : Value} {n : Nat} {xs : List Value} (ho : w.ownsRow B e size v n xs) : v.ownBlock ≠ some p := fun e1 => by
  obtain ⟨cur, m, h1⟩ := h
  obtain ⟨cur', h2⟩ := own_block ho e1
  rw [h1] at h2
  exact he (by injection h2 with h2; injection h2 with _ h3; exact h3.symm)

/-- the pairing's state behind a pair that is put in -/
theorem pair_put {W4 w5 : World} {B pb bt bb : Nat} {hv kv vt v' : Value} {T td : List (Int × Int)} {a b : Int} {o : Obj} (n1 : bt ≠ pb) (n2 : bb ≠ pb) (n3 : bt ≠ bb) (h0 : B ≤ pb) (h1 : B ≤ bt) (h2 : B ≤ bb)
    (hx : Box W4 pb [hv, kv, .map (some bt), .map (some bb), vt]) (hty : Typ W4 pb 59) (hm : MapIs W4 bt (T ++ [(a, b)])) (hm2 : MapIs W4 bb (T.map swp ++ [(b, a)])) (n4 : vt.ownBlock ≠ some pb) (n5 : vt.ownBlock ≠ some bt) (n6 : vt.ownBlock ≠ some bb)
    (hown : w5.ownsRow B 60 2 v' (td.length + 1) (rowP td ++ [.int .i64 a, .int .i64 b])) (hg : (W4.alloc o).grownBy w5 vt.ownBlock) :
    PairSt (w5.setCell ⟨pb, 4, none⟩ v') B pb bt bb hv kv v' (T ++ [(a, b)]) (td ++ [(a, b)]) := by
  have ga := World.grownBy_alloc W4 o none
  have hx5 : Box w5 pb [hv, kv, .map (some bt), .map (some bb), vt] := grown_box (grown_box hx hx.lt ga (by simp)) (by have := hx.lt; simp; omega) hg (Ne.symm n4)
  have hty5 : Typ w5 pb 59 := (hty.grown ga (by simp)).grown hg (Ne.symm n4)
  have hm5 : MapIs w5 bt _ := grown_map (grown_map hm ga (by simp)) hg (Ne.symm n5)
  have hm25 : MapIs w5 bb _ := grown_map (grown_map hm2 ga (by simp)) hg (Ne.symm n6)
  have gs := grown_setCell w5 pb 4 v'
  have hnr := hty5.notRow (by decide) hown
  exact
  { x := hx5.set (i := 4) (by simp) v'
    ty := hty5.set 4 v'
    mt := grown_map hm5 gs (by simpa using n1)
    mb := by
      have := grown_map hm25 gs (by simpa using n2)
      simpa [swp] using this
    o := by
      have := hown.kept gs (.inr hnr)
      simpa [rowP] using this
    h0 := h0, h1 := h1, h2 := h2, n1 := n1, n2 := n2, n3 := n3 }

/-- the five worlds of a pair's store into the two maps -/
structure Five (w : World) (pb bt bb : Nat) (hv kv vt : Value) (a b : Int) (st st2 : Nat) (W1 W2 W3 W4 : World) : Prop where
  x0 : Box w pb [hv, kv, .map (some bt), .map (some bb), vt]
  x1 : Box W1 pb [hv, kv, .map (some bt), .map (some bb), vt]
  x2 : Box W2 pb [hv, kv, .map (some bt), .map (some bb), vt]
  x3 : Box W3 pb [hv, kv, .map (some bt), .map (some bb), vt]
  x4 : Box W4 pb [hv, kv, .map (some bt), .map (some bb), vt]
  r1 : (Instr.mapEntry 56 (.map (some bt)) (.int .i64 a)).run Try.prog w = .ok (.tuple #[.int .i64 0, (.int .i64 (st : Int))]) W1
  r2 : (Instr.entryStore 56 (.map (some bt)) (.int .i64 (st : Int)) (.int .i64 b)).run Try.prog W1 = .ok () W2
  r3 : (Instr.mapEntry 56 (.map (some bb)) (.int .i64 b)).run Try.prog W2 = .ok (.tuple #[.int .i64 0, (.int .i64 (st2 : Int))]) W3
  r4 : (Instr.entryStore 56 (.map (some bb)) (.int .i64 (st2 : Int)) (.int .i64 a)).run Try.prog W3 = .ok () W4
theorem five {w : World} {B pb bt bb : Nat} {hv kv vt : Value} {T td : List (Int × Int)} {a b : Int} (h : PairSt w B pb bt bb hv kv vt T td) (h1 : ∀ x ∈ T, x.1 ≠ a) (h2 : ∀ x ∈ T, x.2 ≠ b) :
    ∃ st st2 W1 W2 W3 W4, Five w pb bt bb hv kv vt a b st st2 W1 W2 W3 W4 ∧ Typ W4 pb 59 ∧ MapIs W4 bt (T ++ [(a, b)]) ∧ MapIs W4 bb (T.map swp ++ [(b, a)]) ∧ W4.ownsRow B 60 2 vt td.length (rowP td) ∧ Below B w W4 := by
  obtain ⟨st, o1, r1, k1⟩ := run_entry (P := Try.prog) (w := w) Try.underlying56 Try.underlying2 zero64 h.mt (a := a) h1
  obtain ⟨es, ck, hbt⟩ := h.mt.obj
  obtain ⟨o2, r2, m2⟩ := k1 _ b (setBlock_at hbt)
  have G1 := setBlock_grown w bt o1
  have G2 := setBlock_grown (setBlock w bt o1) bt o2
  generalize setBlock w bt o1 = W1 at r1 r2 m2 G1 G2 k1
  generalize setBlock W1 bt o2 = W2 at r2 m2 G2
  have mb2 : MapIs W2 bb (T.map swp) := grown_map (grown_map h.mb G1 (by simpa using h.n3.symm)) G2 (by simpa using h.n3.symm)
  obtain ⟨st2, o3, r3, k3⟩ := run_entry (P := Try.prog) (w := W2) Try.underlying56 Try.underlying2 zero64 mb2 (a := b) (swp_ne h2)
  obtain ⟨es', ck', hbb⟩ := mb2.obj
  obtain ⟨o4, r4, m4⟩ := k3 _ a (setBlock_at hbb)
  have G3 := setBlock_grown W2 bb o3
  have G4 := setBlock_grown (setBlock W2 bb o3) bb o4
  generalize setBlock W2 bb o3 = W3 at r3 r4 m4 G3 G4 k3
  generalize setBlock W3 bb o4 = W4 at r4 m4 G4
  have p1 : some pb ≠ some bt := by simpa using h.n1.symm
  have p2 : some pb ≠ some bb := by simpa using h.n2.symm
  have x1 := grown_box h.x h.x.lt G1 p1
  have x2 := grown_box x1 x1.lt G2 p1
  have x3 := grown_box x2 x2.lt G3 p2
  have x4 := grown_box x3 x3.lt G4 p2
  have hty : Typ w pb 59 := h.ty
  have q : some bt ≠ some bb := by simpa using h.n3
  have b1 : Below B w W1 := (Below.refl B w).grown G1 (Nat.le_trans h.h0 (Nat.le_of_lt h.x.lt)) (fun k e => by have := h.h1; cases e; exact this)
  have b2 : Below B w W2 := b1.grown G2 (Nat.le_trans h.h0 (Nat.le_of_lt x1.lt)) (fun k e => by have := h.h1; cases e; exact this)
  have b3 : Below B w W3 := b2.grown G3 (Nat.le_trans h.h0 (Nat.le_of_lt x2.lt)) (fun k e => by have := h.h2; cases e; exact this)
  have b4 : Below B w W4 := b3.grown G4 (Nat.le_trans h.h0 (Nat.le_of_lt x3.lt)) (fun k e => by have := h.h2; cases e; exact this)
  refine ⟨st, st2, W1, W2, W3, W4, ⟨h.x, x1, x2, x3, x4, r1, r2, r3, r4⟩, (((hty.grown G1 p1).grown G2 p1).grown G3 p2).grown G4 p2, grown_map (grown_map m2 G3 q) G4 q, m4, ?_, b4⟩
  exact (((h.o.kept G1 (.inr h.n5)).kept G2 (.inr h.n5)).kept G3 (.inr h.n6)).kept G4 (.inr h.n6)

theorem chain_all {i j k l n : Nat} {W0 W1 W2 W3 W4 w1 : World} (hl : l < n) (h : Chain i j k l W0 W1 W2 W3 W4 (fun x => decide (x < n)) w1) : w1 = W4 := by
  unfold Chain at h
  rw [h, if_pos (by simpa using hl)]

set_option maxHeartbeats 2000000 in
theorem pair_fresh (B pb bt bb : Nat) (hv kv vt : Value) (T td : List (Int × Int)) (a b : Int) (hl : td.length ≤ 1000000) (h1 : ∀ x ∈ T, x.1 ≠ a) (h2 : ∀ x ∈ T, x.2 ≠ b) (w : World) (h : PairSt w B pb bt bb hv kv vt T td) :
    Calls Try.prog 31 #[.pointer (some ⟨pb, 0, none⟩), .int .i64 a, .int .i64 b] w fun e w' => e = .returned (.bool true) ∧ ∃ vt', PairSt w' B pb bt bb hv kv vt' (T ++ [(a, b)]) (td ++ [(a, b)]) ∧ Below B w w' := by
  obtain ⟨i0, hi, hz0, hz1, hz2⟩ := info_parts infoP
  have l1 := run_look (P := Try.prog) (w := w) Try.underlying56 Try.underlying2 zero64 h.mt a
  have l2 := run_look (P := Try.prog) (w := w) Try.underlying56 Try.underlying2 zero64 h.mb b
  rw [look_none h1] at l1
  rw [look_none (swp_ne h2)] at l2
  have c2 := h.x.c 2 _ rfl
  have c3 := h.x.c 3 _ rfl
  obtain ⟨st, st2, W1, W2, W3, W4, h5, hty, hmt, hmb, hown, hB4⟩ := five (a := a) (b := b) h.drew h1 h2
  have n1 := h.n1; have n2 := h.n2; have n3 := h.n3; have n4 := h.n4; have n5 := h.n5; have n6 := h.n6; have k0 := h.h0; have k1 := h.h1; have k2 := h.h2
  have hBB : Below B w W4 := ((Below.refl B w).drew).trans hB4
  clear h h1 h2 hB4
  go_enter Try.func31, Try.ntmps31
  go_wp2
  refine wp_region_ser (S := Chain 12 14 15 17 w.drew W1 W2 W3 W4) rfl (by kernel_rfl) (by unfold Chain; rfl) ?_
  clear c2 c3 l1 l2
  iterate 12 (first | ((refine Ser.step (a1 := ?_) rfl (fun L w1 K' Q' hS hi hR hd hK => ?_) ?_ ?_; rotate_left); (· ((skip); go_simp; (try simp only [Act.put, List.setIfInBounds_toArray, List.set_cons_zero, List.set_cons_succ]); exact hK.out _ (hS.keep rfl rfl rfl rfl))); (· rfl)) | ((refine Ser.step (a1 := ?_) rfl (fun L w1 K' Q' hS hi hR hd hK => ?_) ?_ ?_; rotate_left); (· ((have q2 := hS.any (X := fun w => w.cell? ⟨pb, 2, none⟩ = _) (h5.x0.c 2 _ rfl) (h5.x1.c 2 _ rfl) (h5.x2.c 2 _ rfl) (h5.x3.c 2 _ rfl) (h5.x4.c 2 _ rfl); have q3 := hS.any (X := fun w => w.cell? ⟨pb, 3, none⟩ = _) (h5.x0.c 3 _ rfl) (h5.x1.c 3 _ rfl) (h5.x2.c 3 _ rfl) (h5.x3.c 3 _ rfl) (h5.x4.c 3 _ rfl)); go_simp; (try simp only [Act.put, List.setIfInBounds_toArray, List.set_cons_zero, List.set_cons_succ]); exact hK.out _ (hS.keep rfl rfl rfl rfl))); (· rfl)))
  (refine Ser.step (a1 := ?_) rfl (fun L w1 K' Q' hS hi hR hd hK => ?_) ?_ ?_; rotate_left)
  · have e0 := hS.s0 hi (hR.out 14 12 (by kernel_rfl) hi) (hR.out 15 12 (by kernel_rfl) hi) (hR.out 17 12 (by kernel_rfl) hi)
    subst e0
    have r1 := h5.r1
    go_simp
    (try simp only [Act.put, List.setIfInBounds_toArray, List.set_cons_zero, List.set_cons_succ])
    exact hK.out _ (Chain.t1 rfl rfl rfl (hR.out 14 12 (by kernel_rfl) hi) (hR.out 15 12 (by kernel_rfl) hi) (hR.out 17 12 (by kernel_rfl) hi))
  · rfl
  ((refine Ser.step (a1 := ?_) rfl (fun L w1 K' Q' hS hi hR hd hK => ?_) ?_ ?_; rotate_left); (· ((skip); go_simp; (try simp only [Act.put, List.setIfInBounds_toArray, List.set_cons_zero, List.set_cons_succ]); exact hK.out _ (hS.keep rfl rfl rfl rfl))); (· rfl))
  (refine Ser.step (a1 := ?_) rfl (fun L w1 K' Q' hS hi hR hd hK => ?_) ?_ ?_; rotate_left)
  · have e0 := hS.s1 (hd.out 12 (by kernel_rfl)) hi (hR.out 15 14 (by kernel_rfl) hi) (hR.out 17 14 (by kernel_rfl) hi)
    subst e0
    have r1 := h5.r2
    go_simp
    (try simp only [Act.put, List.setIfInBounds_toArray, List.set_cons_zero, List.set_cons_succ])
    exact hK.out _ (Chain.t2 rfl rfl (hR.out 15 14 (by kernel_rfl) hi) (hR.out 17 14 (by kernel_rfl) hi))
  · rfl
  (refine Ser.step (a1 := ?_) rfl (fun L w1 K' Q' hS hi hR hd hK => ?_) ?_ ?_; rotate_left)
  · have e0 := hS.s2 (hd.out 14 (by kernel_rfl)) hi (hR.out 17 15 (by kernel_rfl) hi)
    subst e0
    have r1 := h5.r3
    go_simp
    (try simp only [Act.put, List.setIfInBounds_toArray, List.set_cons_zero, List.set_cons_succ])
    exact hK.out _ (Chain.t3 rfl (hR.out 17 15 (by kernel_rfl) hi))
  · rfl
  ((refine Ser.step (a1 := ?_) rfl (fun L w1 K' Q' hS hi hR hd hK => ?_) ?_ ?_; rotate_left); (· ((skip); go_simp; (try simp only [Act.put, List.setIfInBounds_toArray, List.set_cons_zero, List.set_cons_succ]); exact hK.out _ (hS.keep rfl rfl rfl rfl))); (· rfl))
  (refine Ser.step (a1 := ?_) rfl (fun L w1 K' Q' hS hi hR hd hK => ?_) ?_ ?_; rotate_left)
  · have e0 := hS.s3 (hd.out 15 (by kernel_rfl)) hi
    subst e0
    have r1 := h5.r4
    go_simp
    (try simp only [Act.put, List.setIfInBounds_toArray, List.set_cons_zero, List.set_cons_succ])
    exact hK.out _ Chain.t4
  · rfl
  refine Ser.nil fun w4 hS => ?_
  obtain rfl := chain_all (by decide) hS
  clear hS
  have x4 := h5.x4
  have c4 := x4.c 4 _ rfl
  have f4 := x4.f 4 (by simp)
  clear h5
  go_wp2_with (at_builtin; refine wpList_append_own _ rfl _ _ 57 rfl B 60 i0 (.agg #[.int .i64 0, .int .i64 0]) 2 16 Try.underlying57 hi hz0 hz1 hz2 rfl (by decide) _ _ _ rfl (hown.alloc _) ⟨w4.heap.size, 0, none⟩ 1 1 [.int .i64 a, .int .i64 b] rfl rfl ?c1 ?c2 ?c3 ?c4 ?c5 ?_)
  case c1 =>
    intro j u hu
    have hj : j < 2 := by
      by_cases hj : j < 2
      · exact hj
      · rw [List.getElem?_eq_none (by simpa using hj)] at hu; cases hu
    have e : (⟨w4.heap.size, 0, none⟩ : Addr).add j = ⟨w4.heap.size, j, none⟩ := by unfold Addr.add; split <;> simp_all
    rw [e, World.cell?_alloc_mark]
    simpa using hu
  case c2 =>
    intro u hu
    simp only [List.mem_cons, List.not_mem_nil, or_false] at hu
    rcases hu with rfl | rfl <;> rfl
  case c3 => unfold maxLen; omega
  case c4 => omega
  case c5 => simp; have := x4.lt; omega
  intro v' w5 hown5 hg5 _
  have hx5 : Box w5 pb [hv, kv, .map (some bt), .map (some bb), vt] := grown_box (x4.al _) (by have := x4.lt; simp; omega) hg5 (Ne.symm n4)
  have r4 := hx5.c 4 _ rfl
  have f4 := hx5.f 4 (by simp)
  obtain ⟨pu, cu, rfl⟩ := own_slice hown5
  have hP := pair_put n1 n2 n3 k0 k1 k2 x4 hty hmt hmb n4 n5 n6 hown5 hg5
  have hb5 : Below B w w5 := (hBB.alloc (Nat.le_trans k0 (Nat.le_of_lt x4.lt)) _).grown hg5 (by have := x4.lt; simp; omega) (fun k e => (hown.lt k e).1)
  clear hx5
  go_wp2
  go_ret
  exact ⟨rfl, _, hP, hb5.setCell k0 _⟩
end Go.Proofs.Ytndakhnplnamdaa
