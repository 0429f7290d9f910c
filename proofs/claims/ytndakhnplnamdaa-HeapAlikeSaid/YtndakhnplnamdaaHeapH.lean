/- The reference's New. -/
import Derived.Test.YtndakhnplnamdaaHeapG
namespace Go.Proofs.Ytndakhnplnamdaa
open Go.RowKit

def RNewPost (w : World) (n : Nat) (ob : Nat → ObjD) (cl : ByteArray) (l : Nat) (vs : Nat → Vl) (e : Ending) (w' : World) : Prop :=
  ∃ v oq, e = .returned (.tuple #[v, .agg #[.string { data := #[114, 101, 102] }, .int .i64 ((n : Int) + 1)]]) ∧ HeapRow w' w.heap.size v (n + 1) oq ∧ SameAs n oq ob ∧ (oq n).c = cl ∧ (oq n).l = l ∧ (oq n).vs = vs ∧ Below w.heap.size w w'
theorem VFar.ofVals {w : World} {pa : Option Addr} {l : Nat} {vs : Nat → Vl} (h : Vals w pa l vs) (w1 : World) : VFar w1 w.heap.size pa l := fun hl => by
  obtain ⟨D, o, e, hB, _⟩ := h.at' hl
  exact ⟨_, e, .inl hB⟩
theorem VFar.up {w : World} {B B' : Nat} {p : Option Addr} {l : Nat} (h : VFar w B p l) (hB : B ≤ B') : VFar w B' p l := fun hl => by
  obtain ⟨a, e, h1⟩ := h hl
  exact ⟨a, e, h1.imp (fun h => by omega) id⟩
theorem HeapRow.ofObjs {w w1 : World} {ph : Option Addr} {n B : Nat} {ob : Nat → ObjD} {v : Value} (hO : Objs w ph n ob) (hb : Below w.heap.size w w1) (hB : w.heap.size ≤ B) (hr : Owns w1 B 41 2 v n (objC ob)) : HeapRow w1 B v n ob :=
  ⟨hr, fun i hi => (hO.v i hi).below hb, fun i hi => (VFar.ofVals (hO.v i hi) w1).up hB⟩
theorem rnew_news (w2 : World) (cl : ByteArray) (pv : Option Addr) (l kv : Nat) : ∀ j u, ([Value.string cl, .slice pv l kv])[j]? = some u → (w2.alloc (Obj.cells #[.string cl, .slice pv l kv] 41)).cell? ((⟨w2.heap.size, 0, none⟩ : Addr).add j) = some u := by
  intro j u hu
  rw [add_at, Nat.zero_add, World.cell?_alloc_mark]
  simpa using hu
theorem rnew_one (cl : ByteArray) (pv : Option Addr) (l kv : Nat) : ∀ u ∈ [Value.string cl, .slice pv l kv], u.oneCell' = true := by
  intro u hu
  simp only [List.mem_cons, List.not_mem_nil, or_false] at hu
  rcases hu with rfl | rfl <;> rfl
theorem VFar.toBelow {w w' : World} {B : Nat} {p : Option Addr} {l : Nat} (h : VFar w B p l) (hl : ∀ a, p = some a → 0 < l → a.block < B) : VFar w' B p l := fun h0 => by
  obtain ⟨a, e, _⟩ := h h0
  exact ⟨a, e, .inl (hl a e h0)⟩

set_option maxHeartbeats 2000000 in
theorem rnew_nil (n : Nat) (ob : Nat → ObjD) (h0 : n = 0) (hn : n ≤ 100) (cl : ByteArray) (pa : Option Addr) (l ca : Nat) (vs : Nat → Vl) (_ : l ≤ 1000) (w : World) (hO : Objs w none n ob) (hV : Vals w pa l vs) :
    Calls Try.prog 11 #[.slice none n 0, .string cl, .slice pa l ca] w (RNewPost w n ob cl l vs) := by
  obtain ⟨i0, hi, hz0, hz1, hz2⟩ := info_parts infoO
  have hB0 : Below w.heap.size w (w.alloc (Obj.cells #[.string { data := #[] }, .int .i64 0] 25)) := (Below.refl _ _).alloc (Nat.le_refl _) _
  have hx0 : Box (w.alloc (Obj.cells #[.string { data := #[] }, .int .i64 0] 25)) w.heap.size [.string { data := #[] }, .int .i64 0] := Box.alloc w _ _
  have hs0 : (w.alloc (Obj.cells #[.string { data := #[] }, .int .i64 0] 25)).heap.size = w.heap.size + 1 := by simp
  subst h0
  have hown1 : Owns (w.alloc (Obj.cells #[.string { data := #[] }, .int .i64 0] 25)) (w.heap.size + 1) 41 2 (.slice none 0 0) 0 (objC ob) := Owns.nil
  have hB1 := hB0
  have hx1 := hx0
  have hnw := rnew_news (w.alloc (Obj.cells #[.string { data := #[] }, .int .i64 0] 25)) cl pa l ca
  rw [hs0] at hnw
  go_enter Try.func11, Try.ntmps11
  have hH1 := HeapRow.ofObjs hO hB1 (Nat.le_succ _) hown1
  have hrow : (w.alloc (Obj.cells #[.string { data := #[] }, .int .i64 0] 25)).ownsRow (w.heap.size + 1) 41 2 (.slice none 0 0) 0 (rowC 2 0 (objC ob)) := hown1
  go_wp2_with (at_builtin; refine wpList_append_own _ rfl _ _ 22 rfl (w.heap.size + 1) 41 i0 _ 2 40 Try.underlying22 hi hz0 hz1 hz2 rfl (by decide) _ _ _ rfl (hrow.alloc _) ⟨w.heap.size + 1, 0, none⟩ 1 1 [.string cl, .slice pa l ca] rfl rfl hnw (rnew_one cl pa l ca) ?d4 ?d5 ?d6 ?_)
  case d4 => unfold maxLen; omega
  case d5 => omega
  case d6 => first | (simp; done) | (have := hx1.lt; simp at this ⊢; omega)
  intro v2 w2 hown2 hg2 _
  have hV1 := hV.below hB1
  have hH2 := hH1.push (o := ⟨cl, pa, l, ca, vs⟩) hV1 ((VFar.ofVals hV (w.alloc (Obj.cells #[.string { data := #[] }, .int .i64 0] 25))).up (Nat.le_succ _)) hg2 hown2
  have hx2 : Box w2 w.heap.size [.string { data := #[] }, .int .i64 0] := (hx1.al _).same (hg2.block _ (by have := hx1.lt; simp; omega) (fun e => by have := (hH1.row.lt _ e.symm).1; omega))
  have hB2 : Below w.heap.size w w2 := (hB1.alloc hB1.size _).grown hg2 (by have := hB1.size; simp; omega) (fun k e => by have := (hH1.row.lt _ e).1; omega)
  obtain ⟨pu', cu', rfl⟩ := hH2.row.slice
  have r0 := hx2.c 0 _ rfl
  have r1 := hx2.c 1 _ rfl
  have f0 := hx2.f 0 (by simp)
  have f1 := hx2.f 1 (by simp)
  have hfar : ∀ i, i < 0 + 1 → ∀ a, (obPush ob 0 ⟨cl, pa, l, ca, vs⟩ i).p = some a → 0 < (obPush ob 0 ⟨cl, pa, l, ca, vs⟩ i).l → a.block < w.heap.size := by
    intro i hi a e h0
    by_cases ei : i = 0
    · subst ei
      rw [obPush_at] at e h0
      obtain ⟨D, o, e2, hB, _⟩ := hV.at' h0
      dsimp only at e
      rw [e2] at e
      obtain rfl : (⟨D, o, none⟩ : Addr) = a := by simpa using e
      exact hB
    · rw [obPush_ne ei] at e h0
      obtain ⟨D, o, e2, hB, _⟩ := (hO.v i (by omega)).at' h0
      rw [e2] at e
      obtain rfl : (⟨D, o, none⟩ : Addr) = a := by simpa using e
      exact hB
  have hrow2 := hH2.row
  have hk2 : HeapRow w2 w.heap.size (.slice pu' (0 + 1) cu') (0 + 1) (obPush ob 0 ⟨cl, pa, l, ca, vs⟩) := hH2.mono (Nat.le_succ _) fun i hi h0 => by
    obtain ⟨a, e, _⟩ := hH2.far i hi h0
    exact ⟨a, e, .inl (hfar i hi a e h0)⟩
  have hset : ∀ w3 j u, HeapRow w3 w.heap.size (.slice pu' (0 + 1) cu') (0 + 1) (obPush ob 0 ⟨cl, pa, l, ca, vs⟩) → HeapRow (w3.setCell ⟨w.heap.size, j, none⟩ u) w.heap.size (.slice pu' (0 + 1) cu') (0 + 1) (obPush ob 0 ⟨cl, pa, l, ca, vs⟩) := fun w3 j u h =>
    h.setLow (fun g e => by have := (hrow2.lt g e).1; omega) (fun i hi h0 => by
      obtain ⟨a, e, _⟩ := h.far i hi h0
      exact ⟨a, e, by have := hfar i hi a e h0; omega⟩) j u
  have hHf := hset _ 1 (.int .i64 1) (hset _ 0 (.string { data := #[114, 101, 102] }) hk2)
  have hBf : Below w.heap.size w ((w2.setCell ⟨w.heap.size, 0, none⟩ (.string { data := #[114, 101, 102] })).setCell ⟨w.heap.size, 1, none⟩ (.int .i64 1)) := (hB2.setCell (p := ⟨w.heap.size, 0, none⟩) (Nat.le_refl _) _).setCell (p := ⟨w.heap.size, 1, none⟩) (Nat.le_refl _) _
  have hP : RNewPost w 0 ob cl l vs (.returned (.tuple #[.slice pu' (0 + 1) cu', .agg #[.string { data := #[114, 101, 102] }, .int .i64 1]])) ((w2.setCell ⟨w.heap.size, 0, none⟩ (.string { data := #[114, 101, 102] })).setCell ⟨w.heap.size, 1, none⟩ (.int .i64 1)) :=
    ⟨_, _, rfl, hHf, fun j hj => by rw [obPush_ne (by omega)]; exact ⟨rfl, rfl, rfl⟩, by rw [obPush_at], by rw [obPush_at], by rw [obPush_at], hBf⟩
  clear hHf hBf hset hk2 hrow2 hfar hx2 hB2 hH2 hV1 hown2 hg2 hH1 hrow hown1 hx1 hB1 hO hV
  go_wp2
  ((try simp only [Exit.inBlock, Exit.then]); refine bodyPost_ret_by (v := (.tuple #[.slice pu' (0 + 1) cu', .agg #[.string { data := #[114, 101, 102] }, .int .i64 1]])) ((results_tmp_cell rfl _ _ _).trans (by go_simp; try rfl)) rfl ?_)
  exact hP
set_option maxHeartbeats 2000000 in
theorem rnew_some (a : Addr) (n ch : Nat) (ob : Nat → ObjD) (hn : n ≤ 100) (cl : ByteArray) (pa : Option Addr) (l ca : Nat) (vs : Nat → Vl) (_ : l ≤ 1000) (w : World) (hO : Objs w (some a) n ob) (hV : Vals w pa l vs) :
    Calls Try.prog 11 #[.slice (some a) n ch, .string cl, .slice pa l ca] w (RNewPost w n ob cl l vs) := by
  obtain ⟨i0, hi, hz0, hz1, hz2⟩ := info_parts infoO
  have hB0 : Below w.heap.size w (w.alloc (Obj.cells #[.string { data := #[] }, .int .i64 0] 25)) := (Below.refl _ _).alloc (Nat.le_refl _) _
  have hx0 : Box (w.alloc (Obj.cells #[.string { data := #[] }, .int .i64 0] 25)) w.heap.size [.string { data := #[] }, .int .i64 0] := Box.alloc w _ _
  have hs0 : (w.alloc (Obj.cells #[.string { data := #[] }, .int .i64 0] 25)).heap.size = w.heap.size + 1 := by simp
  have hnews : ∀ j u, (rowC 2 n (objC ob))[j]? = some u → (w.alloc (Obj.cells #[.string { data := #[] }, .int .i64 0] 25)).cell? (a.add j) = some u := fun j u hu => by
    have hc := hO.news j u hu
    rw [World.cell?_alloc_lt _ _ _ (World.block_lt_of_cell? w _ hc)]
    exact hc
  go_enter Try.func11, Try.ntmps11
  go_wp2_with (at_builtin; refine wpList_append_own _ rfl _ _ 22 rfl (w.heap.size + 1) 41 i0 _ 2 40 Try.underlying22 hi hz0 hz1 hz2 rfl (by decide) _ _ _ rfl (World.ownsRow_nil _ _ _ _) a n ch (rowC 2 n (objC ob)) rfl ?c1 hnews ?c3 ?c4 ?c5 ?c6 ?_)
  case c1 => exact rowC_len _ _ _
  case c3 => exact rowC_one fun i k _ _ => objC_one ob i k
  case c4 => unfold maxLen; omega
  case c5 => omega
  case c6 => simp
  intro v1 w1 hown1 hg1 _
  have hx1 : Box w1 w.heap.size [.string { data := #[] }, .int .i64 0] := hx0.same (hg1.block _ (by simp) (by simp [Value.ownBlock]))
  have hB1 : Below w.heap.size w w1 := hB0.grown hg1 (by simp) (fun k e => by cases e)
  have hH1 := HeapRow.ofObjs hO hB1 (Nat.le_succ _) hown1
  obtain ⟨pu, cu, rfl⟩ := Owns.slice hown1
  have hrow : w1.ownsRow (w.heap.size + 1) 41 2 (.slice pu n cu) n (rowC 2 n (objC ob)) := hown1
  go_wp2_with (at_builtin; refine wpList_append_own _ rfl _ _ 22 rfl (w.heap.size + 1) 41 i0 _ 2 40 Try.underlying22 hi hz0 hz1 hz2 rfl (by decide) _ _ _ rfl (hrow.alloc _) ⟨w1.heap.size, 0, none⟩ 1 1 [.string cl, .slice pa l ca] rfl rfl (rnew_news w1 cl pa l ca) (rnew_one cl pa l ca) ?d4 ?d5 ?d6 ?_)
  case d4 => unfold maxLen; omega
  case d5 => omega
  case d6 => first | (simp; done) | (have := hx1.lt; simp at this ⊢; omega)
  intro v2 w2 hown2 hg2 _
  have hV1 := hV.below hB1
  have hH2 := hH1.push (o := ⟨cl, pa, l, ca, vs⟩) hV1 ((VFar.ofVals hV w1).up (Nat.le_succ _)) hg2 hown2
  have hx2 : Box w2 w.heap.size [.string { data := #[] }, .int .i64 0] := (hx1.al _).same (hg2.block _ (by have := hx1.lt; simp; omega) (fun e => by have := (hH1.row.lt _ e.symm).1; omega))
  have hB2 : Below w.heap.size w w2 := (hB1.alloc hB1.size _).grown hg2 (by have := hB1.size; simp; omega) (fun k e => by have := (hH1.row.lt _ e).1; omega)
  obtain ⟨pu', cu', rfl⟩ := hH2.row.slice
  have r0 := hx2.c 0 _ rfl
  have r1 := hx2.c 1 _ rfl
  have f0 := hx2.f 0 (by simp)
  have f1 := hx2.f 1 (by simp)
  have hfar : ∀ i, i < n + 1 → ∀ a, (obPush ob n ⟨cl, pa, l, ca, vs⟩ i).p = some a → 0 < (obPush ob n ⟨cl, pa, l, ca, vs⟩ i).l → a.block < w.heap.size := by
    intro i hi a e h0
    by_cases ei : i = n
    · subst ei
      rw [obPush_at] at e h0
      obtain ⟨D, o, e2, hB, _⟩ := hV.at' h0
      dsimp only at e
      rw [e2] at e
      obtain rfl : (⟨D, o, none⟩ : Addr) = a := by simpa using e
      exact hB
    · rw [obPush_ne ei] at e h0
      obtain ⟨D, o, e2, hB, _⟩ := (hO.v i (by omega)).at' h0
      rw [e2] at e
      obtain rfl : (⟨D, o, none⟩ : Addr) = a := by simpa using e
      exact hB
  have hrow2 := hH2.row
  have hk2 : HeapRow w2 w.heap.size (.slice pu' (n + 1) cu') (n + 1) (obPush ob n ⟨cl, pa, l, ca, vs⟩) := hH2.mono (Nat.le_succ _) fun i hi h0 => by
    obtain ⟨a, e, _⟩ := hH2.far i hi h0
    exact ⟨a, e, .inl (hfar i hi a e h0)⟩
  have hset : ∀ w3 j u, HeapRow w3 w.heap.size (.slice pu' (n + 1) cu') (n + 1) (obPush ob n ⟨cl, pa, l, ca, vs⟩) → HeapRow (w3.setCell ⟨w.heap.size, j, none⟩ u) w.heap.size (.slice pu' (n + 1) cu') (n + 1) (obPush ob n ⟨cl, pa, l, ca, vs⟩) := fun w3 j u h =>
    h.setLow (fun g e => by have := (hrow2.lt g e).1; omega) (fun i hi h0 => by
      obtain ⟨a, e, _⟩ := h.far i hi h0
      exact ⟨a, e, by have := hfar i hi a e h0; omega⟩) j u
  have hHf := hset _ 1 (.int .i64 ((n : Int) + 1)) (hset _ 0 (.string { data := #[114, 101, 102] }) hk2)
  have hBf : Below w.heap.size w ((w2.setCell ⟨w.heap.size, 0, none⟩ (.string { data := #[114, 101, 102] })).setCell ⟨w.heap.size, 1, none⟩ (.int .i64 ((n : Int) + 1))) := (hB2.setCell (p := ⟨w.heap.size, 0, none⟩) (Nat.le_refl _) _).setCell (p := ⟨w.heap.size, 1, none⟩) (Nat.le_refl _) _
  have hP : RNewPost w n ob cl l vs (.returned (.tuple #[.slice pu' (n + 1) cu', .agg #[.string { data := #[114, 101, 102] }, .int .i64 ((n : Int) + 1)]])) ((w2.setCell ⟨w.heap.size, 0, none⟩ (.string { data := #[114, 101, 102] })).setCell ⟨w.heap.size, 1, none⟩ (.int .i64 ((n : Int) + 1))) :=
    ⟨_, _, rfl, hHf, fun j hj => by rw [obPush_ne (by omega)]; exact ⟨rfl, rfl, rfl⟩, by rw [obPush_at], by rw [obPush_at], by rw [obPush_at], hBf⟩
  clear hHf hBf hset hk2 hrow2 hfar hx2 hB2 hH2 hV1 hown2 hg2 hH1 hrow hown1 hx1 hB1 hO hV
  go_wp2
  ((try simp only [Exit.inBlock, Exit.then]); refine bodyPost_ret_by (v := (.tuple #[.slice pu' (n + 1) cu', .agg #[.string { data := #[114, 101, 102] }, .int .i64 ((n : Int) + 1)]])) ((results_tmp_cell rfl _ _ _).trans (by go_simp; try rfl)) rfl ?_)
  exact hP
end Go.Proofs.Ytndakhnplnamdaa
