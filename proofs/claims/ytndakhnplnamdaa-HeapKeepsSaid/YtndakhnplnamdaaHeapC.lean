/- heap.New, heap.Store; the reference's New. -/
import Derived.Test.YtndakhnplnamdaaHeapB
namespace Go.Proofs.Ytndakhnplnamdaa
open Go.RowKit

section
variable {w w' w2 w3 : World} {B C n m : Nat} {v v' : Value} {ob : Nat → ObjD}
theorem Owns.mono {B' : Nat} {e : TypeId} {s : Nat} {f : Nat → Nat → Value} (h : Owns w B e s v n f) (hB : B' ≤ B) : Owns w B' e s v n f := by
  obtain ⟨h1, h2⟩ := h
  refine ⟨h1, ?_⟩
  rcases h2 with h2 | ⟨g', cap, cur, y1, y2, y3⟩
  · exact .inl h2
  · exact .inr ⟨g', cap, cur, y1, by omega, y3⟩
theorem HeapOwn.mono {B' : Nat} (h : HeapOwn w B v n m ob) (hB : B' ≤ B) : HeapOwn w B' v n m ob := ⟨h.row.mono hB, fun i hi => (h.vals i hi).mono hB, h.apart⟩
theorem HeapOwn.grown {row : Option Nat} (h : HeapOwn w B v n m ob) (hg : w.grownBy w' row) (hr : ∀ k, row = some k → k < B) : HeapOwn w' B v n m ob := by
  have key : ∀ {e s u k f}, Owns w B e s u k f → u.ownBlock = none ∨ u.ownBlock ≠ row := fun {e s u k f} h1 => by
    cases hu : u.ownBlock with
    | none => exact .inl rfl
    | some g =>
      refine .inr fun e1 => ?_
      have := (h1.lt g hu).1
      have := hr g e1.symm
      omega
  exact ⟨h.row.kept hg (key h.row), fun i hi => (h.vals i hi).kept hg (key (h.vals i hi)), h.apart⟩
theorem HeapOwn.setLow (h : HeapOwn w B v n m ob) {p : Nat} (hp : p < B) (i : Nat) (u : Value) : HeapOwn (w.setCell ⟨p, i, none⟩ u) B v n m ob := h.grown (grown_setCell w p i u) (fun k e => by cases e; exact hp)
/-- an object put behind the others -/
def obPush (ob : Nat → ObjD) (n : Nat) (o : ObjD) : Nat → ObjD := fun i => if i = n then o else ob i
theorem obPush_at (ob : Nat → ObjD) (n : Nat) (o : ObjD) : obPush ob n o n = o := if_pos rfl
theorem obPush_ne {ob : Nat → ObjD} {n i : Nat} (h : i ≠ n) (o : ObjD) : obPush ob n o i = ob i := if_neg h
theorem HeapOwn.push (h : HeapOwn w B v n n ob) {o : ObjD} {D : Nat} (hD : ∀ i g, i < n → (slV (ob i)).ownBlock = some g → g < D) (hBD : B ≤ D) (hv : Owns w D 25 2 (slV o) o.l (valC o.vs)) {ox : Obj} (hg : (w.alloc ox).grownBy w3 v.ownBlock)
    (hr : w3.ownsRow B 41 2 v' (n + 1) (rowC 2 n (objC ob) ++ [.string o.c, slV o])) : HeapOwn w3 B v' (n + 1) (n + 1) (obPush ob n o) := by
  have hn : ∀ j, j < n → (slV (ob j)).ownBlock = none ∨ (slV (ob j)).ownBlock ≠ v.ownBlock := fun j hj => by
    cases hu : (slV (ob j)).ownBlock with
    | none => exact .inl rfl
    | some g => exact .inr fun e => (h.vals j hj).unlike h.row (by decide) hu e.symm
  have hn' : (slV o).ownBlock = none ∨ (slV o).ownBlock ≠ v.ownBlock := by
    cases hu : (slV o).ownBlock with
    | none => exact .inl rfl
    | some g => exact .inr fun e => hv.unlike h.row (by decide) hu e.symm
  refine ⟨Owns.push hr (fun i k hi _ => ?_) ?_, fun j hj => ?_, fun a b q ha hb hab e1 e2 => ?_⟩
  · simp only [objC, obPush_ne (by omega : i ≠ n)]
  · simp [List.range_succ, objC, obPush_at, slV]
  · by_cases e : j = n
    · subst e
      rw [obPush_at]
      exact ((hv.alloc ox).kept hg hn').mono hBD
    · rw [obPush_ne e]
      exact ((h.vals j (by omega)).alloc ox).kept hg (hn j (by omega))
  · by_cases ea : a = n
    · subst ea
      rw [obPush_at] at e1
      rw [obPush_ne (Ne.symm hab)] at e2
      have := hD b q (by omega) e2
      have := (hv.lt q e1).1
      omega
    · rw [obPush_ne ea] at e1
      by_cases eb : b = n
      · subst eb
        rw [obPush_at] at e2
        have := hD a q (by omega) e1
        have := (hv.lt q e2).1
        omega
      · rw [obPush_ne eb] at e2
        exact h.apart a b q (by omega) (by omega) hab e1 e2
end

def SameAs (n : Nat) (oq ob : Nat → ObjD) : Prop := ∀ j, j < n → (oq j).c = (ob j).c ∧ (oq j).l = (ob j).l ∧ (oq j).vs = (ob j).vs

def NewPost (w : World) (n : Nat) (ob : Nat → ObjD) (cl : ByteArray) (l : Nat) (vs : Nat → Vl) (e : Ending) (w' : World) : Prop :=
  ∃ v oq, e = .returned (.tuple #[v, .agg #[.string { data := #[114, 101, 102] }, .int .i64 ((n : Int) + 1)]]) ∧ HeapOwn w' w.heap.size v (n + 1) (n + 1) oq ∧ SameAs n oq ob ∧ (oq n).c = cl ∧ (oq n).l = l ∧ (oq n).vs = vs ∧ Below w.heap.size w w'

set_option maxHeartbeats 2000000 in
theorem new_val (ph : Option Addr) (n ch : Nat) (ob : Nat → ObjD) (hn : n ≤ 100) (hl : ∀ i, i < n → (ob i).l ≤ 1000) (cl : ByteArray) (pa : Option Addr) (l ca : Nat) (vs : Nat → Vl) (hla : l ≤ 1000) (w : World) (hO : Objs w ph n ob) (hV : Vals w pa l vs) :
    Calls Try.prog 10 #[.slice ph n ch, .string cl, .slice pa l ca] w (NewPost w n ob cl l vs) := by
  obtain ⟨i0, hi, hz0, hz1, hz2⟩ := info_parts infoO
  have hB0 : Below w.heap.size w (w.alloc (Obj.cells #[.string { data := #[] }, .int .i64 0] 25)) := (Below.refl _ _).alloc (Nat.le_refl _) _
  have HC := copied_val ph n ch ob (by omega) hl _ (hO.below hB0)
  have HV := fun w1 (hb : Below w.heap.size w w1) => cloneV pa l ca vs hla w1 (hV.below hb)
  go_enter Try.func10, Try.ntmps10
  go_wp2_with fail
  refine HC.mono ?_
  rintro e w1 ⟨v, oq, rfl, hH, hS, hb⟩
  obtain ⟨pu, cu, rfl⟩ := hH.row.slice
  have hsz : (w.alloc (Obj.cells #[.string { data := #[] }, .int .i64 0] 25)).heap.size = w.heap.size + 1 := by simp
  have hx := (boxes1 (c1 := [.string { data := #[] }, .int .i64 0]) hb).1
  rw [hsz] at hH
  clear hsz
  have hB1 : Below w.heap.size w w1 := (boxes1 (c1 := [.string { data := #[] }, .int .i64 0]) hb).2
  clear HC hb hB0
  go_wp2_with fail
  refine (HV _ hB1).mono ?_
  rintro e w2 ⟨v2, rfl, hv2, hb2⟩
  obtain ⟨pv, kv, rfl⟩ := hv2.slice
  have hx2 := hx.nx hb2
  have hH2 := hH.next hb2 (Nat.le_refl _)
  have hs1 : w.heap.size + 1 ≤ w1.heap.size := by have := hx.lt; omega
  have hB2 : Below w.heap.size w w2 := hB1.trans (hb2.mono hB1.size)
  clear HV hx hB1
  have hrow : w2.ownsRow (w.heap.size + 1) 41 2 (.slice pu n cu) n (rowC 2 n (objC oq)) := hH2.row
  have hnews : ∀ j u, ([Value.string cl, .slice pv l kv])[j]? = some u → (w2.alloc (Obj.cells #[.string cl, .slice pv l kv] 41)).cell? ((⟨w2.heap.size, 0, none⟩ : Addr).add j) = some u := by
    intro j u hu
    rw [add_at, Nat.zero_add, World.cell?_alloc_mark]
    simpa using hu
  go_wp2_with (at_builtin; refine wpList_append_own _ rfl _ _ 22 rfl (w.heap.size + 1) 41 i0 _ 2 40 Try.underlying22 hi hz0 hz1 hz2 rfl (by decide) _ _ _ rfl (hrow.alloc _) ⟨w2.heap.size, 0, none⟩ 1 1 [.string cl, .slice pv l kv] rfl rfl hnews ?c3 ?c4 ?c5 ?c6 ?_)
  case c3 => intro u hu; simp only [List.mem_cons, List.not_mem_nil, or_false] at hu; rcases hu with rfl | rfl <;> rfl
  case c4 => unfold maxLen; omega
  case c5 => omega
  case c6 => have := hx2.lt; simp; omega
  intro v' w3 hown hg _
  have hx3 : Box w3 w.heap.size [.string { data := #[] }, .int .i64 0] := (hx2.al _).same (hg.block _ (by have := hx2.lt; simp; omega) (fun e => by have := (hH2.row.lt _ e.symm).1; omega))
  have hB3 : Below w.heap.size w w3 := (hB2.alloc hB2.size _).grown hg (by have := hB2.size; simp; omega) (fun k e => by have := (hH2.row.lt _ e).1; omega)
  have hH3 := hH2.push (o := ⟨cl, pv, l, kv, vs⟩) (D := w1.heap.size) (fun i g hi e => ((hH.vals i hi).lt g e).2) hs1 hv2 hg (by simpa [slV] using hown)
  obtain ⟨pu', cu', rfl⟩ := hH3.row.slice
  have r0 := hx3.c 0 _ rfl
  have r1 := hx3.c 1 _ rfl
  have f0 := hx3.f 0 (by simp)
  have f1 := hx3.f 1 (by simp)
  have hHf : HeapOwn ((w3.setCell ⟨w.heap.size, 0, none⟩ (.string { data := #[114, 101, 102] })).setCell ⟨w.heap.size, 1, none⟩ (.int .i64 ((n : Int) + 1))) w.heap.size (.slice pu' (n + 1) cu') (n + 1) (n + 1) (obPush oq n ⟨cl, pv, l, kv, vs⟩) := by
    exact HeapOwn.mono (B := w.heap.size + 1) ((hH3.setLow (Nat.lt_succ_self _) 0 _).setLow (Nat.lt_succ_self _) 1 _) (Nat.le_succ _)
  have hBf : Below w.heap.size w ((w3.setCell ⟨w.heap.size, 0, none⟩ (.string { data := #[114, 101, 102] })).setCell ⟨w.heap.size, 1, none⟩ (.int .i64 ((n : Int) + 1))) := (hB3.setCell (p := ⟨w.heap.size, 0, none⟩) (Nat.le_refl _) _).setCell (p := ⟨w.heap.size, 1, none⟩) (Nat.le_refl _) _
  have hP : NewPost w n ob cl l vs (.returned (.tuple #[.slice pu' (n + 1) cu', .agg #[.string { data := #[114, 101, 102] }, .int .i64 ((n : Int) + 1)]])) ((w3.setCell ⟨w.heap.size, 0, none⟩ (.string { data := #[114, 101, 102] })).setCell ⟨w.heap.size, 1, none⟩ (.int .i64 ((n : Int) + 1))) :=
    ⟨_, _, rfl, hHf, fun j hj => by rw [obPush_ne (by omega)]; exact hS j hj, by rw [obPush_at], by rw [obPush_at], by rw [obPush_at], hBf⟩
  clear hrow hHf hBf hH3 hB3 hx3 hH2 hH hS hx2 hB2 hb2 hv2 hnews hO hV hl hown hg
  go_wp2
  ((try simp only [Exit.inBlock, Exit.then]); refine bodyPost_ret_by (v := (.tuple #[.slice pu' (n + 1) cu', .agg #[.string { data := #[114, 101, 102] }, .int .i64 ((n : Int) + 1)]])) ((results_tmp_cell rfl _ _ _).trans (by go_simp; try rfl)) rfl ?_)
  exact hP
end Go.Proofs.Ytndakhnplnamdaa
