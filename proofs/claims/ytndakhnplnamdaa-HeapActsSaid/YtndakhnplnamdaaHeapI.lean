/- A heap that is laid object by object, each value by value. -/
import Derived.Test.YtndakhnplnamdaaHeapH
namespace Go.Proofs.Ytndakhnplnamdaa
open Go.RowKit

/-- an object that is being laid in block px: k of its values -/
structure InSt (w wr : World) (D px : Nat) (c : ByteArray) (v sv : Value) (q : Nat) (oq : Nat → ObjD) (k : Nat) (vs : Nat → Vl) : Prop where
  x : Box wr px [.string c, sv]
  o : Owns wr D 25 2 sv k (valC vs)
  ty : Typ wr px 41
  h : HeapRow wr w.heap.size v q oq
  low : ∀ i, i < q → 0 < (oq i).l → ∃ a, (oq i).p = some a ∧ a.block < D
  vlow : ∀ g, v.ownBlock = some g → g < D
  d : D ≤ px
  bd : w.heap.size ≤ D
  b : Below w.heap.size w wr
section
variable {w wr w2 : World} {D px q k : Nat} {c : ByteArray} {v sv sv' : Value} {oq : Nat → ObjD} {vs : Nat → Vl}
theorem below_grown {w w' : World} {row : Option Nat} {B : Nat} {w0 : World} (h : Below B w0 w) (hg : w.grownBy w' row) (hB : B ≤ w.heap.size) (hr : ∀ g, row = some g → B ≤ g) : Below B w0 w' := h.grown hg hB hr
/-- the start: the object's block is made -/
theorem InSt.start (h : HeapRow wr w.heap.size v q oq) (hb : Below w.heap.size w wr) (c : ByteArray) (vs : Nat → Vl) :
    InSt w (wr.alloc (Obj.cells #[.string c, .slice none 0 0] 41)) wr.heap.size wr.heap.size c v (.slice none 0 0) q oq 0 vs where
  x := Box.alloc wr [.string c, .slice none 0 0] _
  o := Owns.nil
  ty := ⟨_, _, heap_alloc_new wr _⟩
  h := h.next ((Below.refl _ _).alloc (Nat.le_refl _) _) (Nat.le_refl _)
  low := fun i hi h0 => by
    obtain ⟨D, o, e, hB, _⟩ := (h.vals i hi).at' h0
    exact ⟨_, e, hB⟩
  vlow := fun g e => (h.row.lt g e).2
  d := Nat.le_refl _
  bd := hb.size
  b := hb.alloc hb.size _
theorem InSt.next (h : InSt w wr D px c v sv q oq k vs) (hb : Below wr.heap.size wr w2) : InSt w w2 D px c v sv q oq k vs :=
  { h with
    x := h.x.nx hb
    o := h.o.next hb (Nat.le_refl _)
    ty := h.ty.grown (grown_below hb (Nat.le_refl _)) (by simp)
    h := h.h.next hb (Nat.le_refl _)
    b := h.b.trans (hb.mono h.b.size) }
theorem InSt.px_ne (h : InSt w wr D px c v sv q oq k vs) : sv.ownBlock ≠ some px := h.ty.notRowC (by decide) h.o
/-- one value more -/
theorem InSt.push1 (h : InSt w wr D px c v sv q oq k vs) {o2 : Obj} {s : ByteArray} {x : Int} (hg : (wr.alloc o2).grownBy w2 sv.ownBlock) (hr : w2.ownsRow D 25 2 sv' (k + 1) (rowC 2 k (valC vs) ++ [.string s, .int .i64 x])) (hx : vs k = (s, x)) :
    InSt w (w2.setCell ⟨px, 1, none⟩ sv') D px c v sv' q oq (k + 1) vs := by
  have h2 : InSt w (wr.alloc o2) D px c v sv q oq k vs := h.next ((Below.refl _ _).alloc (Nat.le_refl _) _)
  have hne := h.px_ne
  have hs := grown_setCell w2 px 1 sv'
  have ho : Owns w2 D 25 2 sv' (k + 1) (valC vs) := Owns.push hr (fun _ _ _ _ => rfl) (by simp [List.range_succ, valC, hx])
  have hx2 : Box w2 px [.string c, sv] := h2.x.same (hg.block px h2.x.lt (Ne.symm hne))
  have ht2 : Typ w2 px 41 := h2.ty.grown hg (Ne.symm hne)
  have hrow : ∀ g, sv.ownBlock = some g → D ≤ g := fun g e => (h.o.lt g e).1
  have hh2 : HeapRow w2 w.heap.size v q oq := h2.h.grown hg (by
    cases e : v.ownBlock with
    | none => exact .inl rfl
    | some g => exact .inr fun e2 => by have := h.vlow g e; have := hrow g e2.symm; omega) fun i hi h0 => by
    obtain ⟨a, e, hl⟩ := h.low i hi h0
    exact ⟨a, e, fun e2 => by have := hrow _ e2.symm; omega⟩
  have hb2 : Below w.heap.size w w2 := h2.b.grown hg h2.b.size fun g e => by have := hrow g e; have := h.bd; omega
  exact
  { x := hx2.set (i := 1) (by simp) sv'
    o := ho.kept hs (.inr (ht2.notRowC (by decide) ho))
    ty := ht2.set 1 sv'
    h := hh2.grown hs (by
      cases e : v.ownBlock with
      | none => exact .inl rfl
      | some g => exact .inr fun e2 => by have := h.vlow g e; have := h.d; cases e2; omega) fun i hi h0 => by
      obtain ⟨a, e, hl⟩ := h.low i hi h0
      exact ⟨a, e, fun e2 => by have := h.d; simp at e2; omega⟩
    low := h.low
    vlow := h.vlow
    d := h.d
    bd := h.bd
    b := hb2.setCell (by have := h.d; have := h.bd; dsimp only; omega) _ }
theorem InSt.push (h : InSt w wr D px c v sv q oq k vs) {o1 o2 : Obj} {s : ByteArray} {x : Int} (hg : ((wr.alloc o1).alloc o2).grownBy w2 sv.ownBlock) (hr : w2.ownsRow D 25 2 sv' (k + 1) (rowC 2 k (valC vs) ++ [.string s, .int .i64 x])) (hx : vs k = (s, x)) :
    InSt w (w2.setCell ⟨px, 1, none⟩ sv') D px c v sv' q oq (k + 1) vs := (h.next ((Below.refl _ _).alloc (Nat.le_refl _) o1)).push1 hg hr hx
/-- the object is done: 'append(out, x)' -/
theorem InSt.done {pv : Option Addr} {kv : Nat} {v' : Value} (h : InSt w wr D px c v (.slice pv k kv) q oq k vs) {ox : Obj} (hk : k ≤ 9223372036854775807) (hr : ∀ i, i < k → -9223372036854775808 ≤ (vs i).2 ∧ (vs i).2 ≤ 9223372036854775807)
    (hg : (wr.alloc ox).grownBy w2 v.ownBlock) (hown : w2.ownsRow w.heap.size 41 2 v' (q + 1) (rowC 2 q (objC oq) ++ [.string c, .slice pv k kv])) :
    HeapRow w2 w.heap.size v' (q + 1) (obPush oq q ⟨c, pv, k, kv, vs⟩) ∧ Below w.heap.size w w2 := by
  refine ⟨h.h.push (o := ⟨c, pv, k, kv, vs⟩) (h.o.vals hk hr) (fun h0 => ?_) hg hown, (h.b.alloc h.b.size _).grown hg (by have := h.b.size; simp; omega) fun g e => (h.h.row.lt g e).1⟩
  obtain ⟨g, cu, e, _⟩ := h.o.at h0
  simp only [Value.slice.injEq] at e
  refine ⟨_, e.1, .inr ?_⟩
  exact h.o.typ (by rw [e.1]; rfl)
theorem val_news (w2 : World) (s : ByteArray) (x : Int) : ∀ j u, ([Value.string s, .int .i64 x])[j]? = some u → (w2.alloc (Obj.cells #[.string s, .int .i64 x] 25)).cell? ((⟨w2.heap.size, 0, none⟩ : Addr).add j) = some u := by
  intro j u hu
  rw [add_at, Nat.zero_add, World.cell?_alloc_mark]
  simpa using hu
theorem val_one (s : ByteArray) (x : Int) : ∀ u ∈ [Value.string s, .int .i64 x], u.oneCell' = true := by
  intro u hu
  simp only [List.mem_cons, List.not_mem_nil, or_false] at hu
  rcases hu with rfl | rfl <;> rfl
end
end Go.Proofs.Ytndakhnplnamdaa
