/- Blocks of a struct's cells, of a row: what they hold, behind calls that make memory, behind stores. -/
import Derived.Test.YtjohjpjpfglkkaaDoorSerF
import Derived.WalkKit
import Derived.Below
namespace Go.Proofs.YtjohjpjpfglkkaaDoor
open Go Go.RowKit

theorem bthen' {w w1 w2 : World} (h1 : Below w.heap.size w w1) (h2 : Below w1.heap.size w1 w2) : Below w.heap.size w w2 := h1.trans (h2.mono h1.size)
structure Box (w : World) (p : Nat) (cs : List Value) : Prop where
  c : ∀ i v, cs[i]? = some v → w.cell? ⟨p, i, none⟩ = some v
  f : ∀ i, i < cs.length → w.frozen? ⟨p, i, none⟩ = false
theorem Box.alloc (w : World) (cs : List Value) (t : TypeId) : Box (w.alloc (Obj.cells cs.toArray t)) w.heap.size cs :=
  { c := fun i v h => by rw [World.cell?_alloc_mark]; simpa using h
    f := fun i h => by rw [World.frozen?_alloc_mark]; rfl }
theorem Box.below {w w1 : World} {p B : Nat} {cs : List Value} (h : Box w p cs) (hp : p < B) (hb : Below B w w1) : Box w1 p cs :=
  { c := fun i v hv => by rw [hb.cell hp]; exact h.c i v hv
    f := fun i hi => by rw [hb.frozen hp]; exact h.f i hi }
theorem Box.drew {w : World} {p : Nat} {cs : List Value} (h : Box w p cs) : Box w.drew p cs := { c := fun i v hv => h.c i v hv, f := fun i hi => h.f i hi }
theorem Box.lt {w : World} {p : Nat} {v : Value} {cs : List Value} (h : Box w p (v :: cs)) : p < w.heap.size := World.block_lt_of_cell? w _ (h.c 0 v rfl)
theorem Box.set {w : World} {p : Nat} {cs : List Value} (h : Box w p cs) {i : Nat} (hi : i < cs.length) (v : Value) : Box (w.setCell ⟨p, i, none⟩ v) p (cs.set i v) :=
  { c := fun j u hu => by
      by_cases e : j = i
      · subst e
        have : u = v := by simpa [hi] using hu.symm
        subst this
        exact World.cell?_setCell_same _ _ _ (h.c j cs[j] (by simp [hi]))
      · have e' : i ≠ j := fun h => e h.symm
        rw [World.cell?_setCell_other _ _ _ _ (by intro he; exact e' (congrArg Addr.off he))]
        exact h.c j u (by simpa [List.getElem?_set_ne e'] using hu)
    f := fun j hj => by
      rw [World.frozen?_setCell]
      exact h.f j (by simpa using hj) }
theorem Box.set3 {w : World} {p : Nat} {a b c : Value} (h : Box w p [a, b, c]) (x y z : Value) : Box (((w.setCell ⟨p, 0, none⟩ x).setCell ⟨p, 1, none⟩ y).setCell ⟨p, 2, none⟩ z) p [x, y, z] :=
  ((h.set (i := 0) (by simp) x).set (i := 1) (by simp) y).set (i := 2) (by simp) z
theorem Box.al {w : World} {p : Nat} {v : Value} {cs : List Value} (h : Box w p (v :: cs)) (o : Obj) : Box (w.alloc o) p (v :: cs) := h.below h.lt ((Below.refl _ _).alloc (Nat.le_refl _) o)
theorem Box.nx {w w1 : World} {p : Nat} {v : Value} {cs : List Value} (h : Box w p (v :: cs)) (hb : Below w.heap.size w w1) : Box w1 p (v :: cs) := h.below h.lt hb
theorem Box.far {w : World} {p : Nat} {cs : List Value} (h : Box w p cs) {q : Addr} (hq : q.block ≠ p) (v : Value) : Box (w.setCell q v) p cs :=
  { c := fun j u hu => by
      rw [World.cell?_setCell_other _ _ _ _ (by intro he; exact hq (congrArg Addr.block he))]
      exact h.c j u hu
    f := fun j hj => by rw [World.frozen?_setCell]; exact h.f j hj }

theorem Box.same {w w' : World} {p : Nat} {cs : List Value} (h : Box w p cs) (he : w'.heap[p]? = w.heap[p]?) : Box w' p cs :=
  { c := fun i v hv => by rw [World.cell?_of_block (w := w) (w' := w') (a := ⟨p, i, none⟩) he]; exact h.c i v hv
    f := fun i hi => by rw [World.frozen?_of_block (w := w) (w' := w') (a := ⟨p, i, none⟩) he]; exact h.f i hi }
theorem grown_setCell (w : World) (p : Nat) (i : Nat) (v : Value) : w.grownBy (w.setCell ⟨p, i, none⟩ v) (some p) :=
  ⟨rfl, rfl, rfl, by simp [World.setCell], fun k _ hne => Below.heap_setCell _ _ _ _ (fun e => hne (by rw [e]))⟩
def Typ (w : World) (p : Nat) (t : TypeId) : Prop := ∃ cur m, w.heap[p]? = some (.cells cur t m)
theorem Typ.lt {w : World} {p : Nat} {t : TypeId} (h : Typ w p t) : p < w.heap.size := by
  obtain ⟨_, _, h⟩ := h
  exact (Array.getElem?_eq_some_iff.1 h).1
theorem Typ.grown {w w' : World} {p : Nat} {t : TypeId} {row : Option Nat} (h : Typ w p t) (hg : w.grownBy w' row) (hn : some p ≠ row) : Typ w' p t := by
  have hl := h.lt
  obtain ⟨cur, m, h⟩ := h
  exact ⟨cur, m, (hg.block p hl hn).trans h⟩
theorem Typ.set {w : World} {p : Nat} {t : TypeId} (h : Typ w p t) (i : Nat) (v : Value) : Typ (w.setCell ⟨p, i, none⟩ v) p t := by
  obtain ⟨cur, m, h⟩ := h
  exact ⟨cur.setIfInBounds i v, m, by unfold World.setCell; simp only [Array.getElem?_modify, if_true, h, Option.map_some]; rfl⟩

theorem boxes1 {w w1 : World} {c1 : List Value} {t1 : TypeId} (h : Below (w.alloc (Obj.cells c1.toArray t1)).heap.size (w.alloc (Obj.cells c1.toArray t1)) w1) :
    Box w1 w.heap.size c1 ∧ Below w.heap.size w w1 := by
  have h1 := (Below.refl w.heap.size w).alloc (Nat.le_refl _) (Obj.cells c1.toArray t1)
  exact ⟨(Box.alloc w c1 t1).below (by simp) h, bthen' h1 h⟩
theorem boxes2 {w w1 : World} {c1 c2 : List Value} {t1 t2 : TypeId} (h : Below ((w.alloc (Obj.cells c1.toArray t1)).alloc (Obj.cells c2.toArray t2)).heap.size ((w.alloc (Obj.cells c1.toArray t1)).alloc (Obj.cells c2.toArray t2)) w1) :
    Box w1 w.heap.size c1 ∧ Box w1 (w.heap.size + 1) c2 ∧ Below w.heap.size w w1 := by
  have s1 : (w.alloc (Obj.cells c1.toArray t1)).heap.size = w.heap.size + 1 := by simp
  obtain ⟨b2, h2⟩ := boxes1 h
  obtain ⟨b1, h1⟩ := boxes1 h2
  rw [s1] at b2
  exact ⟨b1, b2, h1⟩
theorem boxes3 {w w1 : World} {c1 c2 c3 : List Value} {t1 t2 t3 : TypeId} (h : Below (((w.alloc (Obj.cells c1.toArray t1)).alloc (Obj.cells c2.toArray t2)).alloc (Obj.cells c3.toArray t3)).heap.size (((w.alloc (Obj.cells c1.toArray t1)).alloc (Obj.cells c2.toArray t2)).alloc (Obj.cells c3.toArray t3)) w1) :
    Box w1 w.heap.size c1 ∧ Box w1 (w.heap.size + 1) c2 ∧ Box w1 (w.heap.size + 1 + 1) c3 ∧ Below w.heap.size w w1 := by
  have s1 : ((w.alloc (Obj.cells c1.toArray t1)).alloc (Obj.cells c2.toArray t2)).heap.size = w.heap.size + 1 + 1 := by simp
  obtain ⟨b3, h3⟩ := boxes1 h
  obtain ⟨b1, b2, h2⟩ := boxes2 h3
  rw [s1] at b3
  exact ⟨b1, b2, b3, h2⟩

/-- a region that lays a call's results into a new box: number na makes the box, number ns fills it -/
def SBox (w0 : World) (na ns : Nat) (zs cs : List Value) (V : Nat → Value) (L : Nat → Bool) (w1 : World) : Prop :=
  Below w0.heap.size w0 w1 ∧ (L ns = true → L na = true) ∧
    (L na = true → ∃ p, V na = .pointer (some ⟨p, 0, none⟩) ∧ w0.heap.size ≤ p ∧ p < w1.heap.size ∧ Box w1 p (if L ns = true then cs else zs))
theorem upd_ne {L : Nat → Bool} {i k : Nat} (h : (k == i) = false) : upd L i k = L k := by simp [upd, h]
theorem upd_self {L : Nat → Bool} {i : Nat} : upd L i i = true := by simp [upd]
theorem SBox.start {w0 w1 : World} {na ns : Nat} {zs cs : List Value} {V : Nat → Value} (h : Below w0.heap.size w0 w1) : SBox w0 na ns zs cs V (fun _ => false) w1 :=
  ⟨h, (fun e => Bool.noConfusion e), (fun e => Bool.noConfusion e)⟩
theorem SBox.keep {w0 w1 : World} {na ns : Nat} {zs cs : List Value} {V : Nat → Value} {L : Nat → Bool} (h : SBox w0 na ns zs cs V L w1) {i : Nat} (h1 : (na == i) = false) (h2 : (ns == i) = false) : SBox w0 na ns zs cs V (upd L i) w1 := by
  unfold SBox
  rw [upd_ne h1, upd_ne h2]
  exact h
theorem SBox.call {w0 w1 w2 : World} {na ns : Nat} {zs cs : List Value} {V : Nat → Value} {L : Nat → Bool} (h : SBox w0 na ns zs cs V L w1) (hb : Below w1.heap.size w1 w2) {i : Nat} (h1 : (na == i) = false) (h2 : (ns == i) = false) : SBox w0 na ns zs cs V (upd L i) w2 := by
  refine SBox.keep ⟨h.1.trans (hb.mono h.1.size), h.2.1, fun hl => ?_⟩ h1 h2
  obtain ⟨p, e, h3, h4, h5⟩ := h.2.2 hl
  exact ⟨p, e, h3, Nat.lt_of_lt_of_le h4 hb.size, h5.below h4 hb⟩
theorem SBox.made {w0 w1 : World} {na ns : Nat} {zs cs : List Value} {V : Nat → Value} {L : Nat → Bool} (h : SBox w0 na ns zs cs V L w1) (hns : (ns == na) = false) (hl : L na = false) (t : TypeId) :
    SBox w0 na ns zs cs (setV V na (.pointer (some ⟨w1.heap.size, 0, none⟩))) (upd L na) (w1.alloc (Obj.cells zs.toArray t)) := by
  have hno : L ns = false := by
    cases hn : L ns with
    | false => rfl
    | true => have := h.2.1 hn; rw [hl] at this; cases this
  refine ⟨h.1.alloc h.1.size _, fun _ => upd_self, fun _ => ⟨w1.heap.size, setV_self _ _ _, h.1.size, by simp, ?_⟩⟩
  rw [upd_ne hns, hno]
  exact Box.alloc w1 zs t
theorem SBox.at {w0 w1 : World} {na ns : Nat} {zs cs : List Value} {V : Nat → Value} {L : Nat → Bool} (h : SBox w0 na ns zs cs V L w1) (hl : L na = true) (hn : L ns = false) :
    ∃ p, V na = .pointer (some ⟨p, 0, none⟩) ∧ w0.heap.size ≤ p ∧ p < w1.heap.size ∧ Box w1 p zs := by
  obtain ⟨p, e, h3, h4, h5⟩ := h.2.2 hl
  rw [hn] at h5
  exact ⟨p, e, h3, h4, h5⟩
theorem SBox.done {w0 w1 : World} {na ns : Nat} {zs cs : List Value} {V : Nat → Value} {L : Nat → Bool} (h : SBox w0 na ns zs cs V L w1) (hl : L na = true) (hn : L ns = true) :
    ∃ p, V na = .pointer (some ⟨p, 0, none⟩) ∧ w0.heap.size ≤ p ∧ p < w1.heap.size ∧ Box w1 p cs := by
  obtain ⟨p, e, h3, h4, h5⟩ := h.2.2 hl
  rw [hn] at h5
  exact ⟨p, e, h3, h4, h5⟩
/-- filled -/
theorem SBox.fill {w0 w1 w2 : World} {na ns : Nat} {zs cs : List Value} {V : Nat → Value} {L : Nat → Bool} (_ : SBox w0 na ns zs cs V L w1) (hl : L na = true) {p : Nat} (hp : V na = .pointer (some ⟨p, 0, none⟩)) (hp0 : w0.heap.size ≤ p) (hp1 : p < w2.heap.size) (hB : Below w0.heap.size w0 w2) (hx : Box w2 p cs) (hns : (na == ns) = false) :
    SBox w0 na ns zs cs V (upd L ns) w2 := by
  refine ⟨hB, fun _ => by rw [upd_ne hns]; exact hl, fun _ => ⟨p, hp, hp0, hp1, ?_⟩⟩
  rw [upd_self]
  exact hx
/-- a region whose one store comes behind all else: what holds ahead of the store, number st, and behind it -/
def SStore (st : Nat) (I J : World → Prop) (L : Nat → Bool) (w : World) : Prop := (L st = false → I w) ∧ (L st = true → J w)
theorem SStore.start {st : Nat} {I J : World → Prop} {w : World} (h : I w) : SStore st I J (fun _ => false) w := ⟨fun _ => h, fun e => Bool.noConfusion e⟩
theorem SStore.keep {st : Nat} {I J : World → Prop} {L : Nat → Bool} {i : Nat} {w : World} (hl : L st = false) (h : I w) (hne : (st == i) = false) : SStore st I J (upd L i) w := by
  have e : upd L i st = false := by rw [upd_ne hne]; exact hl
  exact ⟨fun _ => h, fun e' => by rw [e] at e'; cases e'⟩
theorem SStore.done {st : Nat} {I J : World → Prop} {L : Nat → Bool} {w : World} (h : J w) : SStore st I J (upd L st) w := ⟨(fun e => by rw [upd_self] at e; cases e), fun _ => h⟩
theorem SStore.pass {st : Nat} {I J : World → Prop} {L : Nat → Bool} {i : Nat} {w : World} (h : SStore st I J L w) (hne : (st == i) = false) : SStore st I J (upd L i) w := by
  unfold SStore
  rw [upd_ne hne]
  exact h
theorem SStore.behind {st : Nat} {I J : World → Prop} {L : Nat → Bool} {i : Nat} {w : World} (h : SStore st I J L w) (hl : L st = true) (hne : (st == i) = false) : SStore st I J (upd L i) w := by
  have e : upd L i st = true := by rw [upd_ne hne]; exact hl
  exact ⟨(fun e' => by rw [e] at e'; cases e'), fun _ => h.2 hl⟩
end Go.Proofs.YtjohjpjpfglkkaaDoor
