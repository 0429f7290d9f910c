/- A map from strings to bools of the call's own, as a list of those that it holds. -/
import Derived.MapKept
import Derived.WideKeyEntry
import Derived.ChangeMaps4
import Derived.Below
import Derived.WalkKit
namespace Go.Proofs.YtjohjpjpfglkkaaDoor
open Go Go.MapKept Go.ChangeMaps Go.RowKit

def isIn (T : List ByteArray) (s : ByteArray) : Bool := T.any fun y => decide (y = s)
theorem isIn_t {T : List ByteArray} {s : ByteArray} (h : s ∈ T) : isIn T s = true := by
  unfold isIn
  exact List.any_eq_true.2 ⟨s, h, by simp⟩
theorem isIn_f {T : List ByteArray} {s : ByteArray} (h : s ∉ T) : isIn T s = false := by
  unfold isIn
  rw [Bool.eq_false_iff]
  intro e
  obtain ⟨y, hy, e⟩ := List.any_eq_true.1 e
  have : y = s := by simpa using e
  subst this
  exact h hy
/-- block b holds a map in which these stand, each with true -/
def SetIs (w : World) (b : Nat) (T : List ByteArray) : Prop :=
  ∃ es clock, w.heap[b]? = some (.map es clock) ∧ Stamped es clock ∧ es.toList.map (fun e => (e.key, e.val)) = T.map (fun s => (Value.string s, Value.bool true))
section
variable {P : Program} {w : World} {t kt et : TypeId} {b : Nat} {T : List ByteArray}
theorem SetIs.keys {es : Array MapEntry} (h : es.toList.map (fun e => (e.key, e.val)) = T.map (fun s => (Value.string s, Value.bool true))) : ∀ x ∈ es.toList, ∃ y ∈ T, x.key = .string y ∧ x.val = .bool true := by
  intro x hx
  have : (x.key, x.val) ∈ T.map (fun s => (Value.string s, Value.bool true)) := h ▸ List.mem_map.2 ⟨x, hx, rfl⟩
  obtain ⟨y, hy, e⟩ := List.mem_map.1 this
  simp only [Prod.mk.injEq] at e
  exact ⟨y, hy, e.1.symm, e.2.symm⟩
theorem SetIs.mem {es : Array MapEntry} (h : es.toList.map (fun e => (e.key, e.val)) = T.map (fun s => (Value.string s, Value.bool true))) {s : ByteArray} (hs : s ∈ T) : ∃ x ∈ es.toList, x.key = .string s := by
  have : (Value.string s, Value.bool true) ∈ es.toList.map (fun e => (e.key, e.val)) := h ▸ List.mem_map.2 ⟨s, hs, rfl⟩
  obtain ⟨x, hx, ex⟩ := List.mem_map.1 this
  simp only [Prod.mk.injEq] at ex
  exact ⟨x, hx, ex.1⟩
/-- 'm[s]' -/
theorem run_isin (hm : P.underlying t = some (.map kt et)) (hk : P.underlying kt = some .string) (hz : ∀ u : World, (zeroValue et).run P u = .ok (.bool false) u) (h : SetIs w b T) (s : ByteArray) :
    (Instr.lookup t (.map (some b)) (.string s) false).run P w = .ok (.bool (isIn T s)) w := by
  obtain ⟨es, clock, hb, hs, he⟩ := h
  have hkey : ∀ x ∈ es.toList, IsKey .string x.key := fun x hx => by
    obtain ⟨y, _, e, _⟩ := SetIs.keys he x hx
    rw [e]; trivial
  have hk0 : IsKey .string (.string s) := trivial
  rcases findNow_spec hk0 es.toList 0 hkey with ⟨h1, h2⟩ | ⟨j, e, h1, h2, h3⟩
  · have hl : isIn T s = false := isIn_f fun hs => by
      obtain ⟨x, hx, ex⟩ := SetIs.mem he hs
      exact h2 x hx ex
    rw [hl]
    simp [Instr.lookup, run_underlying hm, MapKept.run_getObj_map hb, MapKept.run_checkKey hk hk0, MapKept.run_findKey hk h1, hz, Result.andThen]
  · obtain ⟨y, hy, e1, e2⟩ := SetIs.keys he e (List.mem_of_getElem? h2)
    rw [h3] at e1
    have : y = s := by simpa using e1.symm
    subst this
    rw [isIn_t hy]
    simp [Instr.lookup, run_underlying hm, MapKept.run_getObj_map hb, MapKept.run_checkKey hk hk0, MapKept.run_findKey hk h1, e2, Result.andThen]
theorem setBl_grown (w : World) (b : Nat) (o : Obj) : w.grownBy (setBlock w b o) (some b) :=
  ⟨rfl, rfl, rfl, by simp [setBlock], fun k _ hne => by
    have : b ≠ k := fun e => hne (by rw [e])
    simp [setBlock, this]⟩
theorem setBl_at {w : World} {b : Nat} {o o' : Obj} (h : w.heap[b]? = some o) : (setBlock w b o').heap[b]? = some o' := (MapKept.heap_set h).1
theorem SetIs.lt (h : SetIs w b T) : b < w.heap.size := by
  obtain ⟨es, clock, hb, _⟩ := h
  exact (Array.getElem?_eq_some_iff.1 hb).1
theorem SetIs.nx {w' : World} (h : SetIs w b T) (hb : Below w.heap.size w w') : SetIs w' b T := by
  have hl := h.lt
  obtain ⟨es, clock, hc, hs, hm⟩ := h
  exact ⟨es, clock, (hb.block b hl).trans hc, hs, hm⟩
/-- 'm[s] = true', where s is not there yet -/
theorem run_putin (hm : P.underlying t = some (.map kt et)) (hk : P.underlying kt = some .string) (h : SetIs w b T) {s : ByteArray} (hno : s ∉ T) :
    ∃ o, (Instr.mapUpdate t (.map (some b)) (.string s) (.bool true)).run P w = .ok () (setBlock w b o) ∧ SetIs (setBlock w b o) b (T ++ [s]) := by
  obtain ⟨es, clock, hb, hs, he⟩ := h
  have hkey : ∀ x ∈ es.toList, IsKey .string x.key := fun x hx => by
    obtain ⟨y, _, e, _⟩ := SetIs.keys he x hx
    rw [e]; trivial
  have hk0 : IsKey .string (.string s) := trivial
  rcases findNow_spec hk0 es.toList 0 hkey with ⟨h1, h2⟩ | ⟨j, e, h1, h2, h3⟩
  · refine ⟨.map (es.push ⟨.string s, .bool true, clock⟩) (clock + 1), ?_, _, _, setBl_at hb, stamped_push hs h2, ?_⟩
    · simp [Instr.mapUpdate, run_underlying hm, MapKept.run_getObj_map hb, MapKept.run_checkKey hk hk0, MapKept.run_findKey hk h1, MapKept.run_setObj_map _ hb, Result.andThen, setBlock]
    · simp [he]
  · exfalso
    obtain ⟨y, hy, e1, e2⟩ := SetIs.keys he e (List.mem_of_getElem? h2)
    rw [h3] at e1
    have : y = s := by simpa using e1.symm
    subst this
    exact hno hy
theorem SetIs.made {w : World} {clock : Nat} : SetIs (w.alloc (.map #[] clock)) w.heap.size [] := ⟨#[], clock, (MapKept.heap_alloc w _).1, stamped_empty clock, rfl⟩
theorem Below.put {B : Nat} {a w : World} (h : Below B a w) (hb : B ≤ b) (hl : B ≤ w.heap.size) (o : Obj) : Below B a (setBlock w b o) :=
  h.grown (setBl_grown w b o) hl fun g e => by cases e; exact hb
end
end Go.Proofs.YtjohjpjpfglkkaaDoor
