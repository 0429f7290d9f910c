/- A heap that is laid object by object; the reference's New. -/
import Derived.Test.YtndakhnplnamdaaHeapF
namespace Go.Proofs.Ytndakhnplnamdaa
open Go.RowKit

/-- where values may lie: ahead of the call's own memory, or in rows of values -/
def VFar (w : World) (B : Nat) (p : Option Addr) (l : Nat) : Prop := 0 < l → ∃ a, p = some a ∧ (a.block < B ∨ Typ w a.block 25)
structure HeapRow (w : World) (B : Nat) (v : Value) (n : Nat) (ob : Nat → ObjD) : Prop where
  row : Owns w B 41 2 v n (objC ob)
  vals : ∀ i, i < n → Vals w (ob i).p (ob i).l (ob i).vs
  far : ∀ i, i < n → VFar w B (ob i).p (ob i).l
section
variable {w w' w3 : World} {B n : Nat} {v v' : Value} {ob : Nat → ObjD}
theorem Vals.grown {pa : Option Addr} {l : Nat} {vs : Nat → Vl} {row : Option Nat} (h : Vals w pa l vs) (hg : w.grownBy w' row) (hn : 0 < l → ∃ a, pa = some a ∧ some a.block ≠ row) : Vals w' pa l vs :=
  { at' := fun hl => by
      obtain ⟨D, o, e, hB, hc⟩ := h.at' hl
      obtain ⟨a, ea, hne⟩ := hn hl
      rw [e] at ea
      have ea : a = ⟨D, o, none⟩ := by simpa using ea.symm
      subst ea
      have hk := hg.block D hB hne
      exact ⟨D, o, e, Nat.lt_of_lt_of_le hB hg.size, fun i hi => by
        rw [World.cell?_of_block (w := w) (a := ⟨D, o + i * 2, none⟩) hk, World.cell?_of_block (w := w) (a := ⟨D, o + i * 2 + 1, none⟩) hk]
        exact hc i hi⟩
    r := h.r
    m := h.m }
theorem VFar.grown {p : Option Addr} {l : Nat} {row : Option Nat} (h : VFar w B p l) (hg : w.grownBy w' row) (hn : 0 < l → ∃ a, p = some a ∧ some a.block ≠ row) : VFar w' B p l := fun hl => by
  obtain ⟨a, e, h1⟩ := h hl
  obtain ⟨a', e', h2⟩ := hn hl
  rw [e] at e'
  obtain rfl : a = a' := by simpa using e'
  refine ⟨a, e, ?_⟩
  rcases h1 with h1 | h1
  · exact .inl h1
  · exact .inr (h1.grown hg h2)
theorem VFar.ne {p : Option Addr} {l : Nat} (h : VFar w B p l) {u : Value} {k : Nat} {f : Nat → Nat → Value} (hr : Owns w B 41 2 u k f) : 0 < l → ∃ a, p = some a ∧ some a.block ≠ u.ownBlock := fun hl => by
  obtain ⟨a, e, h1⟩ := h hl
  refine ⟨a, e, fun e2 => ?_⟩
  rcases h1 with h1 | h1
  · have := (hr.lt _ e2.symm).1
    omega
  · exact h1.notRowC (by decide) hr e2.symm
theorem HeapRow.objs (h : HeapRow w B v n ob) {pu : Option Addr} {cu : Nat} (hv : v = .slice pu n cu) (hn : n ≤ 9223372036854775807) : Objs w pu n ob :=
  { at' := fun h0 => by
      obtain ⟨g, cu', e, hg, hlt, hcu, hc, hf⟩ := h.row.at h0
      rw [hv] at e
      simp only [Value.slice.injEq] at e
      obtain ⟨rfl, -⟩ := e
      exact ⟨g, 0, rfl, hlt, fun i hi => ⟨by rw [Nat.zero_add]; exact hc i 0 hi (by decide), by rw [Nat.zero_add]; exact hc i 1 hi (by decide)⟩⟩
    v := h.vals
    m := hn }
theorem HeapRow.grown {row : Option Nat} (h : HeapRow w B v n ob) (hg : w.grownBy w' row) (h1 : v.ownBlock = none ∨ v.ownBlock ≠ row) (h2 : ∀ i, i < n → 0 < (ob i).l → ∃ a, (ob i).p = some a ∧ some a.block ≠ row) : HeapRow w' B v n ob :=
  ⟨h.row.kept hg h1, fun i hi => (h.vals i hi).grown hg (h2 i hi), fun i hi => (h.far i hi).grown hg (h2 i hi)⟩
theorem VFar.at {p : Option Addr} {l : Nat} (h : VFar w B p l) : 0 < l → ∃ a, p = some a ∧ some a.block ≠ (none : Option Nat) := fun hl => by
  obtain ⟨a, e, _⟩ := h hl
  exact ⟨a, e, by simp⟩
theorem HeapRow.next {C : Nat} (h : HeapRow w B v n ob) (hb : Below C w w') (hC : w.heap.size ≤ C) : HeapRow w' B v n ob :=
  h.grown (grown_below hb hC) (by cases v.ownBlock <;> simp) fun i hi => (h.far i hi).at
theorem HeapRow.mono {B' : Nat} (h : HeapRow w B v n ob) (hB : B' ≤ B) (hf : ∀ i, i < n → VFar w B' (ob i).p (ob i).l) : HeapRow w B' v n ob := ⟨h.row.mono hB, h.vals, hf⟩
/-- one object more: 'append(out, o)' -/
theorem HeapRow.push (h : HeapRow w B v n ob) {o : ObjD} (hv : Vals w o.p o.l o.vs) (hf : VFar w B o.p o.l) {ox : Obj} (hg : (w.alloc ox).grownBy w3 v.ownBlock) (hr : w3.ownsRow B 41 2 v' (n + 1) (rowC 2 n (objC ob) ++ [.string o.c, slV o])) :
    HeapRow w3 B v' (n + 1) (obPush ob n o) := by
  have ga := World.grownBy_alloc w ox none
  have key : ∀ {p l}, VFar w B p l → (0 < l → ∃ a, p = some a ∧ some a.block ≠ (none : Option Nat)) ∧ (0 < l → ∃ a, p = some a ∧ some a.block ≠ v.ownBlock) := fun hf => ⟨hf.at, hf.ne h.row⟩
  refine ⟨Owns.push hr (fun i k hi _ => ?_) ?_, fun j hj => ?_, fun j hj => ?_⟩
  · simp only [objC, obPush_ne (by omega : i ≠ n)]
  · simp [List.range_succ, objC, obPush_at, slV]
  · by_cases e : j = n
    · subst e
      rw [obPush_at]
      exact (hv.grown ga (key hf).1).grown hg (key hf).2
    · rw [obPush_ne e]
      have hfj := h.far j (by omega)
      exact ((h.vals j (by omega)).grown ga (key hfj).1).grown hg (key hfj).2
  · by_cases e : j = n
    · subst e
      rw [obPush_at]
      exact (hf.grown ga (key hf).1).grown hg (key hf).2
    · rw [obPush_ne e]
      have hfj := h.far j (by omega)
      exact (hfj.grown ga (key hfj).1).grown hg (key hfj).2
theorem HeapRow.setLow (h : HeapRow w B v n ob) {p : Nat} (hp : ∀ g, v.ownBlock = some g → g ≠ p) (hq : ∀ i, i < n → 0 < (ob i).l → ∃ a, (ob i).p = some a ∧ a.block ≠ p) (i : Nat) (u : Value) : HeapRow (w.setCell ⟨p, i, none⟩ u) B v n ob :=
  h.grown (grown_setCell w p i u) (by
    cases hv : v.ownBlock with
    | none => exact .inl rfl
    | some g => exact .inr (by simpa using hp g hv)) fun j hj hl => by
    obtain ⟨a, e, h1⟩ := hq j hj hl
    exact ⟨a, e, by simpa using h1⟩
end
end Go.Proofs.Ytndakhnplnamdaa
