/- Parameters opened: a struct's cells; a slice's elements. -/
import Derived.Deep.Slices
import Derived.Deep.Fields
import Derived.Lib.SmallJoins
import Derived.WideShapes
namespace Go.Proofs.YtjohjpjpfglkkaaDoor
open Go Go.ChangeShapes Go.WideShapes Go.Deep

section
variable {H : Type} {enc : TypeId × Value → H} {P : Program} {w : World} {base : Nat} {spare : Nat → Bool} {held : Bool}
/-- each cell of a struct whose fields have one cell each reads as its field's type says -/
theorem trod_cell {t : TypeId} {fs : Array Field} {fuel : Nat} {cs : List Value} {x : DataW H × List MemPlace} (hs : P.underlying t = some (.struct fs)) (hone : oneCellFields P fs = true) (hC : P.cellsOf t = fs.size)
    (h : DataW.trod enc P w base spare held fuel t cs = some x) :
    cs.length = fs.size ∧ ∀ (j : Nat) (f : Field), fs[j]? = some f → ∃ (v : Value) (y : DataW H × List MemPlace) (n : Nat), cs[j]? = some v ∧ DataW.trod enc P w base spare held n f.type [v] = some y := by
  obtain ⟨xs, n, _, _, hlen, hxl, hg⟩ := DataW.trod_struct hs h
  have hl : cs.length = fs.size := hlen.trans hC
  refine ⟨hl, fun j f hj => ?_⟩
  have hjl : j < fs.size := (Array.getElem?_eq_some_iff.1 hj).1
  obtain ⟨ho, hk⟩ := hone_of hone j f hj
  have hg := hg j f hj
  have hcut : (cs.drop j).take 1 = [cs[j]'(by omega)] := by
    rw [List.drop_eq_getElem_cons (by omega)]
    rfl
  rw [ho, hk, hcut, List.getElem?_eq_getElem (by omega)] at hg
  exact ⟨cs[j]'(by omega), _, n, List.getElem?_eq_getElem (by omega), hg⟩

/-- the same of a struct by value -/
theorem agg_cell {r : Reach} {b0 : Nat} {t : TypeId} {fs : Array Field} {v : Value} {d : DataW H} {p : List MemPlace} (hs : P.underlying t = some (.struct fs)) (hone : oneCellFields P fs = true) (hC : P.cellsOf t = fs.size) (hv : Value.okWide P w r b0 t v)
    (h : DataW.Trod enc P w base spare held t v d p) : ∃ cs : List Value, v = .agg cs.toArray ∧ cs.length = fs.size ∧ ∀ (j : Nat) (f : Field), fs[j]? = some f → ∃ (v : Value) (y : DataW H × List MemPlace) (n : Nat), cs[j]? = some v ∧ DataW.trod enc P w base spare held n f.type [v] = some y := by
  obtain ⟨cs, rfl, hsz⟩ := okWide_struct hs hv
  obtain ⟨fuel, hf⟩ := h
  exact ⟨cs.toList, by simp, trod_cell hs hone hC (by simpa [Value.cells] using hf)⟩

/-- a slice's value -/
theorem slice_val {t e : TypeId} {fuel : Nat} {v : Value} {x : DataW H × List MemPlace} (ht : P.underlying t = some (.slice e)) (h : DataW.trod enc P w base spare held fuel t [v] = some x) : ∃ pa l cap, v = .slice pa l cap ∧ l ≤ cap ∧ cap ≤ maxLen := by
  rcases open_slice ht h with ⟨hc, _⟩ | ⟨a, len, cap, m, n, D, Pl, hc, _, hl, hm, _⟩
  · exact ⟨none, 0, 0, by simpa using hc, Nat.le_refl _, Nat.zero_le _⟩
  · exact ⟨some a, len, cap, by simpa using hc, hl, hm⟩

/-- a slice of structs whose fields have one cell each -/
theorem slice_cells {t e : TypeId} {fs : Array Field} {fuel : Nat} {v : Value} {x : DataW H × List MemPlace} (ht : P.underlying t = some (.slice e)) (he : P.underlying e = some (.struct fs)) (hone : oneCellFields P fs = true) (hC : P.cellsOf e = fs.size)
    (h : DataW.trod enc P w base spare held fuel t [v] = some x) :
    ∃ pa l cap, v = .slice pa l cap ∧ l ≤ cap ∧ cap ≤ maxLen ∧ (pa = none → l = 0) ∧ ∀ a, pa = some a → base ≤ a.block ∧ ∀ i, i < l → ∀ (j : Nat) (f : Field), fs[j]? = some f → ∃ (v : Value) (y : DataW H × List MemPlace) (n : Nat), w.cell? (a.add (i * fs.size + j)) = some v ∧ DataW.trod enc P w base spare held n f.type [v] = some y := by
  rcases open_slice ht h with ⟨hc, _⟩ | ⟨a, len, cap, m, n, D, Pl, hc, hb, hl, hm, hmm, hx, hi⟩
  · refine ⟨none, 0, 0, by simpa using hc, Nat.le_refl _, Nat.zero_le _, fun _ => rfl, fun a e => by cases e⟩
  · refine ⟨some a, len, cap, by simpa using hc, hl, hm, (fun e => by cases e), fun a' e => ?_⟩
    obtain rfl : a = a' := by simpa using e
    refine ⟨hb, fun i hil j f hj => ?_⟩
    obtain ⟨cs', hcs, htr⟩ := hi i (by rw [hmm]; split <;> omega)
    obtain ⟨hlen, hf⟩ := trod_cell he hone hC htr
    obtain ⟨v, y, n', hv, hy⟩ := hf j f hj
    obtain ⟨_, hcl, hat⟩ := World.cells?_some hcs
    have hjl : j < fs.size := (Array.getElem?_eq_some_iff.1 hj).1
    have hcell := hat j (by omega)
    rw [hC] at hcell
    refine ⟨v, y, n', ?_, hy⟩
    rw [← Go.Deep.add_add, hcell, hv]
end
end Go.Proofs.YtjohjpjpfglkkaaDoor
