/- A map from int64 to int64 of the call's own, as a list of pairs: looked up; a fresh key put in by its entry. -/
import Derived.MapKept
import Derived.WideKeyEntry
import Derived.ChangeMaps4
import Derived.Below
import Derived.WalkKit
namespace Go.Proofs.Ytndakhnplnamdaa
open Go Go.MapKept Go.ChangeMaps Go.RowKit

def pairV (x : Int × Int) : Value × Value := (.int .i64 x.1, .int .i64 x.2)
/-- block b holds a map with these entries -/
def MapIs (w : World) (b : Nat) (T : List (Int × Int)) : Prop :=
  ∃ es clock, w.heap[b]? = some (.map es clock) ∧ Stamped es clock ∧ es.toList.map (fun e => (e.key, e.val)) = T.map pairV

def look (T : List (Int × Int)) (a : Int) : Int × Bool := match T.find? (fun x => x.1 == a) with
  | some x => (x.2, true)
  | none => (0, false)

theorem look_none {T : List (Int × Int)} {a : Int} (h : ∀ x ∈ T, x.1 ≠ a) : look T a = (0, false) := by
  unfold look
  rw [List.find?_eq_none.2 (fun x hx => by simpa using h x hx)]
theorem look_at : ∀ {T : List (Int × Int)} {a : Int} {j : Nat} {v : Int}, (T.map (·.1)).Nodup → T[j]? = some (a, v) → look T a = (v, true)
  | [], _, _, _, _, h => by simp at h
  | x :: r, a, 0, v, _, h => by
    have : x = (a, v) := by simpa using h
    subst this
    simp [look]
  | x :: r, a, j + 1, v, hn, h => by
    simp only [List.map_cons, List.nodup_cons] at hn
    have h' : r[j]? = some (a, v) := by simpa using h
    have hne : x.1 ≠ a := fun e => hn.1 (e ▸ List.mem_map.2 ⟨(a, v), List.mem_of_getElem? h', rfl⟩)
    have ih := look_at hn.2 h'
    unfold look at ih ⊢
    rw [List.find?_cons_of_neg (by simpa using hne)]
    exact ih

section
variable {P : Program} {w : World} {t kt et : TypeId} {b : Nat} {T : List (Int × Int)}

theorem MapIs.keys {es : Array MapEntry} (h : es.toList.map (fun e => (e.key, e.val)) = T.map pairV) : ∀ x ∈ es.toList, ∃ y ∈ T, x.key = .int .i64 y.1 ∧ x.val = .int .i64 y.2 := by
  intro x hx
  have : (x.key, x.val) ∈ T.map pairV := h ▸ List.mem_map.2 ⟨x, hx, rfl⟩
  obtain ⟨y, hy, e⟩ := List.mem_map.1 this
  simp only [pairV, Prod.mk.injEq] at e
  exact ⟨y, hy, e.1.symm, e.2.symm⟩
theorem MapIs.nodup {es : Array MapEntry} {clock : Nat} (hs : Stamped es clock) (h : es.toList.map (fun e => (e.key, e.val)) = T.map pairV) : (T.map (·.1)).Nodup := by
  have h1 : es.toList.map (·.key) = T.map (fun x => Value.int .i64 x.1) := by
    have := congrArg (List.map Prod.fst) h
    simpa [List.map_map, Function.comp_def, pairV] using this
  have h2 := hs.2.2
  rw [h1] at h2
  have h3 : ((T.map (·.1)).map (fun a => Value.int .i64 a)).Nodup := by simpa [List.map_map, Function.comp_def] using h2
  exact List.Pairwise.of_map (fun a => Value.int .i64 a) (fun a b h e => h (by rw [e])) h3

/-- 'v, ok := m[a]' -/
theorem run_look (hm : P.underlying t = some (.map kt et)) (hk : P.underlying kt = some (.int .i64)) (hz : ∀ u : World, (zeroValue et).run P u = .ok (.int .i64 0) u) (h : MapIs w b T) (a : Int) :
    (Instr.lookup t (.map (some b)) (.int .i64 a) true).run P w = .ok (.tuple #[.int .i64 (look T a).1, .bool (look T a).2]) w := by
  obtain ⟨es, clock, hb, hs, he⟩ := h
  have hkey : ∀ x ∈ es.toList, IsKey (.int .i64) x.key := fun x hx => by
    obtain ⟨y, _, e, _⟩ := MapIs.keys he x hx
    rw [e]; rfl
  have hk0 : IsKey (.int .i64) (.int .i64 a) := rfl
  rcases findNow_spec hk0 es.toList 0 hkey with ⟨h1, h2⟩ | ⟨j, e, h1, h2, h3⟩
  · have hl : look T a = (0, false) := look_none fun y hy e => by
      have : pairV y ∈ es.toList.map (fun e => (e.key, e.val)) := he ▸ List.mem_map.2 ⟨y, hy, rfl⟩
      obtain ⟨x, hx, ex⟩ := List.mem_map.1 this
      simp only [pairV, Prod.mk.injEq] at ex
      exact h2 x hx (by rw [ex.1, e])
    rw [hl]
    simp [Instr.lookup, run_underlying hm, MapKept.run_getObj_map hb, MapKept.run_checkKey hk hk0, MapKept.run_findKey hk h1, hz, Result.andThen]
  · have hT : T[j]? = some (a, (look T a).1) ∧ (look T a).2 = true ∧ e.val = .int .i64 (look T a).1 := by
      have : (es.toList.map (fun e => (e.key, e.val)))[j]? = some (e.key, e.val) := by simp [h2]
      rw [he] at this
      obtain ⟨y1, y2, hy, ey⟩ := by simpa using this
      simp only [pairV, Prod.mk.injEq] at ey
      rw [h3] at ey
      have ha : y1 = a := by simpa using ey.1
      subst ha
      have := look_at (MapIs.nodup hs he) hy
      rw [this]
      exact ⟨hy, rfl, ey.2.symm⟩
    rw [hT.2.1]
    simp [Instr.lookup, run_underlying hm, MapKept.run_getObj_map hb, MapKept.run_checkKey hk hk0, MapKept.run_findKey hk h1, hT.2.2, Result.andThen]

theorem setBlock_grown (w : World) (b : Nat) (o : Obj) : w.grownBy (setBlock w b o) (some b) :=
  ⟨rfl, rfl, rfl, by simp [setBlock], fun k _ hne => by
    have : b ≠ k := fun e => hne (by rw [e])
    simp [setBlock, this]⟩
theorem setBlock_at {w : World} {b : Nat} {o o' : Obj} (h : w.heap[b]? = some o) : (setBlock w b o').heap[b]? = some o' := (MapKept.heap_set h).1
theorem MapIs.other {w w' : World} {b : Nat} {T : List (Int × Int)} (h : MapIs w b T) (he : w'.heap[b]? = w.heap[b]?) : MapIs w' b T := by
  obtain ⟨es, clock, hb, hs, hm⟩ := h
  exact ⟨es, clock, he.trans hb, hs, hm⟩

/-- 'm[a] = v' by its entry, where a is not there yet: the entry is made, then filled -/
theorem run_entry (hm : P.underlying t = some (.map kt et)) (hk : P.underlying kt = some (.int .i64)) (hz : ∀ u : World, (zeroValue et).run P u = .ok (.int .i64 0) u) (h : MapIs w b T) {a : Int} (hno : ∀ x ∈ T, x.1 ≠ a) :
    ∃ (st : Nat) (o1 : Obj), (Instr.mapEntry t (.map (some b)) (.int .i64 a)).run P w = .ok (.tuple #[.int .i64 0, goInt st]) (setBlock w b o1) ∧
      ∀ (w2 : World) (v : Int), w2.heap[b]? = some o1 → ∃ o2, (Instr.entryStore t (.map (some b)) (goInt st) (.int .i64 v)).run P w2 = .ok () (setBlock w2 b o2) ∧ MapIs (setBlock w2 b o2) b (T ++ [(a, v)]) := by
  obtain ⟨es, clock, hb, hs, he⟩ := h
  have hkey : ∀ x ∈ es.toList, IsKey (.int .i64) x.key := fun x hx => by
    obtain ⟨y, _, e, _⟩ := MapIs.keys he x hx
    rw [e]; rfl
  have hk0 : IsKey (.int .i64) (.int .i64 a) := rfl
  rcases findNow_spec hk0 es.toList 0 hkey with ⟨h1, h2⟩ | ⟨j, e, h1, h2, h3⟩
  · refine ⟨clock, .map (es.push ⟨.int .i64 a, .int .i64 0, clock⟩) (clock + 1), ?_, fun w2 v hw2 => ⟨.map (es.push ⟨.int .i64 a, .int .i64 v, clock⟩) (clock + 1), ?_, ?_⟩⟩
    · simp [Instr.mapEntry, run_underlying hm, MapKept.run_getObj_map hb, MapKept.run_checkKey hk hk0, MapKept.run_findKey hk h1, hz, MapKept.run_setObj_map _ hb, Result.andThen, setBlock]
    · have hidx : (es.push ⟨.int .i64 a, .int .i64 0, clock⟩).findIdx? (fun e => ((e.born : Nat) : Int) == ((clock : Nat) : Int)) = some es.size := by
        rw [Go.WideElems.findIdx_arr]
        have := Go.WideElems.findIdx_born (l := (es.push ⟨.int .i64 a, .int .i64 0, clock⟩).toList) (j := es.size) (e0 := ⟨.int .i64 a, .int .i64 0, clock⟩) (by
          simp only [Array.toList_push, List.map_append, List.map_cons, List.map_nil]
          refine List.nodup_append.2 ⟨hs.2.1, by simp, fun x hx c hc e1 => ?_⟩
          simp only [List.mem_singleton] at hc
          obtain ⟨y, hy, rfl⟩ := List.mem_map.1 hx
          have := hs.1 y hy
          omega) (by simp)
        exact this
      have hmod : (es.push ⟨.int .i64 a, .int .i64 0, clock⟩).modify es.size (fun e => { e with val := .int .i64 v }) = es.push ⟨.int .i64 a, .int .i64 v, clock⟩ := by
        apply Array.ext'
        rw [Array.toList_modify, Array.toList_push, Array.toList_push, ← Array.length_toList, Go.WideElems.modify_last]
      simp [Instr.entryStore, MapKept.run_getObj_map hw2, asInt, asIntOf, goInt, hidx, hmod, MapKept.run_setObj_map _ hw2, Result.andThen, setBlock]
    · refine ⟨_, _, setBlock_at hw2, stamped_push hs h2, ?_⟩
      simp [he, pairV]
  · exfalso
    have : (es.toList.map (fun e => (e.key, e.val)))[j]? = some (e.key, e.val) := by simp [h2]
    rw [he] at this
    obtain ⟨y1, y2, hy, ey⟩ := by simpa using this
    simp only [pairV, Prod.mk.injEq] at ey
    rw [h3] at ey
    have ha : y1 = a := by simpa using ey.1
    exact hno (y1, y2) (List.mem_of_getElem? hy) ha

/-- a map that has just been made -/
theorem MapIs.made {w : World} {clock : Nat} : MapIs (w.alloc (.map #[] clock)) w.heap.size [] := ⟨#[], clock, (MapKept.heap_alloc w _).1, stamped_empty clock, rfl⟩
end
end Go.Proofs.Ytndakhnplnamdaa
