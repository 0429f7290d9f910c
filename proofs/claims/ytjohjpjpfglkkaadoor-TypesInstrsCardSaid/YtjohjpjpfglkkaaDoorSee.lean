/- Data handed in, seen in memory: read type by type, each string and slice within the form's reach. -/
import Derived.Test.YtjohjpjpfglkkaaDoorOpen
import Derived.SizedLaws
namespace Go.Proofs.YtjohjpjpfglkkaaDoor
open Go Go.ChangeShapes Go.WideShapes Go.Deep

/-- these cells read as a value of type t -/
def Rd {H : Type} (enc : TypeId × Value → H) (P : Program) (w : World) (base : Nat) (spare : Nat → Bool) (held : Bool) (t : TypeId) (cs : List Value) : Prop :=
  ∃ fuel x, DataW.trod enc P w base spare held fuel t cs = some x ∧ ∀ k ∈ DataW.weights P t x.1, k ≤ 140737488351232
theorem weightsAll_mem {H : Type} {P : Program} {e : TypeId} {k : Nat} : ∀ {l : List (DataW H)} {d : DataW H}, d ∈ l → k ∈ d.weights P e → k ∈ DataW.weightsAll P e l
  | d0 :: r, d, hd, hk => by
    simp only [DataW.weightsAll, List.mem_append]
    rcases List.mem_cons.1 hd with rfl | hd
    · exact .inl hk
    · exact .inr (weightsAll_mem hd hk)
theorem choose_row {α : Type} {n : Nat} {Q : Nat → α → Prop} (h : ∀ i, i < n → ∃ x, Q i x) : ∃ l : List α, l.length = n ∧ ∀ (i : Nat) x, l[i]? = some x → Q i x := by
  induction n with
  | zero => exact ⟨[], rfl, fun i x e => by simp at e⟩
  | succ n ih =>
    obtain ⟨l, hl, hq⟩ := ih fun i hi => h i (by omega)
    obtain ⟨x, hx⟩ := h n (by omega)
    refine ⟨l ++ [x], by simp [hl], fun i y e => ?_⟩
    rcases Nat.lt_or_ge i l.length with hi | hi
    · exact hq i y (by rwa [List.getElem?_append_left hi] at e)
    · rw [List.getElem?_append_right hi] at e
      have h0 : i - l.length = 0 := by
        rcases Nat.eq_zero_or_pos (i - l.length) with h0 | h0
        · exact h0
        · rw [List.getElem?_eq_none (by simp; omega)] at e; cases e
      rw [h0] at e
      have hxy : x = y := by simpa using e
      subst hxy
      have : i = n := by omega
      rw [this]; exact hx
/-- a slice in memory, each element as E says -/
def Row {α : Type} (E : World → Addr → α → Prop) (sz : Nat) (w : World) (v : Value) (l : List α) : Prop :=
  ∃ p cu, v = .slice p l.length cu ∧ (p = none → l.length = 0 ∧ cu = 0) ∧ l.length ≤ 140737488351232 ∧ ∀ (i : Nat) x, l[i]? = some x → ∃ a, p = some a ∧ E w (a.add (i * sz)) x
theorem Row.map {α : Type} {E : World → Addr → α → Prop} {sz : Nat} {w w' : World} {v : Value} {l : List α} (h : Row E sz w v l) (hE : ∀ a x, E w a x → E w' a x) : Row E sz w' v l := by
  obtain ⟨p, cu, h1, h2, h3, h4⟩ := h
  refine ⟨p, cu, h1, h2, h3, fun i x hx => ?_⟩
  obtain ⟨a, e, he⟩ := h4 i x hx
  exact ⟨a, e, hE _ _ he⟩
theorem Row.slice {α : Type} {E : World → Addr → α → Prop} {sz : Nat} {w : World} {v : Value} {l : List α} (h : Row E sz w v l) : ∃ p cu, v = .slice p l.length cu := by
  obtain ⟨p, cu, h, _⟩ := h
  exact ⟨p, cu, h⟩
section
variable {H : Type} {enc : TypeId × Value → H} {P : Program} {w : World} {base : Nat} {spare : Nat → Bool} {held : Bool} {t : TypeId} {cs : List Value}
theorem Rd.str (ht : P.underlying t = some .string) (h : Rd enc P w base spare held t cs) : ∃ s : ByteArray, cs = [.string s] ∧ s.size ≤ 140737488351232 := by
  obtain ⟨f, x, h, hk⟩ := h
  obtain ⟨s, h1, rfl, h3⟩ := DataW.trod_string ht h
  refine ⟨s, h1, ?_⟩
  have := hk s.data.toList.length (by simp [DataW.weights])
  simpa using this
theorem Rd.int {k : IntKind} (ht : P.underlying t = some (.int k)) (h : Rd enc P w base spare held t cs) : ∃ n, cs = [.int k n] ∧ (Lit.int k n).wf = true := by
  obtain ⟨f, x, h, hk⟩ := h
  obtain ⟨s, h1, -, h3⟩ := DataW.trod_int ht h
  exact ⟨s, h1, h3⟩
theorem Rd.bool (ht : P.underlying t = some .bool) (h : Rd enc P w base spare held t cs) : ∃ b, cs = [.bool b] := by
  obtain ⟨f, x, h, hk⟩ := h
  obtain ⟨s, h1, -⟩ := DataW.trod_bool ht h
  exact ⟨s, h1⟩
theorem Rd.struct {fs : Array Field} (ht : P.underlying t = some (.struct fs)) (h : Rd enc P w base spare held t cs) :
    cs.length = P.cellsOf t ∧ ∀ (i : Nat) (f : Field), fs[i]? = some f → Rd enc P w base spare held f.type ((cs.drop f.offset).take (P.cellsOf f.type)) := by
  obtain ⟨n, x, h, hk⟩ := h
  obtain ⟨xs, m, -, rfl, hlen, hxl, hf⟩ := DataW.trod_struct ht h
  refine ⟨hlen, fun i f hi => ?_⟩
  have hil : i < fs.size := (Array.getElem?_eq_some_iff.1 hi).1
  have h1 := hf i f hi
  rw [List.getElem?_eq_getElem (by omega)] at h1
  refine ⟨m, _, h1, fun k hk1 => hk k ?_⟩
  simp only [DataW.weights, ht]
  exact DataW.weights_mem_each (j := i) (t := f.type) (d := (xs[i]'(by omega)).1) (by simp [hi]) (by simp [show i < xs.length by omega]) k hk1
theorem Rd.slice {e : TypeId} (ht : P.underlying t = some (.slice e)) (hby : 1 ≤ P.bytesOf e) (h : Rd enc P w base spare held t cs) :
    ∃ p len cap, cs = [.slice p len cap] ∧ (p = none → len = 0 ∧ cap = 0) ∧ len ≤ 140737488351232 ∧
      ∀ a, p = some a → ∀ i, i < len → ∃ cs', cs'.length = P.cellsOf e ∧ (∀ j, j < P.cellsOf e → w.cell? ((a.add (i * P.cellsOf e)).add j) = cs'[j]?) ∧ Rd enc P w base spare held e cs' := by
  obtain ⟨n, x, h, hk⟩ := h
  rcases open_slice ht h with ⟨rfl, -⟩ | ⟨a, len, cap, m, n, D, Pl, rfl, hb, hl, hm, hmm, rfl, hi⟩
  · exact ⟨none, 0, 0, rfl, fun _ => ⟨rfl, rfl⟩, Nat.zero_le _, fun a e => by cases e⟩
  · have hlm : len ≤ m := by rw [hmm]; split <;> omega
    refine ⟨some a, len, cap, rfl, (fun e => by cases e), ?_, fun a' ea i hil => ?_⟩
    · have := hk ((len + (m - len)) * P.bytesOf e) (by simp [DataW.weights, ht])
      have h2 : len * 1 ≤ (len + (m - len)) * P.bytesOf e := Nat.mul_le_mul (by omega) hby
      omega
    · obtain rfl : a = a' := by simpa using ea
      obtain ⟨cs', h1, h2⟩ := hi i (by omega)
      obtain ⟨-, h3, h4⟩ := World.cells?_some h1
      refine ⟨cs', h3, h4, n, _, h2, fun k hk1 => hk k ?_⟩
      simp only [DataW.weights, ht, List.mem_cons, List.mem_append]
      exact .inr (.inl (weightsAll_mem (List.mem_map.2 ⟨i, List.mem_range.2 hil, rfl⟩) hk1))
theorem Rd.row {α : Type} {E : World → Addr → α → Prop} {sz : Nat} {e : TypeId} {v : Value} (ht : P.underlying t = some (.slice e)) (hby : 1 ≤ P.bytesOf e) (hsz : P.cellsOf e = sz) (h : Rd enc P w base spare held t [v])
    (hE : ∀ (a : Addr) (cs : List Value), Rd enc P w base spare held e cs → cs.length = sz → (∀ j, j < sz → w.cell? (a.add j) = cs[j]?) → ∃ x, E w a x) : ∃ l, Row E sz w v l := by
  obtain ⟨p, len, cap, hv, hp, hl, hi⟩ := h.slice ht hby
  obtain rfl : v = .slice p len cap := by simpa using hv
  have each : ∀ i, i < len → ∃ x, ∃ a, p = some a ∧ E w (a.add (i * sz)) x := fun i hil => by
    cases p with
    | none => have := (hp rfl).1; omega
    | some a =>
      obtain ⟨cs', h1, h2, h3⟩ := hi a rfl i hil
      rw [hsz] at h1 h2
      obtain ⟨x, hx⟩ := hE _ _ h3 h1 h2
      exact ⟨x, a, rfl, hx⟩
  obtain ⟨l, hl2, hq⟩ := choose_row each
  subst hl2
  exact ⟨l, p, cap, rfl, hp, hl, hq⟩
end
end Go.Proofs.YtjohjpjpfglkkaaDoor
