/- Cells of rows: rows appended to one another in memory of the call's own. -/
import Derived.Test.YtjohjpjpfglkkaaFld
import Derived.Test.YtjohjpjpfglkkaaApp
namespace Go.Proofs.Ytjohjpjpfglkkaa
open Go Go.RowKit

theorem add_zero' (a : Addr) : a.add 0 = a := by unfold Addr.add; simp
/-- these cells hold these elements, wherever they lie behind a world -/
def Cells {α : Type} (E : World → Addr → α → Prop) (sz : Nat) (w : World) (C : List Value) (l : List α) : Prop :=
  C.length = l.length * sz ∧ (∀ u ∈ C, u.oneCell' = true) ∧ ∀ (i : Nat) x, l[i]? = some x → ∀ (w' : World) (a : Addr), Below w.heap.size w w' → (∀ (k : Nat) (u : Value), k < sz → C[i * sz + k]? = some u → w'.cell? (a.add k) = some u) → E w' a x
/-- an element's cells tell it -/
def Elem {α : Type} (E : World → Addr → α → Prop) (sz : Nat) : Prop :=
  ∀ (w : World) (a : Addr) (x : α), E w a x → ∃ C : List Value, Cells E sz w C [x] ∧ ∀ (j : Nat) (u : Value), C[j]? = some u → w.cell? (a.add j) = some u
section
variable {α : Type} {E : World → Addr → α → Prop} {sz : Nat} {w w1 : World} {C D : List Value} {l m : List α}
theorem Cells.nil : Cells E sz w [] ([] : List α) := ⟨by simp, (fun u hu => by cases hu), fun i x hx => by simp at hx⟩
theorem Cells.kp (h : Cells E sz w C l) (hb : Below w.heap.size w w1) : Cells E sz w1 C l := ⟨h.1, h.2.1, fun i x hx w' a hb' hc => h.2.2 i x hx w' a (hb.trans (hb'.mono hb.size)) hc⟩
theorem seg_lt {i n k s : Nat} (hi : i < n) (hk : k < s) : i * s + k < n * s := by
  have : (i + 1) * s ≤ n * s := Nat.mul_le_mul_right s hi
  rw [Nat.add_mul] at this
  omega
theorem Cells.app (h : Cells E sz w C l) (h' : Cells E sz w D m) : Cells E sz w (C ++ D) (l ++ m) := by
  refine ⟨by rw [List.length_append, List.length_append, h.1, h'.1, Nat.add_mul], fun u hu => (List.mem_append.1 hu).elim (h.2.1 u) (h'.2.1 u), fun i x hx w' a hb hc => ?_⟩
  by_cases hi : i < l.length
  · rw [List.getElem?_append_left hi] at hx
    refine h.2.2 i x hx w' a hb fun k u hk hu => hc k u hk ?_
    rw [List.getElem?_append_left (by rw [h.1]; exact seg_lt hi hk)]
    exact hu
  · rw [List.getElem?_append_right (by omega)] at hx
    refine h'.2.2 (i - l.length) x hx w' a hb fun k u hk hu => hc k u hk ?_
    have e : i * sz = l.length * sz + (i - l.length) * sz := by rw [← Nat.add_mul]; congr 1; omega
    rw [List.getElem?_append_right (by rw [h.1]; omega), h.1, e, Nat.add_assoc, Nat.add_sub_cancel_left]
    exact hu
theorem cells_of (hE : Elem E sz) : ∀ (l : List α) (a : Addr), (∀ (i : Nat) x, l[i]? = some x → E w (a.add (i * sz)) x) → ∃ C, Cells E sz w C l ∧ ∀ (j : Nat) (u : Value), C[j]? = some u → w.cell? (a.add j) = some u
  | [], a, h => ⟨[], Cells.nil, fun j u hu => by simp at hu⟩
  | x :: r, a, h => by
    have h0 := h 0 x rfl
    rw [Nat.zero_mul] at h0
    obtain ⟨C, hC, hc⟩ := hE w (a.add 0) x h0
    obtain ⟨D, hD, hd⟩ := cells_of hE r (a.add sz) (fun i y hy => by
      have := h (i + 1) y hy
      rw [addAdd]
      rwa [show sz + i * sz = (i + 1) * sz by rw [Nat.add_mul]; omega])
    refine ⟨C ++ D, hC.app hD, fun j u hu => ?_⟩
    have hl : C.length = sz := by rw [hC.1]; simp
    by_cases hj : j < C.length
    · rw [List.getElem?_append_left hj] at hu
      have := hc j u hu
      rwa [addAdd, Nat.zero_add] at this
    · rw [List.getElem?_append_right (by omega)] at hu
      have := hd _ u hu
      rwa [addAdd, hl, show sz + (j - sz) = j by omega] at this
/-- a row's cells -/
theorem Row.cells (hE : Elem E sz) {p : Option Addr} {n cu : Nat} (h : Row E sz w (.slice p n cu) l) : ∃ C, Cells E sz w C l ∧ n = l.length ∧ C.length = n * sz ∧ (p = none → n = 0 ∧ cu = 0) ∧ ∀ ad, p = some ad → ∀ (j : Nat) (u : Value), C[j]? = some u → w.cell? (ad.add j) = some u := by
  obtain ⟨p', cu', e, hp, hn, hl⟩ := h
  injection e with e1 e2 e3
  subst e1
  subst e3
  cases p with
  | none =>
    have h0 := (hp rfl).1
    have : l = [] := List.length_eq_zero_iff.1 h0
    subst this
    exact ⟨[], Cells.nil, e2, by rw [e2]; simp, (fun _ => ⟨e2, (hp rfl).2⟩), fun ad e => by cases e⟩
  | some a =>
    obtain ⟨C, hC, hc⟩ := cells_of hE l a (fun i x hx => by
      obtain ⟨a', e, hx'⟩ := hl i x hx
      injection e with e
      subst e
      exact hx')
    refine ⟨C, hC, e2, by rw [e2]; exact hC.1, (fun e => by cases e), fun ad e => ?_⟩
    injection e with e
    subst e
    exact hc
/-- a row of the call's own -/
theorem Cells.row {B : Nat} {T : TypeId} {v : Value} (h : Cells E sz w C l) (hb : Below w.heap.size w w1) (ho : w1.ownsRow B T sz v l.length C) (hn : l.length ≤ 140737488351232) : Row E sz w1 v l := by
  rcases ho.2 with ⟨rfl, h0⟩ | ⟨g, cap, cur, rfl, _⟩
  · refine ⟨none, 0, by rw [h0], fun _ => ⟨h0, rfl⟩, hn, fun i x hx => ?_⟩
    have : l = [] := List.length_eq_zero_iff.1 h0
    subst this
    simp at hx
  · refine ⟨some ⟨g, 0, none⟩, cap, rfl, (fun e => by cases e), hn, fun i x hx => ⟨_, rfl, ?_⟩⟩
    refine h.2.2 i x hx w1 _ hb fun k u hk hu => ?_
    rw [addAdd]
    exact ho.cells rfl _ u hu
/-- one element is another one -/
theorem Cells.set {C' : List Value} {x : α} {j : Nat} (h : Cells E sz w C l) (h' : Cells E sz w D [x]) (hl : C'.length = C.length) (h1 : ∀ u ∈ C', u.oneCell' = true) (hd : ∀ k, k < sz → C'[j * sz + k]? = D[k]?)
    (hc : ∀ i k, i ≠ j → k < sz → C'[i * sz + k]? = C[i * sz + k]?) : Cells E sz w C' (l.set j x) := by
  refine ⟨by rw [hl, h.1]; simp, h1, fun i y hy w' a hb hcell => ?_⟩
  by_cases e : i = j
  · subst e
    have hy' : x = y := by
      rw [List.getElem?_set] at hy
      simp only [if_true] at hy
      split at hy
      · exact Option.some.inj hy
      · cases hy
    subst hy'
    refine h'.2.2 0 x rfl w' a hb fun k u hk hu => hcell k u hk ?_
    rw [hd k hk]
    simpa using hu
  · rw [List.getElem?_set_ne (fun h => e h.symm)] at hy
    refine h.2.2 i y hy w' a hb fun k u hk hu => hcell k u hk ?_
    rw [hc i k e hk]
    exact hu
end
theorem Cells.v {w : World} {x : Vr} (z1 : Sz x.n) (z2 : Sz x.t) : Cells AtV 2 w [.string x.n, .string x.t] [x] := by
  refine ⟨rfl, fun u hu => ?_, fun i y hy w' a _ hc => ?_⟩
  · simp only [List.mem_cons, List.not_mem_nil, or_false] at hu
    rcases hu with rfl | rfl <;> rfl
  · cases i with
    | succ i => simp at hy
    | zero =>
      obtain rfl : x = y := by simpa using hy
      have c0 := hc 0 _ (by decide) rfl
      rw [add_zero'] at c0
      exact ⟨⟨c0, z1⟩, hc 1 _ (by decide) rfl, z2⟩
theorem Cells.x {w : World} {x : Ex} (z1 : Sz x.n) : Cells AtX 2 w [.string x.n, .int .i64 x.k] [x] := by
  refine ⟨rfl, fun u hu => ?_, fun i y hy w' a _ hc => ?_⟩
  · simp only [List.mem_cons, List.not_mem_nil, or_false] at hu
    rcases hu with rfl | rfl <;> rfl
  · cases i with
    | succ i => simp at hy
    | zero =>
      obtain rfl : x = y := by simpa using hy
      have c0 := hc 0 _ (by decide) rfl
      rw [add_zero'] at c0
      exact ⟨⟨c0, z1⟩, hc 1 _ (by decide) rfl⟩
theorem Row.one {α : Type} {E : World → Addr → α → Prop} {sz : Nat} {w : World} {v : Value} {l : List α} (h : Row E sz w v l) : v.oneCell' = true := by
  obtain ⟨p, k, rfl⟩ := h.slice
  rfl
theorem Cells.c {w : World} {x : Cl} {u : Value} (z1 : Sz x.n) (h : Row AtV 2 w u x.fs) : Cells AtC 2 w [.string x.n, u] [x] := by
  refine ⟨rfl, fun u hu => ?_, fun i y hy w' a hb hc => ?_⟩
  · simp only [List.mem_cons, List.not_mem_nil, or_false] at hu
    rcases hu with rfl | rfl
    · rfl
    · exact h.one
  · cases i with
    | succ i => simp at hy
    | zero =>
      obtain rfl : x = y := by simpa using hy
      have c0 := hc 0 _ (by decide) rfl
      rw [add_zero'] at c0
      exact ⟨⟨c0, z1⟩, u, hc 1 _ (by decide) rfl, h.v hb⟩
theorem Cells.f {w : World} {x : Fn} {u1 u2 u3 : Value} (z : Sz x.n ∧ Sz x.r) (h1 : Row AtV 2 w u1 x.ps) (h2 : Row AtV 2 w u2 x.vs) (h3 : Row AtBk 9 w u3 x.bs) : Cells AtF 5 w [.string x.n, .string x.r, u1, u2, u3] [x] := by
  refine ⟨rfl, fun u hu => ?_, fun i y hy w' a hb hc => ?_⟩
  · simp only [List.mem_cons, List.not_mem_nil, or_false] at hu
    rcases hu with rfl | rfl | rfl | rfl | rfl
    · rfl
    · rfl
    · exact h1.one
    · exact h2.one
    · exact h3.one
  · cases i with
    | succ i => simp at hy
    | zero =>
      obtain rfl : x = y := by simpa using hy
      have c0 := hc 0 _ (by decide) rfl
      rw [add_zero'] at c0
      exact ⟨⟨c0, z.1⟩, ⟨hc 1 _ (by decide) rfl, z.2⟩, ⟨u1, hc 2 _ (by decide) rfl, h1.v hb⟩, ⟨u2, hc 3 _ (by decide) rfl, h2.v hb⟩, u3, hc 4 _ (by decide) rfl, h3.bk hb⟩
theorem at_cells {w : World} {a : Addr} {C : List Value} (h : ∀ k, (hk : k < C.length) → w.cell? (a.add k) = some C[k]) : ∀ (j : Nat) (u : Value), C[j]? = some u → w.cell? (a.add j) = some u := fun j u hu => by
  obtain ⟨hj, rfl⟩ := List.getElem?_eq_some_iff.1 hu
  exact h j hj
theorem elemV : Elem AtV 2 := fun w a x ⟨⟨c0, z0⟩, c1, z1⟩ => ⟨_, Cells.v z0 z1, fun j u hu => by
  match j, hu with
  | 0, hu => obtain rfl : _ = u := by simpa using hu
             rw [add_zero']; exact c0
  | 1, hu => obtain rfl : _ = u := by simpa using hu
             exact c1⟩
theorem elemX : Elem AtX 2 := fun w a x ⟨⟨c0, z0⟩, c1⟩ => ⟨_, Cells.x z0, fun j u hu => by
  match j, hu with
  | 0, hu => obtain rfl : _ = u := by simpa using hu
             rw [add_zero']; exact c0
  | 1, hu => obtain rfl : _ = u := by simpa using hu
             exact c1⟩
theorem elemC : Elem AtC 2 := fun w a x ⟨⟨c0, z0⟩, u, c1, h⟩ => ⟨_, Cells.c z0 h, fun j u hu => by
  match j, hu with
  | 0, hu => obtain rfl : _ = u := by simpa using hu
             rw [add_zero']; exact c0
  | 1, hu => obtain rfl : _ = u := by simpa using hu
             exact c1⟩
theorem elemF : Elem AtF 5 := fun w a x ⟨⟨c0, z0⟩, ⟨c1, z1⟩, ⟨u2, c2, h2⟩, ⟨u3, c3, h3⟩, u4, c4, h4⟩ => ⟨_, Cells.f ⟨z0, z1⟩ h2 h3 h4, fun j u hu => by
  match j, hu with
  | 0, hu => obtain rfl : _ = u := by simpa using hu
             rw [add_zero']; exact c0
  | 1, hu => obtain rfl : _ = u := by simpa using hu
             exact c1
  | 2, hu => obtain rfl : _ = u := by simpa using hu
             exact c2
  | 3, hu => obtain rfl : _ = u := by simpa using hu
             exact c3
  | 4, hu => obtain rfl : _ = u := by simpa using hu
             exact c4⟩
end Go.Proofs.Ytjohjpjpfglkkaa
