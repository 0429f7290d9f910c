/- heap.Alike: its pairs still to be looked at; two boxes made in one statement. -/
import Derived.Test.YtndakhnplnamdaaPairD
import Derived.Deep.LoopGhost
namespace Go.Proofs.Ytndakhnplnamdaa
open Go.RowKit Go.ChangeMaps

/-! a region that makes two boxes and fills each -/
def SPart (w0 : World) (na ns : Nat) (zs cs : List Value) (V : Nat → Value) (L : Nat → Bool) (w1 : World) : Prop :=
  (L ns = true → L na = true) ∧ (L na = true → ∃ p, V na = .pointer (some ⟨p, 0, none⟩) ∧ w0.heap.size ≤ p ∧ p < w1.heap.size ∧ Box w1 p (if L ns = true then cs else zs))
structure SBox2 (w0 : World) (na ns nb nt : Nat) (zs cs ds : List Value) (V : Nat → Value) (L : Nat → Bool) (w1 : World) : Prop where
  b : Below w0.heap.size w0 w1
  x : SPart w0 na ns zs cs V L w1
  y : SPart w0 nb nt zs ds V L w1
  d : L na = true → L nb = true → V na ≠ V nb
section
variable {w0 w1 w2 : World} {na ns nb nt : Nat} {zs cs ds : List Value} {V : Nat → Value} {L : Nat → Bool}
theorem SPart.keep (h : SPart w0 na ns zs cs V L w1) {i : Nat} (h1 : (na == i) = false) (h2 : (ns == i) = false) : SPart w0 na ns zs cs V (upd L i) w1 := by
  unfold SPart
  rw [upd_ne h1, upd_ne h2]
  exact h
theorem SPart.grown (h : SPart w0 na ns zs cs V L w1) {row : Option Nat} (hg : w1.grownBy w2 row) (hn : ∀ p, L na = true → V na = .pointer (some ⟨p, 0, none⟩) → some p ≠ row) : SPart w0 na ns zs cs V L w2 := by
  refine ⟨h.1, fun hl => ?_⟩
  obtain ⟨p, e, h3, h4, h5⟩ := h.2 hl
  exact ⟨p, e, h3, Nat.lt_of_lt_of_le h4 hg.size, h5.same (hg.block p h4 (hn p hl e))⟩
theorem SPart.setV (h : SPart w0 na ns zs cs V L w1) {i : Nat} (h1 : (na == i) = false) (v : Value) : SPart w0 na ns zs cs (setV V i v) L w1 := by
  unfold SPart
  rw [setV_ne V v (by simpa using h1)]
  exact h
theorem SPart.made (h : SPart w0 na ns zs cs V L w1) (hns : (ns == na) = false) (hl : L na = false) (hB : w0.heap.size ≤ w1.heap.size) (t : TypeId) :
    SPart w0 na ns zs cs (Go.Proofs.Ytndakhnplnamdaa.setV V na (.pointer (some ⟨w1.heap.size, 0, none⟩))) (upd L na) (w1.alloc (Obj.cells zs.toArray t)) := by
  have hno : L ns = false := by
    cases hn : L ns with
    | false => rfl
    | true => have := h.1 hn; rw [hl] at this; cases this
  refine ⟨fun _ => upd_self, fun _ => ⟨w1.heap.size, setV_self _ _ _, hB, by simp, ?_⟩⟩
  rw [upd_ne hns, hno]
  exact Box.alloc w1 zs t
theorem SBox2.start (h : Below w0.heap.size w0 w1) : SBox2 w0 na ns nb nt zs cs ds V (fun _ => false) w1 :=
  ⟨h, ⟨(fun e => Bool.noConfusion e), (fun e => Bool.noConfusion e)⟩, ⟨(fun e => Bool.noConfusion e), (fun e => Bool.noConfusion e)⟩, (fun e => Bool.noConfusion e)⟩
theorem SBox2.keep (h : SBox2 w0 na ns nb nt zs cs ds V L w1) {i : Nat} (h1 : (na == i) = false) (h2 : (ns == i) = false) (h3 : (nb == i) = false) (h4 : (nt == i) = false) : SBox2 w0 na ns nb nt zs cs ds V (upd L i) w1 :=
  ⟨h.b, h.x.keep h1 h2, h.y.keep h3 h4, by rw [upd_ne h1, upd_ne h3]; exact h.d⟩
theorem SPart.fresh (h : SPart w0 na ns zs cs V L w1) (hl : L na = true) : V na ≠ .pointer (some ⟨w1.heap.size, 0, none⟩) := fun e => by
  obtain ⟨p, e', _, h4, _⟩ := h.2 hl
  rw [e'] at e
  simp only [Value.pointer.injEq, Option.some.injEq, Addr.mk.injEq, and_true] at e
  omega
theorem SBox2.made1 (h : SBox2 w0 na ns nb nt zs cs ds V L w1) (h1 : (ns == na) = false) (h2 : (nb == na) = false) (h3 : (nt == na) = false) (hl : L na = false) (t : TypeId) :
    SBox2 w0 na ns nb nt zs cs ds (setV V na (.pointer (some ⟨w1.heap.size, 0, none⟩))) (upd L na) (w1.alloc (Obj.cells zs.toArray t)) :=
  ⟨h.b.alloc h.b.size _, h.x.made h1 hl h.b.size t, ((h.y.grown (World.grownBy_alloc w1 _ none) (by simp)).setV h2 _).keep h2 h3, fun _ e => by
    rw [upd_ne h2] at e
    rw [setV_self, setV_ne V _ (by simpa using h2)]
    exact Ne.symm (h.y.fresh e)⟩
theorem SBox2.made2 (h : SBox2 w0 na ns nb nt zs cs ds V L w1) (h1 : (nt == nb) = false) (h2 : (na == nb) = false) (h3 : (ns == nb) = false) (hl : L nb = false) (t : TypeId) :
    SBox2 w0 na ns nb nt zs cs ds (setV V nb (.pointer (some ⟨w1.heap.size, 0, none⟩))) (upd L nb) (w1.alloc (Obj.cells zs.toArray t)) :=
  ⟨h.b.alloc h.b.size _, ((h.x.grown (World.grownBy_alloc w1 _ none) (by simp)).setV h2 _).keep h2 h3, h.y.made h1 hl h.b.size t, fun e _ => by
    rw [upd_ne h2] at e
    rw [setV_self, setV_ne V _ (by simpa using h2)]
    exact h.x.fresh e⟩
theorem SPart.at (h : SPart w0 na ns zs cs V L w1) (hl : L na = true) (hn : L ns = false) : ∃ p, V na = .pointer (some ⟨p, 0, none⟩) ∧ w0.heap.size ≤ p ∧ p < w1.heap.size ∧ Box w1 p zs := by
  obtain ⟨p, e, h3, h4, h5⟩ := h.2 hl
  rw [hn] at h5
  exact ⟨p, e, h3, h4, h5⟩
theorem SPart.done (h : SPart w0 na ns zs cs V L w1) (hl : L na = true) (hn : L ns = true) : ∃ p, V na = .pointer (some ⟨p, 0, none⟩) ∧ w0.heap.size ≤ p ∧ p < w1.heap.size ∧ Box w1 p cs := by
  obtain ⟨p, e, h3, h4, h5⟩ := h.2 hl
  rw [hn] at h5
  exact ⟨p, e, h3, h4, h5⟩
theorem SPart.fill (hl : L na = true) {p : Nat} (hp : V na = .pointer (some ⟨p, 0, none⟩)) (hp0 : w0.heap.size ≤ p) (hp1 : p < w2.heap.size) (hx : Box w2 p cs) (hns : (na == ns) = false) :
    SPart w0 na ns zs cs V (upd L ns) w2 := by
  refine ⟨fun _ => by rw [upd_ne hns]; exact hl, fun _ => ⟨p, hp, hp0, hp1, ?_⟩⟩
  rw [upd_self]
  exact hx
theorem SBox2.fill1 (h : SBox2 w0 na ns nb nt zs cs ds V L w1) (hl : L na = true) {p : Nat} (hp : V na = .pointer (some ⟨p, 0, none⟩)) (hp0 : w0.heap.size ≤ p) (hp1 : p < w2.heap.size) (hB : Below w0.heap.size w0 w2) (hx : Box w2 p cs) (hg : w1.grownBy w2 (some p))
    (h1 : (na == ns) = false) (h2 : (nb == ns) = false) (h3 : (nt == ns) = false) : SBox2 w0 na ns nb nt zs cs ds V (upd L ns) w2 :=
  ⟨hB, SPart.fill hl hp hp0 hp1 hx h1, (h.y.grown hg (fun q hq e => by
    have := h.d hl hq
    rw [hp, e] at this
    intro e'
    have e' : q = p := by simpa using e'
    rw [e'] at this
    exact this rfl)).keep h2 h3, by rw [upd_ne h1, upd_ne h2]; exact h.d⟩
theorem SBox2.fill2 (h : SBox2 w0 na ns nb nt zs cs ds V L w1) (hl : L nb = true) {p : Nat} (hp : V nb = .pointer (some ⟨p, 0, none⟩)) (hp0 : w0.heap.size ≤ p) (hp1 : p < w2.heap.size) (hB : Below w0.heap.size w0 w2) (hx : Box w2 p ds) (hg : w1.grownBy w2 (some p))
    (h1 : (nb == nt) = false) (h2 : (na == nt) = false) (h3 : (ns == nt) = false) : SBox2 w0 na ns nb nt zs cs ds V (upd L nt) w2 :=
  ⟨hB, (h.x.grown hg (fun q hq e => by
    have := h.d hq hl
    rw [hp, e] at this
    intro e'
    have e' : q = p := by simpa using e'
    rw [e'] at this
    exact this rfl)).keep h2 h3, SPart.fill hl hp hp0 hp1 hx h1, by rw [upd_ne h1, upd_ne h2]; exact h.d⟩
theorem grown_two {w : World} {p : Nat} {a b : Value} : w.grownBy ((w.setCell ⟨p, 0, none⟩ a).setCell ⟨p, 1, none⟩ b) (some p) := by
  have h1 := grown_setCell w p 0 a
  have h2 := grown_setCell (w.setCell ⟨p, 0, none⟩ a) p 1 b
  exact ⟨h2.os.trans h1.os, h2.tape.trans h1.tape, h2.output.trans h1.output, Nat.le_trans h1.size h2.size, fun k hk hn => (h2.block k (Nat.lt_of_lt_of_le hk h1.size) hn).trans (h1.block k hk hn)⟩
end

/-! the row of pairs -/
theorem rowP_len (td : List (Int × Int)) : (rowP td).length = 2 * td.length := by
  induction td with
  | nil => rfl
  | cons x r ih =>
    have : rowP (x :: r) = .int .i64 x.1 :: .int .i64 x.2 :: rowP r := by simp [rowP]
    rw [this]
    simp [ih]
    omega
theorem rowP_app (a b : List (Int × Int)) : rowP (a ++ b) = rowP a ++ rowP b := by simp [rowP]
theorem rowP_last (td : List (Int × Int)) (x : Int × Int) : (rowP (td ++ [x]))[td.length * 2]? = some (.int .i64 x.1) ∧ (rowP (td ++ [x]))[td.length * 2 + 1]? = some (.int .i64 x.2) := by
  have h := rowP_len td
  rw [rowP_app]
  constructor
  · rw [List.getElem?_append_right (by omega), h]
    have : td.length * 2 - 2 * td.length = 0 := by omega
    rw [this]
    rfl
  · rw [List.getElem?_append_right (by omega), h]
    have : td.length * 2 + 1 - 2 * td.length = 1 := by omega
    rw [this]
    rfl
/-- the last pair, where it lies -/
theorem own_last {w : World} {B : Nat} {e : TypeId} {v : Value} {td : List (Int × Int)} {x : Int × Int} (h : w.ownsRow B e 2 v (td ++ [x]).length (rowP (td ++ [x]))) :
    ∃ g cu, v = .slice (some ⟨g, 0, none⟩) (td.length + 1) cu ∧ B ≤ g ∧ td.length + 1 ≤ cu ∧ w.cell? ⟨g, td.length * 2, none⟩ = some (.int .i64 x.1) ∧ w.cell? ⟨g, td.length * 2 + 1, none⟩ = some (.int .i64 x.2) := by
  have hl : (td ++ [x]).length = td.length + 1 := by simp
  rw [hl] at h
  rcases h.2 with ⟨_, h0⟩ | ⟨g, cap, cur, rfl, hb, hg, hc, _⟩
  · omega
  · have h1 := h.cellAt (td.length * 2) (by omega)
    have h2 := h.cellAt (td.length * 2 + 1) (by omega)
    rw [(rowP_last td x).1] at h1
    rw [(rowP_last td x).2] at h2
    exact ⟨g, cap, rfl, hb, hc, h1, h2⟩
theorem own_pop {w : World} {B : Nat} {e : TypeId} {g cu : Nat} {td : List (Int × Int)} {x : Int × Int} (h : w.ownsRow B e 2 (.slice (some ⟨g, 0, none⟩) (td.length + 1) cu) (td ++ [x]).length (rowP (td ++ [x]))) :
    w.ownsRow B e 2 (.slice (some ⟨g, 0, none⟩) td.length cu) td.length (rowP td) := by
  refine ⟨by rw [rowP_len]; omega, .inr ?_⟩
  rcases h.2 with ⟨h0, _⟩ | ⟨g', cap, cur, e1, hb, hg, hc, hm, hs, ht⟩
  · cases h0
  · simp only [Value.slice.injEq, Option.some.injEq, Addr.mk.injEq, and_true] at e1
    obtain ⟨rfl, -, rfl⟩ := e1
    have hl : (td ++ [x]).length = td.length + 1 := by simp
    rw [hl] at hc ht
    refine ⟨g, cu, cur, rfl, hb, hg, by omega, hm, hs, ?_⟩
    have := congrArg (List.take (td.length * 2)) ht
    rw [List.take_take, Nat.min_eq_left (by omega), rowP_app, List.take_append_of_le_length (by rw [rowP_len]; omega), List.take_of_length_le (l := rowP td) (by rw [rowP_len]; omega)] at this
    exact this
/-- the last pair is taken off -/
theorem PairSt.pop {w : World} {B pb bt bb g cu : Nat} {hv kv : Value} {T td : List (Int × Int)} {x : Int × Int} (h : PairSt w B pb bt bb hv kv (.slice (some ⟨g, 0, none⟩) (td.length + 1) cu) T (td ++ [x])) :
    PairSt (w.setCell ⟨pb, 4, none⟩ (.slice (some ⟨g, 0, none⟩) td.length cu)) B pb bt bb hv kv (.slice (some ⟨g, 0, none⟩) td.length cu) T td := by
  have gs := grown_setCell w pb 4 (.slice (some ⟨g, 0, none⟩) td.length cu)
  have hty : Typ w pb 59 := h.ty
  exact
  { x := h.x.set (i := 4) (by simp) _
    ty := hty.set 4 _
    mt := grown_map h.mt gs (by simpa using h.n1)
    mb := grown_map h.mb gs (by simpa using h.n2)
    o := (own_pop h.o).kept gs (.inr h.n4)
    h0 := h.h0, h1 := h.h1, h2 := h.h2, n1 := h.n1, n2 := h.n2, n3 := h.n3 }

/-! the search -/
structure Search (n m : Nat) (ob oq : Nat → ObjD) (l l' : Nat) (vs us : Nat → Vl) (T td : List (Int × Int)) : Prop where
  e : l = l'
  ni : Nice n m T
  s : ∀ x ∈ td, x ∈ T
  k : td.length ≤ T.length
  g : ∀ R, Good n m ob oq l vs us R → Sub T R
  r : OkVs n m (inL T) l vs us
  o : ∀ x ∈ T, x ∈ td ∨ OkO n m (inL T) (nth ob x.1) (nth oq x.2)
section
variable {n m : Nat} {ob oq : Nat → ObjD} {l l' : Nat} {vs us : Nat → Vl} {T td U : List (Int × Int)} {x : Int × Int}
theorem Search.start (hn : Nice n m U) (hk : OkL n m l l' vs us (inL U)) (hF : ∀ R, Fun2 R → Sub [] R → OkL n m l l' vs us R → Sub U R) : Search n m ob oq l l' vs us U U :=
  { e := hk.1, ni := hn, s := fun _ h => h, k := Nat.le_refl _, g := fun R hR => hF R hR.f (fun _ h => by cases h) ⟨hk.1, hR.v⟩, r := hk.2, o := fun _ h => .inl h }
theorem Search.never (h : ∀ R, Fun2 R → Sub [] R → ¬ OkL n m l l' vs us R) : ¬ AlikeP n m ob oq l l' vs us := by
  rintro ⟨h1, R, hR⟩
  exact h R hR.f (fun _ h => by cases h) ⟨h1, hR.v⟩
theorem Search.done (h : Search n m ob oq l l' vs us T []) : AlikeP n m ob oq l l' vs us :=
  ⟨h.e, inL T, h.ni.fun2, fun x y hxy => h.ni.i (x, y) hxy, fun x y hxy => by
    rcases h.o (x, y) hxy with h1 | h1
    · cases h1
    · exact h1, h.r⟩
theorem Search.at (h : Search n m ob oq l l' vs us T (td ++ [x])) : InR n m x.1 x.2 := h.ni.i x (h.s x (by simp))
theorem Search.go (h : Search n m ob oq l l' vs us T (td ++ [x])) (hc : (nth ob x.1).c = (nth oq x.2).c) (hn : Nice n m (T ++ U)) (hk : OkL n m (nth ob x.1).l (nth oq x.2).l (nth ob x.1).vs (nth oq x.2).vs (inL (T ++ U)))
    (hF : ∀ R, Fun2 R → Sub T R → OkL n m (nth ob x.1).l (nth oq x.2).l (nth ob x.1).vs (nth oq x.2).vs R → Sub (T ++ U) R) : Search n m ob oq l l' vs us (T ++ U) (td ++ U) :=
  { e := h.e, ni := hn
    s := fun y hy => by
      rcases List.mem_append.1 hy with hy | hy
      · exact List.mem_append_left _ (h.s y (List.mem_append_left _ hy))
      · exact List.mem_append_right _ hy
    k := by
      have := h.k
      simp at this ⊢
      omega
    g := fun R hR => by
      have hS := h.g R hR
      have ho := hR.o _ _ (hS x (h.s x (by simp)))
      exact hF R hR.f hS ⟨ho.l, ho.v⟩
    r := h.r.mono inL_app
    o := fun y hy => by
      rcases List.mem_append.1 hy with hy | hy
      · rcases h.o y hy with h1 | h1
        · rcases List.mem_append.1 h1 with h1 | h1
          · exact .inl (List.mem_append_left _ h1)
          · have : y = x := by simpa using h1
            subst this
            exact .inr ⟨hc, hk.1, hk.2⟩
        · exact .inr (h1.mono inL_app)
      · exact .inl (List.mem_append_right _ hy) }
theorem Search.miss (h : Search n m ob oq l l' vs us T (td ++ [x])) (hno : ¬ ((nth ob x.1).c = (nth oq x.2).c ∧ ∃ R, Fun2 R ∧ Sub T R ∧ OkL n m (nth ob x.1).l (nth oq x.2).l (nth ob x.1).vs (nth oq x.2).vs R)) : ¬ AlikeP n m ob oq l l' vs us := by
  rintro ⟨_, R, hR⟩
  have hS := h.g R hR
  have ho := hR.o _ _ (hS x (h.s x (by simp)))
  exact hno ⟨ho.c, R, hR.f, hS, ho.l, ho.v⟩
theorem Search.less (_ : Search n m ob oq l l' vs us T (td ++ [x])) (hn : Nice n m (T ++ U)) : 2 * (n - (T ++ U).length) + (td ++ U).length < 2 * (n - T.length) + (td ++ [x]).length := by
  have := hn.few
  simp at this ⊢
  omega
end
end Go.Proofs.Ytndakhnplnamdaa
