/- The reference's cut: its machine over the whole text. -/
import Derived.Test.YtejfienogljboaaDoorLinB
namespace Go.Proofs.YtejfienogljboaaDoor
open Go.RowKit

theorem own_unlike {w : World} {B B' : Nat} {e e' : TypeId} {s s' : Nat} {v v' : Value} {n n' : Nat} {xs xs' : List Value} (h : w.ownsRow B e s v n xs) (h' : w.ownsRow B' e' s' v' n' xs') (hne : e ≠ e') : v.ownBlock = none ∨ v.ownBlock ≠ v'.ownBlock := by
  rcases h.2 with ⟨rfl, _⟩ | ⟨g, cap, cur, rfl, _, hh, _⟩
  · exact .inl rfl
  · refine .inr fun e1 => ?_
    rcases h'.2 with ⟨rfl, _⟩ | ⟨g', cap', cur', rfl, _, hh', _⟩
    · cases e1
    · have e2 : g = g' := by simpa [Value.ownBlock] using e1
      subst e2
      rw [hh] at hh'
      injection hh' with hh'
      injection hh' with _ hh'
      exact hne hh'
/-- lines of the call's own whose words lie below M -/
def LineU (T : TypeId) (w : World) (B M : Nat) (v : Value) (l : List Ln) : Prop :=
  ∃ ns vs, Owns w B T 2 v l.length (lineC ns vs) ∧ ∀ (j : Nat) x, l[j]? = some x → ns j = x.1 ∧ WordRow w B (vs j) x.2 ∧ ∀ k, (vs j).ownBlock = some k → k < M
section
variable {T : TypeId} {w w' : World} {B M : Nat} {v v' : Value} {l : List Ln}
theorem LineU.nil : LineU T w B M (.slice none 0 0) [] := ⟨fun _ => 0, fun _ => .slice none 0 0, Owns.nil, fun j x h => by cases h⟩
theorem LineRow.toU (h : LineRow T w B v l) : LineU T w B w.heap.size v l := by
  obtain ⟨ns, vs, h, hr⟩ := h
  exact ⟨ns, vs, h, fun j x hx => ⟨(hr j x hx).1, (hr j x hx).2, fun k hk => ((hr j x hx).2.lt k hk).2⟩⟩
theorem LineU.row (h : LineU T w B M v l) : LineRow T w B v l := by
  obtain ⟨ns, vs, h, hr⟩ := h
  exact ⟨ns, vs, h, fun j x hx => ⟨(hr j x hx).1, (hr j x hx).2.1⟩⟩
theorem LineU.next {C : Nat} (h : LineU T w B M v l) (hb : Below C w w') (hC : w.heap.size ≤ C) : LineU T w' B M v l := by
  obtain ⟨ns, vs, h, hr⟩ := h
  exact ⟨ns, vs, h.next hb hC, fun j x hx => ⟨(hr j x hx).1, (hr j x hx).2.1.next hb hC, (hr j x hx).2.2⟩⟩
/-- a word joined the line at hand -/
theorem LineU.grownW {u : Value} {n : Nat} {xs : List Value} (h : LineU T w B M v l) (hT : T ≠ 9) (hu : w.ownsRow M 9 1 u n xs) (hg : w.grownBy w' u.ownBlock) : LineU T w' B M v l := by
  obtain ⟨ns, vs, h, hr⟩ := h
  refine ⟨ns, vs, h.kept hg (own_unlike h hu hT), fun j x hx => ⟨(hr j x hx).1, (hr j x hx).2.1.kept hg ?_, (hr j x hx).2.2⟩⟩
  cases e : (vs j).ownBlock with
  | none => exact .inl rfl
  | some k =>
    refine .inr fun e2 => ?_
    have h1 := (hr j x hx).2.2 k e
    have h2 := (hu.lt k e2.symm).1
    omega
/-- a byte joined the word at hand -/
theorem LineU.grownB {C : Nat} {u : Value} {n : Nat} {xs : List Value} (h : LineU T w B M v l) (hT : T ≠ 5) (hu : w.ownsRow C 5 1 u n xs) (hg : w.grownBy w' u.ownBlock) : LineU T w' B M v l := by
  obtain ⟨ns, vs, h, hr⟩ := h
  refine ⟨ns, vs, h.kept hg (own_unlike h hu hT), fun j x hx => ⟨(hr j x hx).1, (hr j x hx).2.1.kept hg ?_, (hr j x hx).2.2⟩⟩
  obtain ⟨ss, h1, _⟩ := (hr j x hx).2.1
  exact own_unlike h1 hu (by decide)
theorem WordRow.grownB {C : Nat} {u : Value} {n : Nat} {xs : List Value} {ws : List By} (h : WordRow w B v ws) (hu : w.ownsRow C 5 1 u n xs) (hg : w.grownBy w' u.ownBlock) : WordRow w' B v ws := by
  refine h.kept hg ?_
  obtain ⟨ss, h1, _⟩ := h
  exact own_unlike h1 hu (by decide)
end

/-! the plain laws of the machine -/
theorem rlen (p : By) : (rrun p).l.length + one (rrun p).w ≤ p.length ∧ (rrun p).w.length ≤ p.length := by
  have key : ∀ (p : By) (x : RM), (p.foldl rstp x).l.length + one (p.foldl rstp x).w ≤ x.l.length + one x.w + p.length ∧ (p.foldl rstp x).w.length ≤ x.w.length + p.length := by
    intro p
    induction p with
    | nil => intro x; simp
    | cons c r ih =>
      intro x
      rw [List.foldl_cons]
      obtain ⟨h1, h2⟩ := ih (rstp x c)
      have h0 : one ([] : By) = 0 := rfl
      have h9 : (x.w ++ [c]).length = x.w.length + 1 := by simp
      have h8 : one (x.w ++ [c]) = 1 := by simp [one]
      have h7 := fl_len x.l x.w
      simp only [List.length_cons]
      by_cases hb : (x.rem || c == 59 || isBl c) = true
      · have e : rstp x c = ⟨fl x.l x.w, [], x.rem || c == 59, x.bad⟩ := by unfold rstp; rw [if_pos hb]
        rw [e] at h1 h2 ⊢
        dsimp only [List.length_nil] at h1 h2
        rw [h0, h7] at h1
        omega
      · have e : rstp x c = ⟨x.l, x.w ++ [c], x.rem, x.bad || isBad c⟩ := by unfold rstp; rw [if_neg hb]
        rw [e] at h1 h2 ⊢
        dsimp only at h1 h2
        rw [h8] at h1
        rw [h9] at h2
        omega
  obtain ⟨h1, h2⟩ := key p ⟨[], [], false, false⟩
  have h0 : one ([] : By) = 0 := rfl
  dsimp only [List.length_nil] at h1 h2
  rw [h0] at h1
  unfold rrun
  omega
theorem goL_snoc {a : List By} {lo : List Ln} (b : By) (h : goL 1 a = .inl lo) (hb : (rrun b).bad = false) : goL 1 (a ++ [b]) = .inl (if fl (rrun b).l (rrun b).w = [] then lo else lo ++ [(a.length + 1, fl (rrun b).l (rrun b).w)]) := by
  rw [goL_app, h]
  dsimp only
  rw [goL_cons, rm_words, hb]
  rw [if_neg (by simp), goL]
  dsimp only
  rw [Nat.add_comm 1]
  split
  · rw [List.append_nil]
  · rfl
theorem goL_stop {a : List By} {lo : List Ln} (b : By) (r : List By) (h : goL 1 a = .inl lo) (hb : (rrun b).bad = true) : goL 1 (a ++ b :: r) = .inr (a.length + 1) := by
  rw [goL_app, h]
  dsimp only
  rw [goL_cons, rm_words, hb]
  rw [if_pos rfl, Nat.add_comm]

/-- between two bytes -/
structure RSt (w wr : World) (s : ByteArray) (q : Nat) (out lv wv : Value) (n : Nat) (a : List By) (b : By) (lo : List Ln) (M : Nat) : Prop where
  bl : Below w.heap.size w wr
  sp : splitNL (s.data.toList.take q) = a ++ [b]
  g : goL 1 a = .inl lo
  n : n = a.length + 1
  M1 : w.heap.size ≤ M
  M2 : M ≤ wr.heap.size
  o : LineU 41 wr w.heap.size M out lo
  l : WordRow wr M lv (rrun b).l
  w : wr.ownsRow w.heap.size 5 1 wv (rrun b).w.length ((rrun b).w.map byteV)
  n1 : lo.length ≤ a.length
  n2 : a.length + b.length ≤ q
/-- at the text's end -/
structure FSt (w wr : World) (s : ByteArray) (out : Value) (lo : List Ln) : Prop where
  bl : Below w.heap.size w wr
  g : linesOf s.data.toList = .inl lo
  o : LineRow 41 wr w.heap.size out lo

theorem rsplit_big (s : ByteArray) (hs : 4194304 < s.size) (w : World) : Calls Tryd.prog 10 #[.string s] w fun e w' => e = .returned (.tuple #[.slice none 0 0, .int .i64 0, .int .i64 2]) ∧ w = w' := by
  have h : (4194304 : Int) < (s.size : Int) := by omega
  go_enter Tryd.func10, Tryd.ntmps10
  go_wp2
  go_ret3
  exact ⟨rfl, rfl⟩
end Go.Proofs.YtejfienogljboaaDoor
