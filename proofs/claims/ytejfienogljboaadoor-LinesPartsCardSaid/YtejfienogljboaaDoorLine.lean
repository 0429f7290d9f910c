/- Lines of words, in plain terms. -/
namespace Go.Proofs.YtejfienogljboaaDoor

abbrev By := List UInt8
def isBl (c : UInt8) : Bool := c == 32 || c == 9
/-- can a byte not stand in a word? -/
def isBad (c : UInt8) : Bool := decide (c.toNat < 33) || decide (126 < c.toNat)
/-- a word that is done -/
def fl (l : List By) (w : By) : List By := if w = [] then l else l ++ [w]
/-- a line's words so far, the word at hand, whether a byte was bad -/
def stp (x : List By × By × Bool) (c : UInt8) : List By × By × Bool := if isBl c then (fl x.1 x.2.1, [], x.2.2) else (x.1, x.2.1 ++ [c], x.2.2 || isBad c)
def run1 (p : By) : List By × By × Bool := p.foldl stp ([], [], false)
/-- a line's words; none: a byte can't stand there -/
def wordsOf (p : By) : Option (List By) := if (run1 p).2.2 then none else some (fl (run1 p).1 (run1 p).2.1)
def cutRem (p : By) : By := p.takeWhile (· != 59)
/-- a text's lines -/
def splitNL : By → List By
  | [] => [[]]
  | c :: r => if c == 10 then [] :: splitNL r else match splitNL r with
    | [] => [[c]]
    | p :: q => (c :: p) :: q
abbrev Ln := Nat × List By
/-- the lines from number n on; the number of the first that can't be -/
def goL : Nat → List By → List Ln ⊕ Nat
  | _, [] => .inl []
  | n, p :: r => match wordsOf (cutRem p) with
    | none => .inr n
    | some ws => match goL (n + 1) r with
      | .inr k => .inr k
      | .inl l => .inl (if ws = [] then l else (n, ws) :: l)
def linesOf (s : By) : List Ln ⊕ Nat := goL 1 (splitNL s)

theorem run1_snoc (p : By) (c : UInt8) : run1 (p ++ [c]) = stp (run1 p) c := by simp [run1, List.foldl_append]
theorem splitNL_ne (s : By) : splitNL s ≠ [] := by
  cases s with
  | nil => simp [splitNL]
  | cons c r =>
    unfold splitNL
    split
    · simp
    · split <;> simp
theorem splitNL_no {p : By} (h : ∀ c ∈ p, c ≠ 10) : splitNL p = [p] := by
  induction p with
  | nil => rfl
  | cons c r ih =>
    have hc : (c == 10) = false := by simpa using h c (by simp)
    unfold splitNL
    rw [hc, ih fun x hx => h x (by simp [hx])]
    rfl
/-- a line feed parts the lines -/
theorem splitNL_nl (s t : By) : splitNL (s ++ 10 :: t) = splitNL s ++ splitNL t := by
  induction s with
  | nil => simp [splitNL]
  | cons c r ih =>
    by_cases hc : c = 10
    · subst hc
      simp [splitNL, ih]
    · have hc : (c == 10) = false := by simpa using hc
      rw [List.cons_append]
      simp only [splitNL, hc, Bool.false_eq_true, if_false, ih]
      have := splitNL_ne r
      match h : splitNL r with
      | [] => exact absurd h this
      | p :: q => rfl
theorem splitNL_len (s : By) : (splitNL s).length = s.count 10 + 1 := by
  induction s with
  | nil => rfl
  | cons c r ih =>
    by_cases hc : c = 10
    · subst hc
      simp [splitNL, ih]
    · have hc' : (c == 10) = false := by simpa using hc
      have := splitNL_ne r
      match h : splitNL r with
      | [] => exact absurd h this
      | p :: q =>
        rw [h] at ih
        simp only [splitNL, hc', Bool.false_eq_true, if_false, h]
        rw [List.count_cons_of_ne (by exact fun e => hc e)]
        simpa using ih
/-- what is put behind a text goes to its last line -/
theorem splitNL_last (s x : By) (hx : ∀ c ∈ x, c ≠ 10) : ∃ a b, splitNL s = a ++ [b] ∧ splitNL (s ++ x) = a ++ [b ++ x] := by
  induction s with
  | nil => exact ⟨[], [], rfl, by simpa using splitNL_no hx⟩
  | cons c r ih =>
    obtain ⟨a, b, h1, h2⟩ := ih
    by_cases hc : c = 10
    · subst hc
      refine ⟨[] :: a, b, ?_, ?_⟩
      · simp [splitNL, h1]
      · rw [List.cons_append]
        simp [splitNL, h2]
    · have hc' : (c == 10) = false := by simpa using hc
      cases a with
      | nil =>
        refine ⟨[], c :: b, ?_, ?_⟩
        · simp only [splitNL, hc', Bool.false_eq_true, if_false, h1]; rfl
        · rw [List.cons_append]
          simp only [splitNL, hc', Bool.false_eq_true, if_false, h2]; rfl
      | cons p a =>
        refine ⟨(c :: p) :: a, b, ?_, ?_⟩
        · simp only [splitNL, hc', Bool.false_eq_true, if_false, h1]; rfl
        · rw [List.cons_append]
          simp only [splitNL, hc', Bool.false_eq_true, if_false, h2]; rfl

/-! the numbers -/
theorem goL_cons (n : Nat) (p : By) (r : List By) : goL n (p :: r) = match wordsOf (cutRem p) with
    | none => .inr n
    | some ws => match goL (n + 1) r with
      | .inr k => .inr k
      | .inl l => .inl (if ws = [] then l else (n, ws) :: l) := by
  rw [goL]
theorem goL_app (a b : List By) (n : Nat) : goL n (a ++ b) = match goL n a with
    | .inr k => .inr k
    | .inl l => match goL (n + a.length) b with
      | .inr k => .inr k
      | .inl m => .inl (l ++ m) := by
  induction a generalizing n with
  | nil =>
    simp only [List.nil_append, goL, List.length_nil, Nat.add_zero]
    cases goL n b <;> rfl
  | cons p r ih =>
    rw [List.cons_append, goL_cons n p (r ++ b), goL_cons n p r]
    cases wordsOf (cutRem p) with
    | none => rfl
    | some ws =>
      dsimp only
      rw [ih (n + 1)]
      cases goL (n + 1) r with
      | inr k => rfl
      | inl l =>
        dsimp only
        have e : n + 1 + r.length = n + (p :: r).length := by simp; omega
        rw [e]
        cases goL (n + (p :: r).length) b with
        | inr k => rfl
        | inl m =>
          dsimp only
          split <;> rfl
def shiftL (k : Nat) (l : List Ln) : List Ln := l.map fun x => (x.1 + k, x.2)
theorem goL_shift (a : List By) (n k : Nat) : goL (n + k) a = match goL n a with
    | .inr j => .inr (j + k)
    | .inl l => .inl (shiftL k l) := by
  induction a generalizing n with
  | nil => rfl
  | cons p r ih =>
    rw [goL_cons (n + k) p r, goL_cons n p r]
    cases wordsOf (cutRem p) with
    | none => rfl
    | some ws =>
      dsimp only
      have e : n + k + 1 = n + 1 + k := by omega
      rw [e, ih (n + 1)]
      cases goL (n + 1) r with
      | inr j => rfl
      | inl l =>
        dsimp only
        split
        · rfl
        · rfl
theorem goL_err {a : List By} {n k : Nat} (h : goL n a = .inr k) : n ≤ k ∧ k < n + a.length := by
  induction a generalizing n with
  | nil => simp [goL] at h
  | cons p r ih =>
    rw [goL_cons] at h
    cases hw : wordsOf (cutRem p) with
    | none =>
      rw [hw] at h
      have : n = k := by simpa using h
      subst this
      simp
    | some ws =>
      rw [hw] at h
      dsimp only at h
      cases hg : goL (n + 1) r with
      | inr j =>
        rw [hg] at h
        have : j = k := by simpa using h
        subst this
        have := ih hg
        simp
        omega
      | inl l =>
        rw [hg] at h
        simp at h
/-- the numbers rise from n on, and are less than what there are lines; each line has words, which have bytes -/
theorem fl_ne {l : List By} {w : By} (h : ∀ x ∈ l, x ≠ []) : ∀ x ∈ fl l w, x ≠ [] := by
  unfold fl
  split
  · exact h
  · intro x hx
    rcases List.mem_append.1 hx with hx | hx
    · exact h x hx
    · have : x = w := by simpa using hx
      subst this
      assumption
theorem stp_ne {x : List By × By × Bool} {c : UInt8} (h : ∀ y ∈ x.1, y ≠ []) : ∀ y ∈ (stp x c).1, y ≠ [] := by
  unfold stp
  split
  · exact fl_ne h
  · exact h
theorem fold_ne : ∀ (p : By) (x : List By × By × Bool), (∀ y ∈ x.1, y ≠ []) → ∀ y ∈ (p.foldl stp x).1, y ≠ []
  | [], _, h => h
  | c :: r, x, h => fold_ne r (stp x c) (stp_ne h)
theorem run1_ne (p : By) : ∀ x ∈ (run1 p).1, x ≠ [] := fold_ne p _ (fun x hx => by cases hx)
theorem wordsOf_ne {p : By} {ws : List By} (h : wordsOf p = some ws) : ∀ x ∈ ws, x ≠ [] := by
  unfold wordsOf at h
  split at h
  · cases h
  · have : fl (run1 p).1 (run1 p).2.1 = ws := by simpa using h
    subst this
    exact fl_ne (run1_ne p)
structure Rise (n m : Nat) (l : List Ln) : Prop where
  p : l.Pairwise (fun x y => x.1 < y.1)
  b : ∀ x ∈ l, n ≤ x.1 ∧ x.1 < m ∧ x.2 ≠ [] ∧ ∀ w ∈ x.2, w ≠ []
theorem goL_rise {a : List By} {n : Nat} {l : List Ln} (h : goL n a = .inl l) : Rise n (n + a.length) l := by
  induction a generalizing n l with
  | nil =>
    have : l = [] := by simpa [goL] using h.symm
    subst this
    exact ⟨List.Pairwise.nil, fun x hx => by cases hx⟩
  | cons p r ih =>
    rw [goL_cons] at h
    cases hw : wordsOf (cutRem p) with
    | none => rw [hw] at h; cases h
    | some ws =>
      rw [hw] at h
      dsimp only at h
      cases hg : goL (n + 1) r with
      | inr j => rw [hg] at h; cases h
      | inl m =>
        rw [hg] at h
        have hR := ih hg
        have hlen : n + 1 + r.length = n + (p :: r).length := by simp; omega
        rw [hlen] at hR
        dsimp only at h
        by_cases he : ws = []
        · rw [if_pos he] at h
          have : m = l := by simpa using h
          subst this
          exact ⟨hR.p, fun x hx => by
            obtain ⟨h1, h2⟩ := hR.b x hx
            exact ⟨by omega, h2⟩⟩
        · rw [if_neg he] at h
          have : (n, ws) :: m = l := by simpa using h
          subst this
          refine ⟨List.pairwise_cons.2 ⟨fun x hx => ?_, hR.p⟩, fun x hx => ?_⟩
          · have := (hR.b x hx).1
            dsimp only
            omega
          · rcases List.mem_cons.1 hx with rfl | hx
            · exact ⟨Nat.le_refl _, by simp, he, wordsOf_ne hw⟩
            · obtain ⟨h1, h2⟩ := hR.b x hx
              exact ⟨by omega, h2⟩
end Go.Proofs.YtejfienogljboaaDoor
