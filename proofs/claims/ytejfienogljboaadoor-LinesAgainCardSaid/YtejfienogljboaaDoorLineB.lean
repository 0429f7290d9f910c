/- Lines of words: what the laws say of them. -/
import Derived.Test.YtejfienogljboaaDoorLine
namespace Go.Proofs.YtejfienogljboaaDoor

theorem fl_nil (l : List By) : fl l [] = l := if_pos rfl
theorem fl_cons (l : List By) {w : By} (h : w ≠ []) : fl l w = l ++ [w] := if_neg h
/-- a byte of a word -/
def good (c : UInt8) : Prop := isBad c = false ∧ c ≠ 59
theorem good_bl {c : UInt8} (h : isBad c = false) : isBl c = false := by
  cases hb : isBl c with
  | false => rfl
  | true =>
    unfold isBl at hb
    simp only [Bool.or_eq_true, beq_iff_eq] at hb
    rcases hb with rfl | rfl <;> exact absurd h (by decide)
theorem fold_word : ∀ (w : By), (∀ c ∈ w, isBad c = false) → ∀ x, w.foldl stp x = (x.1, x.2.1 ++ w, x.2.2)
  | [], _, x => by simp
  | c :: r, h, x => by
    have hc := h c (by simp)
    rw [List.foldl_cons, fold_word r (fun y hy => h y (by simp [hy]))]
    simp [stp, good_bl hc, hc]
/-- the words of what is read -/
theorem fold_good : ∀ (p : By) (x : List By × By × Bool), (p.foldl stp x).2.2 = false → (∀ c ∈ p, c ≠ 59) → (∀ y ∈ x.1, ∀ c ∈ y, good c) → (∀ c ∈ x.2.1, good c) →
    x.2.2 = false ∧ (∀ y ∈ (p.foldl stp x).1, ∀ c ∈ y, good c) ∧ ∀ c ∈ (p.foldl stp x).2.1, good c
  | [], x, h, _, h1, h2 => ⟨h, h1, h2⟩
  | c :: r, x, h, h0, h1, h2 => by
    rw [List.foldl_cons] at h ⊢
    by_cases hb : isBl c = true
    · have e : stp x c = (fl x.1 x.2.1, [], x.2.2) := by simp [stp, hb]
      rw [e] at h ⊢
      refine fold_good r _ h (fun y hy => h0 y (by simp [hy])) ?_ (fun c hc => by cases hc)
      intro y hy
      unfold fl at hy
      split at hy
      · exact h1 y hy
      · rcases List.mem_append.1 hy with hy | hy
        · exact h1 y hy
        · have : y = x.2.1 := by simpa using hy
          rw [this]
          exact h2
    · have e : stp x c = (x.1, x.2.1 ++ [c], x.2.2 || isBad c) := by simp [stp, hb]
      rw [e] at h ⊢
      have hk : ∀ (p : By) (x : List By × By × Bool), (p.foldl stp x).2.2 = false → x.2.2 = false := by
        intro p
        induction p with
        | nil => intro x h; exact h
        | cons d q ih =>
          intro x h
          have := ih _ h
          unfold stp at this
          split at this
          · exact this
          · simp only [Bool.or_eq_false_iff] at this
            exact this.1
      have hx := hk r _ h
      simp only [Bool.or_eq_false_iff] at hx
      have hc : good c := ⟨hx.2, h0 c (by simp)⟩
      have := fold_good r (x.1, x.2.1 ++ [c], x.2.2 || isBad c) h (fun y hy => h0 y (by simp [hy])) h1 (fun d hd => by
        rcases List.mem_append.1 hd with hd | hd
        · exact h2 d hd
        · have : d = c := by simpa using hd
          rw [this]
          exact hc)
      exact ⟨hx.1, this.2⟩
theorem cutRem_no (p : By) : ∀ c ∈ cutRem p, c ≠ 59 := by
  induction p with
  | nil => intro c hc; cases hc
  | cons d r ih =>
    intro c hc
    unfold cutRem at hc
    rw [List.takeWhile_cons] at hc
    split at hc
    · rename_i hd
      rcases List.mem_cons.1 hc with rfl | hc
      · simpa using hd
      · exact ih c hc
    · cases hc
theorem words_good {p : By} {ws : List By} (h : wordsOf (cutRem p) = some ws) : ∀ w ∈ ws, w ≠ [] ∧ ∀ c ∈ w, good c := by
  have hne := wordsOf_ne h
  unfold wordsOf at h
  split at h
  · cases h
  · rename_i hb
    have hws : fl (run1 (cutRem p)).1 (run1 (cutRem p)).2.1 = ws := by simpa using h
    have := fold_good (cutRem p) ([], [], false) (by simpa [run1] using hb) (cutRem_no p) (fun y hy => by cases hy) (fun c hc => by cases hc)
    intro w hw
    refine ⟨hne w hw, ?_⟩
    rw [← hws] at hw
    unfold fl at hw
    split at hw
    · exact this.2.1 w hw
    · rcases List.mem_append.1 hw with hw | hw
      · exact this.2.1 w hw
      · have e : w = (run1 (cutRem p)).2.1 := by simpa using hw
        rw [e]
        exact this.2.2
def GoodL (l : List Ln) : Prop := ∀ x ∈ l, x.2 ≠ [] ∧ ∀ w ∈ x.2, w ≠ [] ∧ ∀ c ∈ w, good c
theorem goL_good {a : List By} {n : Nat} {l : List Ln} (h : goL n a = .inl l) : GoodL l := by
  induction a generalizing n l with
  | nil =>
    have : l = [] := by simpa [goL] using h.symm
    subst this
    intro x hx; cases hx
  | cons p r ih =>
    rw [goL_cons] at h
    cases hw : wordsOf (cutRem p) with
    | none => rw [hw] at h; cases h
    | some ws =>
      rw [hw] at h
      dsimp only at h
      cases hg : goL (n + 1) r with
      | inr j => rw [hg] at h; cases h
      | inl m =>
        rw [hg] at h
        dsimp only at h
        have hm := ih hg
        by_cases he : ws = []
        · rw [if_pos he] at h
          have : m = l := by simpa using h
          subst this
          exact hm
        · rw [if_neg he] at h
          have : (n, ws) :: m = l := by simpa using h
          subst this
          intro x hx
          rcases List.mem_cons.1 hx with rfl | hx
          · exact ⟨he, words_good hw⟩
          · exact hm x hx

/-! written, and read again -/
def joinW : List By → By
  | [] => []
  | [w] => w
  | w :: v :: r => w ++ 32 :: joinW (v :: r)
def joinL (l : List Ln) : By := l.flatMap fun x => joinW x.2 ++ [10]
theorem joinW_cons {w : By} {r : List By} (h : r ≠ []) : joinW (w :: r) = w ++ 32 :: joinW r := by
  cases r with
  | nil => exact absurd rfl h
  | cons v r => rfl
theorem joinW_good {ws : List By} (h : ∀ w ∈ ws, ∀ c ∈ w, good c) : ∀ c ∈ joinW ws, c = 32 ∨ good c := by
  induction ws with
  | nil => intro c hc; cases hc
  | cons w r ih =>
    intro c hc
    by_cases hr : r = []
    · subst hr
      exact .inr (h w (by simp) c hc)
    · rw [joinW_cons hr] at hc
      rcases List.mem_append.1 hc with hc | hc
      · exact .inr (h w (by simp) c hc)
      · rcases List.mem_cons.1 hc with rfl | hc
        · exact .inl rfl
        · exact ih (fun v hv => h v (by simp [hv])) c hc
theorem fold_join : ∀ (ws : List By) (x : List By), ws ≠ [] → (∀ w ∈ ws, w ≠ [] ∧ ∀ c ∈ w, good c) → ∃ l w, (joinW ws).foldl stp (x, [], false) = (l, w, false) ∧ fl l w = x ++ ws
  | [], _, h, _ => absurd rfl h
  | w :: r, x, _, h => by
    have hw := h w (by simp)
    by_cases hr : r = []
    · subst hr
      refine ⟨x, w, ?_, fl_cons x hw.1⟩
      show w.foldl stp _ = _
      rw [fold_word w fun c hc => (hw.2 c hc).1]
      simp
    · rw [joinW_cons hr, List.foldl_append, fold_word w fun c hc => (hw.2 c hc).1, List.foldl_cons]
      have e : stp (x, [] ++ w, false) 32 = (x ++ [w], [], false) := by
        simp [stp, isBl, fl, hw.1]
      rw [e]
      obtain ⟨l, v, h1, h2⟩ := fold_join r (x ++ [w]) hr (fun v hv => h v (by simp [hv]))
      exact ⟨l, v, h1, by rw [h2]; simp⟩
theorem cutRem_id {p : By} (h : ∀ c ∈ p, c ≠ 59) : cutRem p = p := by
  induction p with
  | nil => rfl
  | cons c r ih =>
    have hc : (c != 59) = true := by simpa using h c (by simp)
    have ih := ih fun x hx => h x (by simp [hx])
    unfold cutRem at ih ⊢
    rw [List.takeWhile_cons, if_pos hc, ih]
theorem words_join {ws : List By} (h0 : ws ≠ []) (h : ∀ w ∈ ws, w ≠ [] ∧ ∀ c ∈ w, good c) : wordsOf (cutRem (joinW ws)) = some ws := by
  have hg := joinW_good fun w hw => (h w hw).2
  rw [cutRem_id fun c hc => by
    rcases hg c hc with rfl | hg
    · decide
    · exact hg.2]
  obtain ⟨l, w, h1, h2⟩ := fold_join ws [] h0 h
  unfold wordsOf run1
  rw [h1]
  simpa using h2
def wo (l : List Ln) : List (List By) := l.map (·.2)
theorem wo_shift (k : Nat) (l : List Ln) : wo (shiftL k l) = wo l := by simp [wo, shiftL]
theorem join_nl (l : List Ln) (h : GoodL l) : splitNL (joinL l) = l.map (fun x => joinW x.2) ++ [[]] := by
  induction l with
  | nil => rfl
  | cons x r ih =>
    have e : joinL (x :: r) = joinW x.2 ++ 10 :: joinL r := by simp [joinL]
    rw [e, splitNL_nl, ih fun y hy => h y (by simp [hy]), splitNL_no fun c hc => by
      rcases joinW_good (fun w hw => ((h x (by simp)).2 w hw).2) c hc with rfl | hg
      · decide
      · intro e; subst e; exact absurd hg.1 (by decide)]
    rfl
theorem again1 {l : List Ln} (h : GoodL l) (n : Nat) : ∃ m, goL n (l.map (fun x => joinW x.2) ++ [[]]) = .inl m ∧ wo m = wo l := by
  induction l generalizing n with
  | nil => exact ⟨[], rfl, rfl⟩
  | cons x r ih =>
    obtain ⟨m, h1, h2⟩ := ih (fun y hy => h y (by simp [hy])) (n + 1)
    have hx := h x (by simp)
    refine ⟨(n, x.2) :: m, ?_, ?_⟩
    · rw [List.map_cons, List.cons_append, goL_cons, words_join hx.1 hx.2]
      dsimp only
      rw [h1]
      dsimp only
      rw [if_neg hx.1]
    · show x.2 :: wo m = x.2 :: wo r
      rw [h2]
theorem lines_join {s : By} {l : List Ln} (h : linesOf s = .inl l) : ∃ m, linesOf (joinL l) = .inl m ∧ wo m = wo l := by
  have hg := goL_good h
  unfold linesOf
  rw [join_nl l hg]
  exact again1 hg 1

/-! blanks, empty lines, remarks -/
def spread (s : By) : By := s.flatMap fun c => if c = 32 then [32, 9, 32] else [c]
theorem spread_cons (c : UInt8) (r : By) : spread (c :: r) = (if c = 32 then [32, 9, 32] else [c]) ++ spread r := by simp [spread]
theorem splitNL_spread (s : By) : splitNL (spread s) = (splitNL s).map spread := by
  induction s with
  | nil => rfl
  | cons c r ih =>
    rw [spread_cons]
    by_cases h32 : c = 32
    · subst h32
      rw [if_pos rfl]
      have e : ∀ (d : UInt8) (x : By), (d == 10) = false → splitNL (d :: x) = match splitNL x with
        | [] => [[d]]
        | p :: q => (d :: p) :: q := fun d x hd => by simp [splitNL, hd]; rfl
      have hne := splitNL_ne r
      match hr : splitNL r with
      | [] => exact absurd hr hne
      | p :: q =>
        rw [hr] at ih
        have ih : splitNL (spread r) = spread p :: q.map spread := ih
        show splitNL (32 :: 9 :: 32 :: spread r) = _
        rw [e 32 _ rfl, e 9 _ rfl, e 32 _ rfl, ih, e 32 r rfl, hr]
        simp [spread_cons]
    · rw [if_neg h32]
      by_cases h10 : c = 10
      · subst h10
        have e : ∀ x : By, splitNL (10 :: x) = [] :: splitNL x := fun x => by simp [splitNL]
        show splitNL (10 :: spread r) = _
        rw [e, e, ih]
        rfl
      · have hc : (c == 10) = false := by simpa using h10
        have hne := splitNL_ne r
        match hr : splitNL r with
        | [] => exact absurd hr hne
        | p :: q =>
          rw [hr] at ih
          show splitNL (c :: spread r) = _
          simp only [splitNL, hc, Bool.false_eq_true, if_false, ih, hr, List.map_cons]
          rw [spread_cons, if_neg h32]
          rfl
theorem cutRem_cons (c : UInt8) (r : By) : cutRem (c :: r) = if c = 59 then [] else c :: cutRem r := by
  unfold cutRem
  rw [List.takeWhile_cons]
  by_cases h : c = 59 <;> simp [h]
theorem cutRem_spread (p : By) : cutRem (spread p) = spread (cutRem p) := by
  induction p with
  | nil => rfl
  | cons c r ih =>
    rw [spread_cons, cutRem_cons]
    by_cases h32 : c = 32
    · subst h32
      rw [if_pos rfl, if_neg (by decide)]
      show cutRem (32 :: 9 :: 32 :: spread r) = _
      rw [cutRem_cons, if_neg (by decide), cutRem_cons, if_neg (by decide), cutRem_cons, if_neg (by decide), ih, spread_cons, if_pos rfl]
      rfl
    · rw [if_neg h32]
      show cutRem (c :: spread r) = _
      rw [cutRem_cons]
      by_cases h59 : c = 59
      · rw [if_pos h59, if_pos h59]; rfl
      · rw [if_neg h59, if_neg h59, ih, spread_cons, if_neg h32]
        rfl
theorem fold_spread : ∀ (p : By) (x : List By × By × Bool), (spread p).foldl stp x = p.foldl stp x
  | [], _ => rfl
  | c :: r, x => by
    rw [spread_cons, List.foldl_append, List.foldl_cons, fold_spread r]
    congr 1
    by_cases h32 : c = 32
    · subst h32
      simp [stp, isBl, fl_nil]
    · rw [if_neg h32]; rfl
theorem words_spread (p : By) : wordsOf (cutRem (spread p)) = wordsOf (cutRem p) := by
  rw [cutRem_spread]
  unfold wordsOf run1
  rw [fold_spread]
theorem goL_congr : ∀ (a : List By) (f : By → By) (n : Nat), (∀ p ∈ a, wordsOf (cutRem (f p)) = wordsOf (cutRem p)) → goL n (a.map f) = goL n a
  | [], _, _, _ => rfl
  | p :: r, f, n, h => by
    rw [List.map_cons, goL_cons, goL_cons, h p (by simp), goL_congr r f (n + 1) fun q hq => h q (by simp [hq])]
theorem lines_spread (s : By) (n : Nat) : goL n (splitNL (spread s)) = goL n (splitNL s) := by
  rw [splitNL_spread]
  exact goL_congr _ _ _ fun p _ => words_spread p
theorem cutRem_rem (b x : By) : cutRem (b ++ 59 :: x) = cutRem b := by
  induction b with
  | nil => rfl
  | cons c r ih =>
    rw [List.cons_append, cutRem_cons, cutRem_cons, ih]
theorem goL_last (a : List By) (b c : By) (n : Nat) (h : wordsOf (cutRem c) = wordsOf (cutRem b)) : goL n (a ++ [c]) = goL n (a ++ [b]) := by
  rw [goL_app, goL_app]
  cases goL n a with
  | inr k => rfl
  | inl l =>
    dsimp only
    rw [goL_cons, goL_cons, h]
theorem lines_rem (s x : By) (hx : ∀ c ∈ x, c ≠ 10) (n : Nat) : goL n (splitNL (s ++ 59 :: x)) = goL n (splitNL s) := by
  obtain ⟨a, b, h1, h2⟩ := splitNL_last s (59 :: x) (fun c hc => by
    rcases List.mem_cons.1 hc with rfl | hc
    · decide
    · exact hx c hc)
  rw [h1, h2]
  exact goL_last _ _ _ _ (by rw [cutRem_rem])
/-- a text with blanks, empty lines and a remark put in -/
theorem lines_again {s x : By} {l : List Ln} (h : linesOf s = .inl l) (hx : ∀ c ∈ x, c ≠ 10) : 
    (∃ m, linesOf ([10, 32, 9, 10] ++ spread s) = .inl m ∧ wo m = wo l) ∧ (∃ m, linesOf ([10, 32, 9, 10] ++ spread s ++ 59 :: x) = .inl m ∧ wo m = wo l) := by
  have key : ∀ y : By, goL 3 (splitNL y) = goL 3 (splitNL s) → ∃ m, linesOf ([10, 32, 9, 10] ++ y) = .inl m ∧ wo m = wo l := by
    intro y hy
    have e : splitNL ([10, 32, 9, 10] ++ y) = [] :: [32, 9] :: splitNL y := by
      show splitNL ([] ++ 10 :: ([32, 9] ++ 10 :: y)) = _
      rw [splitNL_nl, splitNL_nl]
      rfl
    have h3 : goL 3 (splitNL s) = .inl (shiftL 2 l) := by
      have := goL_shift (splitNL s) 1 2
      unfold linesOf at h
      rw [h] at this
      exact this
    refine ⟨shiftL 2 l, ?_, wo_shift 2 l⟩
    unfold linesOf
    rw [e, goL_cons, show wordsOf (cutRem []) = some [] from rfl]
    dsimp only
    rw [goL_cons, show wordsOf (cutRem [32, 9]) = some [] from rfl]
    dsimp only
    rw [hy, h3]
    rfl
  constructor
  · exact key _ (lines_spread s 3)
  · have := key (spread s ++ 59 :: x) (by rw [lines_rem _ _ hx, lines_spread])
    simpa using this
/-- two texts, a line feed between them -/
theorem lines_parts {s t : By} {l m : List Ln} (h1 : linesOf s = .inl l) (h2 : linesOf t = .inl m) : linesOf (s ++ 10 :: t) = .inl (l ++ shiftL (s.count 10 + 1) m) := by
  unfold linesOf at *
  rw [splitNL_nl, goL_app, h1]
  dsimp only
  have e : 1 + (splitNL s).length = 1 + (s.count 10 + 1) := by rw [splitNL_len]
  rw [e, goL_shift, h2]

/-! the reference's machine -/
structure RM where
  l : List By
  w : By
  rem : Bool
  bad : Bool
def rstp (x : RM) (c : UInt8) : RM :=
  if (x.rem || c == 59 || isBl c) = true then ⟨fl x.l x.w, [], x.rem || c == 59, x.bad⟩ else ⟨x.l, x.w ++ [c], x.rem, x.bad || isBad c⟩
def rrun (p : By) : RM := p.foldl rstp ⟨[], [], false, false⟩
theorem rrun_snoc (p : By) (c : UInt8) : rrun (p ++ [c]) = rstp (rrun p) c := by simp [rrun, List.foldl_append]
theorem rem_fold : ∀ (p : By) (l : List By) (b : Bool), p.foldl rstp ⟨l, [], true, b⟩ = ⟨l, [], true, b⟩
  | [], _, _ => rfl
  | c :: r, l, b => by
    rw [List.foldl_cons]
    have : rstp ⟨l, [], true, b⟩ c = ⟨l, [], true, b⟩ := by simp [rstp, fl_nil]
    rw [this]
    exact rem_fold r l b
theorem rm_fold : ∀ (p : By) (l : List By) (w : By) (b : Bool), fl (p.foldl rstp ⟨l, w, false, b⟩).l (p.foldl rstp ⟨l, w, false, b⟩).w = fl ((cutRem p).foldl stp (l, w, b)).1 ((cutRem p).foldl stp (l, w, b)).2.1 ∧ (p.foldl rstp ⟨l, w, false, b⟩).bad = ((cutRem p).foldl stp (l, w, b)).2.2
  | [], _, _, _ => ⟨rfl, rfl⟩
  | c :: r, l, w, b => by
    rw [cutRem_cons, List.foldl_cons]
    by_cases h59 : c = 59
    · subst h59
      have : rstp ⟨l, w, false, b⟩ 59 = ⟨fl l w, [], true, b⟩ := by simp [rstp]
      rw [this, rem_fold, if_pos rfl]
      exact ⟨fl_nil _, rfl⟩
    · rw [if_neg h59, List.foldl_cons]
      have h59' : (c == 59) = false := by simpa using h59
      by_cases hb : isBl c = true
      · have e1 : rstp ⟨l, w, false, b⟩ c = ⟨fl l w, [], false, b⟩ := by simp [rstp, hb, h59']
        have e2 : stp (l, w, b) c = (fl l w, [], b) := by simp [stp, hb]
        rw [e1, e2]
        exact rm_fold r _ _ _
      · have hb : isBl c = false := by simpa using hb
        have e1 : rstp ⟨l, w, false, b⟩ c = ⟨l, w ++ [c], false, b || isBad c⟩ := by simp [rstp, hb, h59']
        have e2 : stp (l, w, b) c = (l, w ++ [c], b || isBad c) := by simp [stp, hb]
        rw [e1, e2]
        exact rm_fold r _ _ _
/-- a line's end in the reference -/
theorem rm_words (p : By) : wordsOf (cutRem p) = if (rrun p).bad then none else some (fl (rrun p).l (rrun p).w) := by
  obtain ⟨h1, h2⟩ := rm_fold p [] [] false
  unfold wordsOf run1 rrun
  rw [h1, h2]
end Go.Proofs.YtejfienogljboaaDoor
