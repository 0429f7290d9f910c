/- How long lines are that are written again. -/
import Derived.Test.YtejfienogljboaaDoorLinL
namespace Go.Proofs.YtejfienogljboaaDoor

def jm (l : List By) (w : By) : Nat := (joinW l).length + min 1 l.length + w.length
theorem join_jm (l : List By) (w : By) : (joinW (l ++ [w])).length = jm l w := by
  unfold jm
  by_cases h : l = []
  · subst h; simp [joinW]
  · rw [joinW_snoc _ h]
    have := List.length_pos_iff.2 h
    simp only [List.length_append, List.length_cons]
    omega
theorem fl_jm (l : List By) (w : By) : jm (fl l w) [] ≤ jm l w + 1 ∧ (joinW (fl l w)).length ≤ jm l w := by
  by_cases h : w = []
  · subst h
    rw [fl_nil]
    exact ⟨Nat.le_succ _, by unfold jm; omega⟩
  · rw [fl_cons _ h]
    have := join_jm l w
    refine ⟨?_, by omega⟩
    unfold jm at this ⊢
    simp only [List.length_append, List.length_cons, List.length_nil] at *
    omega
theorem stp_jm (x : List By × By × Bool) (c : UInt8) : jm (stp x c).1 (stp x c).2.1 ≤ jm x.1 x.2.1 + 1 := by
  unfold stp
  split
  · exact (fl_jm _ _).1
  · unfold jm; simp; omega
theorem fold_jm : ∀ (p : By) (x : List By × By × Bool), jm (p.foldl stp x).1 (p.foldl stp x).2.1 ≤ jm x.1 x.2.1 + p.length
  | [], x => by simp
  | c :: p, x => by
    have h := fold_jm p (stp x c)
    have h2 := stp_jm x c
    rw [List.foldl_cons, List.length_cons]
    omega
theorem words_jl {p : By} {ws : List By} (h : wordsOf p = some ws) : (joinW ws).length ≤ p.length := by
  unfold wordsOf at h
  split at h
  · cases h
  · cases h
    have h1 := (fl_jm (run1 p).1 (run1 p).2.1).2
    have h2 := fold_jm p ([], [], false)
    have h3 : jm ([] : List By) [] = 0 := rfl
    unfold run1 at h1 ⊢
    dsimp only at h2
    omega
theorem joinL_cons (x : Ln) (r : List Ln) : joinL (x :: r) = joinW x.2 ++ [10] ++ joinL r := by simp [joinL]
theorem goL_jl : ∀ (a : List By) (n : Nat) (l : List Ln), goL n a = .inl l → (joinL l).length ≤ (a.map List.length).sum + a.length
  | [], n, l, h => by cases h; simp [joinL]
  | p :: r, n, l, h => by
    rw [goL_cons] at h
    cases hw : wordsOf (cutRem p) with
    | none => rw [hw] at h; cases h
    | some ws =>
      rw [hw] at h
      dsimp only at h
      cases hg : goL (n + 1) r with
      | inr k => rw [hg] at h; cases h
      | inl l2 =>
        rw [hg] at h
        have ih := goL_jl r (n + 1) l2 hg
        have h1 := words_jl hw
        have h2 := cutRem_len p
        have : l = if ws = [] then l2 else (n, ws) :: l2 := by cases h; rfl
        subst this
        simp only [List.map_cons, List.sum_cons, List.length_cons]
        split
        · omega
        · rw [joinL_cons]
          simp only [List.length_append, List.length_cons, List.length_nil]
          omega
theorem splitNL_sum : ∀ (s : By), ((splitNL s).map List.length).sum + (splitNL s).length = s.length + 1
  | [] => rfl
  | c :: r => by
    have ih := splitNL_sum r
    unfold splitNL
    split
    · simp only [List.map_cons, List.sum_cons, List.length_cons, List.length_nil]; omega
    · split
      · rename_i e; exact absurd e (splitNL_ne r)
      · rename_i p q e
        rw [e] at ih
        simp only [List.map_cons, List.sum_cons, List.length_cons] at ih ⊢
        omega
theorem lines_jl {s : By} {l : List Ln} (h : linesOf s = .inl l) : (joinL l).length ≤ s.length + 1 := by
  have h1 := goL_jl _ _ _ h
  have h2 := splitNL_sum s
  omega
theorem joinI_mem {l : List LnI} {x : LnI} (h : x ∈ l) : (joinW x.2).length + 1 ≤ (joinI l).length := by
  obtain ⟨a, b, rfl⟩ := List.append_of_mem h
  rw [joinI_app, joinI_cons]
  simp only [List.length_append, List.length_cons, List.length_nil]
  omega
/-- what a text's lines are bounded by -/
structure Bnd (l : List LnI) : Prop where
  n : l.length ≤ 4194305
  w : ∀ x ∈ l, x.2.length ≤ 4194304
  j : (joinI l).length ≤ 4194305
theorem bnd {l : List LnI} (h : (joinI l).length ≤ 4194305) (hw : ∀ x ∈ l, x.2.length ≤ 4194304) : Bnd l := ⟨Nat.le_trans (joinI_ge l) h, hw, h⟩
theorem goL_words : ∀ (a : List By) (n : Nat) (l : List Ln), goL n a = .inl l → ∀ x ∈ l, ∃ p ∈ a, x.2.length ≤ p.length
  | [], n, l, h, x, hx => by cases h; cases hx
  | p :: r, n, l, h, x, hx => by
    rw [goL_cons] at h
    cases hw : wordsOf (cutRem p) with
    | none => rw [hw] at h; cases h
    | some ws =>
      rw [hw] at h
      dsimp only at h
      cases hg : goL (n + 1) r with
      | inr k => rw [hg] at h; cases h
      | inl l2 =>
        rw [hg] at h
        have : l = if ws = [] then l2 else (n, ws) :: l2 := by cases h; rfl
        subst this
        have ih := goL_words r (n + 1) l2 hg
        split at hx
        · obtain ⟨q, hq, hl⟩ := ih x hx
          exact ⟨q, by simp [hq], hl⟩
        · rcases List.mem_cons.1 hx with rfl | hx
          · exact ⟨p, by simp, Nat.le_trans (words_len hw) (cutRem_len p)⟩
          · obtain ⟨q, hq, hl⟩ := ih x hx
            exact ⟨q, by simp [hq], hl⟩
theorem lines_bnd {s : ByteArray} (hs : s.size ≤ 4194304) {l : List Ln} (h : linesOf s.data.toList = .inl l) : Bnd (ints l) := by
  have e : s.data.toList.length = s.size := by simp
  have h1 := lines_jl h
  refine bnd (by rw [joinI_ints]; omega) fun x hx => ?_
  obtain ⟨y, hy, rfl⟩ := List.mem_map.1 hx
  obtain ⟨p, hp, hl⟩ := goL_words _ _ _ h y hy
  have := splitNL_mem _ p hp
  dsimp only
  omega
end Go.Proofs.YtejfienogljboaaDoor
