/- What strings.Split and strings.Cut cut, in these terms. -/
import Derived.Test.YtejfienogljboaaDoorLineB
import Derived.Lib.SplitLaws
namespace Go.Proofs.YtejfienogljboaaDoor
open Go

theorem index_hit (c : UInt8) (l : By) : Lib.index (c :: l) [c] = 0 := by
  rw [Lib.index]
  simp [List.isPrefixOf]
theorem index_off {b c : UInt8} (l : By) (h : b ≠ c) : Lib.index (b :: l) [c] = if Lib.index l [c] == -1 then -1 else Lib.index l [c] + 1 := by
  rw [Lib.index]
  have : ([c] : By).isPrefixOf (b :: l) = false := by simp [List.isPrefixOf, Ne.symm h]
  rw [this]
  rfl
theorem splitK_nl (l : By) : Lib.splitK [10] 0 (l.count 10) l = splitNL l := by
  induction l with
  | nil => rfl
  | cons b r ih =>
    by_cases hb : b = 10
    · subst hb
      rw [List.count_cons_self, Lib.splitK, index_hit]
      simp only [splitNL]
      have : ((0 : Int) == -1) = false := by decide
      rw [this]
      simp only [Bool.false_eq_true, if_false]
      show _ :: Lib.splitK [10] 0 (r.count 10) r = _
      rw [ih]
      simp
    · rw [List.count_cons_of_ne hb]
      have hc : (b == 10) = false := by simpa using hb
      have e2 : splitNL (b :: r) = match splitNL r with
        | [] => [[b]]
        | p :: q => (b :: p) :: q := by simp [splitNL, hc]; rfl
      rw [e2, ← ih]
      cases hk : r.count 10 with
      | zero => rfl
      | succ k =>
        have hne : ¬ Lib.index r [10] = -1 := fun e => by
          have h1 := Lib.count_miss e
          rw [Lib.count_one] at h1
          omega
        have hge := Lib.index_ge r [10]
        obtain ⟨i, hi⟩ : ∃ i : Nat, Lib.index r [10] = i := ⟨(Lib.index r [10]).toNat, by omega⟩
        have h1 : ((i : Int) == -1) = false := by rw [beq_eq_false_iff_ne]; omega
        have h2 : ((i : Int) + 1 == -1) = false := by rw [beq_eq_false_iff_ne]; omega
        rw [Lib.splitK, Lib.splitK, index_off r hb, hi, h1]
        simp only [Bool.false_eq_true, if_false]
        rw [h2]
        simp only [Bool.false_eq_true, if_false]
        have t1 : ((i : Int) + 1).toNat = i + 1 := by omega
        have t2 : (i : Int).toNat = i := by omega
        rw [t1, t2]
        show List.take (i + 1) (b :: r) :: Lib.splitK [10] 0 k (List.drop (i + 1 + 1) (b :: r)) = (b :: List.take i r) :: Lib.splitK [10] 0 k (List.drop (i + 1) r)
        rfl
theorem cut_rem (l : By) : (Lib.cut l [59]).1 = cutRem l := by
  have key : ∀ l : By, (if 0 ≤ Lib.index l [59] then l.take (Lib.index l [59]).toNat else l) = cutRem l := by
    intro l
    induction l with
    | nil => rfl
    | cons b r ih =>
      rw [cutRem_cons]
      by_cases hb : b = 59
      · subst hb
        rw [index_hit]
        simp
      · rw [if_neg hb, index_off r hb, ← ih]
        have hge := Lib.index_ge r [59]
        by_cases h : Lib.index r [59] = -1
        · rw [h]
          simp
        · have h1 : (Lib.index r [59] == -1) = false := by simpa using h
          rw [h1]
          simp only [Bool.false_eq_true, if_false]
          rw [if_pos (by omega), if_pos (by omega)]
          have : (Lib.index r [59] + 1).toNat = (Lib.index r [59]).toNat + 1 := by omega
          rw [this]
          rfl
  rw [← key]
  unfold Lib.cut
  split <;> rfl
def nlB : ByteArray := ⟨#[10]⟩
/-- the texts that strings.Split hands back at a line feed -/
def pieces (s : ByteArray) : List ByteArray := Lib.splitB nlB 0 (Lib.countB s nlB) s
theorem countB_nl (s : ByteArray) : Lib.countB s nlB = s.data.toList.count 10 := Lib.count_one 10 s.data.toList
theorem pieces_data (s : ByteArray) : (pieces s).map (·.data.toList) = splitNL s.data.toList := by
  unfold pieces
  rw [Lib.splitB_data, countB_nl]
  exact splitK_nl _
theorem pieces_len (s : ByteArray) : (pieces s).length = s.data.toList.count 10 + 1 := by
  have := congrArg List.length (pieces_data s)
  rw [List.length_map, splitNL_len] at this
  exact this
end Go.Proofs.YtejfienogljboaaDoor
