/- The plain law of folding: of right arguments the rules' first answer is the document's. -/
import Derived.Test.YtiheecgabfcigaaFoldR
namespace Go.Proofs.Ytiheecgabfcigaa
open Go.RowKit Num Flo

/-- what a right argument is, as far as folding looks: whole numbers, floats and null bear no text; variables no number -/
def RightA (K : Int) (s : ByteArray) (n : Int) : Prop := (K = 1 ∧ n = 0) ∨ (K ≠ 1 ∧ s = .empty)
def Fold2 (op K : Int) (s : ByteArray) (n K2 : Int) (s2 : ByteArray) (n2 : Int) : Int × ByteArray × Int × Bool :=
  if (decide (1 ≤ op) && decide (op ≤ 21) || op == 28) = true then instr2V op K s n K2 s2 n2 else (0, .empty, 0, false)
/-- alike, where it is folded at all -/
def AlikeR (x y : Int × ByteArray × Int × Bool) : Prop := x.2.2.2 = y.2.2.2 ∧ (x.2.2.2 = true → x = y)

theorem eqN_right {K : Int} {s : ByteArray} {n m : Int} (h : RightA K s n) : eqN K s n m = (K == 2 && n == m) := by
  unfold eqN sameV
  rcases h with ⟨rfl, rfl⟩ | ⟨_, rfl⟩
  · rfl
  · simp
theorem eqF_right {K : Int} {s : ByteArray} {n m : Int} (h : RightA K s n) : eqF K s n m = (K == 3 && n == m) := by
  unfold eqF sameV
  rcases h with ⟨rfl, rfl⟩ | ⟨_, rfl⟩
  · rfl
  · simp

/-- the first rule that applies, as a chain -/
theorem instr2_chain (op K : Int) (s : ByteArray) (n K2 : Int) (s2 : ByteArray) (n2 : Int) : instr2V op K s n K2 s2 n2 =
    if (ruleV op K s n K2 s2 n2 0).2.2.2 = true then ruleV op K s n K2 s2 n2 0
    else if (ruleV op K s n K2 s2 n2 1).2.2.2 = true then ruleV op K s n K2 s2 n2 1
    else if (ruleV op K s n K2 s2 n2 2).2.2.2 = true then ruleV op K s n K2 s2 n2 2
    else if (ruleV op K s n K2 s2 n2 3).2.2.2 = true then ruleV op K s n K2 s2 n2 3
    else if (ruleV op K s n K2 s2 n2 4).2.2.2 = true then ruleV op K s n K2 s2 n2 4
    else (0, .empty, 0, false) := by
  unfold instr2V
  have hr : List.range 5 = [0, 1, 2, 3, 4] := rfl
  rw [hr]
  simp only [List.find?_cons, List.find?_nil]
  cases (ruleV op K s n K2 s2 n2 0).2.2.2 <;> cases (ruleV op K s n K2 s2 n2 1).2.2.2 <;> cases (ruleV op K s n K2 s2 n2 2).2.2.2 <;> cases (ruleV op K s n K2 s2 n2 3).2.2.2 <;> cases (ruleV op K s n K2 s2 n2 4).2.2.2 <;> rfl

theorem and63 (n2 : Int) : (bits .and .i64 n2 63 == 0) = ((IntKind.u64.wrap n2).tmod 64 == 0) := by
  rw [and_63]
  have hw : IntKind.u64.wrap n2 = n2 % 18446744073709551616 := by simp [IntKind.wrap, IntKind.signed, IntKind.bits]
  have : (IntKind.u64.wrap n2).tmod 64 = ((sh n2 : Nat) : Int) := by
    rw [hw, Int.tmod_eq_emod_of_nonneg (by omega)]
    unfold sh
    omega
  rw [this]

/-- the rules behind the first -/
def chain4 (op K : Int) (s : ByteArray) (n K2 : Int) (s2 : ByteArray) (n2 : Int) : Int × ByteArray × Int × Bool :=
  if noughtV op K n K2 n2 = true then (2, .empty, 0, true)
  else if (neutralV op K s n K2 s2 n2).2.2.2 = true then neutralV op K s n K2 s2 n2
  else if (oneV op K s n K2 s2 n2).2.2.2 = true then oneV op K s n K2 s2 n2
  else if (op == 28 && K == 4 && K2 == 4) = true then (2, .empty, 1, true)
  else (0, .empty, 0, false)
theorem oneV_of (op K : Int) (s : ByteArray) (n K2 : Int) (s2 : ByteArray) (n2 : Int) : oneV op K s n K2 s2 n2 =
    if oneB K s n K2 s2 n2 = true then
      if op = 2 ∨ op = 8 ∨ op = 12 ∨ op = 13 ∨ op = 20 then (2, .empty, 0, true)
      else if op = 6 ∨ op = 7 then (K, s, n, true)
      else if op = 11 ∨ op = 14 ∨ op = 28 then (2, .empty, 1, true)
      else (0, .empty, 0, false)
    else (0, .empty, 0, false) := rfl
theorem one_kinds {K : Int} {s : ByteArray} {n K2 : Int} {s2 : ByteArray} {n2 : Int} (h : oneB K s n K2 s2 n2 = true) : K = 1 ∧ K2 = 1 := by
  simp [oneB, sameV] at h
  omega
theorem swV_none {op K : Int} {s : ByteArray} {n K2 : Int} {s2 : ByteArray} {n2 : Int} (h : op < 1 ∨ op = 19 ∨ (20 < op ∧ op ≠ 28)) : swV op K s n K2 s2 n2 = (0, .empty, 0, false) := by
  unfold swV
  repeat rw [if_neg (by omega)]

set_option maxHeartbeats 4000000 in
theorem chain4_ref (op K : Int) (s : ByteArray) (n K2 : Int) (s2 : ByteArray) (n2 : Int) (h1 : RightA K s n) (h2 : RightA K2 s2 n2) (hop : (1 ≤ op ∧ op ≤ 21) ∨ op = 28) : AlikeR (chain4 op K s n K2 s2 n2) (swV op K s n K2 s2 n2) := by
  have hops : op = 1 ∨ op = 2 ∨ op = 3 ∨ op = 4 ∨ op = 5 ∨ op = 6 ∨ op = 7 ∨ op = 8 ∨ op = 9 ∨ op = 10 ∨ op = 11 ∨ op = 12 ∨ op = 13 ∨ op = 14 ∨ op = 15 ∨ op = 16 ∨ op = 17 ∨ op = 18 ∨ op = 19 ∨ op = 20 ∨ op = 21 ∨ op = 28 := by omega
  unfold chain4
  rw [oneV_of]
  by_cases ho : oneB K s n K2 s2 n2 = true
  · obtain ⟨rfl, rfl⟩ := one_kinds ho
    rcases hops with rfl | rfl | rfl | rfl | rfl | rfl | rfl | rfl | rfl | rfl | rfl | rfl | rfl | rfl | rfl | rfl | rfl | rfl | rfl | rfl | rfl | rfl <;>
      simp [AlikeR, noughtV, neutralV, pickV, swV, eitherV, eqN_right h1, eqN_right h2, eqF_right h1, eqF_right h2, ho]
  · have ho : oneB K s n K2 s2 n2 = false := by simpa using ho
    rcases hops with rfl | rfl | rfl | rfl | rfl | rfl | rfl | rfl | rfl | rfl | rfl | rfl | rfl | rfl | rfl | rfl | rfl | rfl | rfl | rfl | rfl | rfl
    all_goals simp [noughtV, neutralV, pickV, swV, eitherV, eqN_right h1, eqN_right h2, eqF_right h1, eqF_right h2, ho, and63]
    all_goals (repeat' split)
    all_goals (simp_all [AlikeR]; done)

theorem chain_rest {op K : Int} {s : ByteArray} {n K2 : Int} {s2 : ByteArray} {n2 : Int} (h : (ruleV op K s n K2 s2 n2 0).2.2.2 = false) : instr2V op K s n K2 s2 n2 = chain4 op K s n K2 s2 n2 := by
  rw [instr2_chain, if_neg (by rw [h]; decide)]
  unfold chain4
  simp only [ruleV]
  cases hn : noughtV op K n K2 n2 with
  | true => rfl
  | false =>
    simp only [Bool.false_eq_true, if_false]
    cases hm : (neutralV op K s n K2 s2 n2).2.2.2 with
    | true => rfl
    | false =>
      simp only [Bool.false_eq_true, if_false]
      cases ho : (oneV op K s n K2 s2 n2).2.2.2 with
      | true => rfl
      | false =>
        simp only [Bool.false_eq_true, if_false]
        cases hx : (op == 28 && K == 4 && K2 == 4) with
        | true => rfl
        | false => rfl

theorem doV_ok {op a b : Int} (h1 : 15 ≤ op) (h2 : op ≤ 21) : (doV op a b).2 = true := by
  have : op = 15 ∨ op = 16 ∨ op = 17 ∨ op = 18 ∨ op = 19 ∨ op = 20 ∨ op = 21 := by omega
  rcases this with rfl | rfl | rfl | rfl | rfl | rfl | rfl <;> rfl

theorem fold2_ref (op K : Int) (s : ByteArray) (n K2 : Int) (s2 : ByteArray) (n2 : Int) (h1 : RightA K s n) (h2 : RightA K2 s2 n2) : AlikeR (Fold2 op K s n K2 s2 n2) (refV op K s n K2 s2 n2) := by
  by_cases hop : (1 ≤ op ∧ op ≤ 21) ∨ op = 28
  · have hd : (decide (1 ≤ op) && decide (op ≤ 21) || op == 28) = true := by
      rcases hop with ⟨a, b⟩ | rfl
      · simp [a, b]
      · rfl
    unfold Fold2
    rw [if_pos hd]
    by_cases hA : K = 2 ∧ K2 = 2 ∧ (doN op n n2).2 = true
    · have hr : 1 ≤ op ∧ op ≤ 14 := by
        refine ⟨by omega, ?_⟩
        by_cases h : op ≤ 14
        · exact h
        · have := hA.2.2
          rw [doN_out (by omega)] at this
          cases this
      have h0 : ruleV op K s n K2 s2 n2 0 = (2, .empty, (doN op n n2).1, true) := by
        obtain ⟨rfl, rfl, hok⟩ := hA
        simp [ruleV, reckonedV, hr.1, hr.2, hok]
      rw [instr2_hit (by decide) h0 (fun m hm => absurd hm (Nat.not_lt_zero m))]
      unfold refV
      rw [if_pos hA]
      exact ⟨rfl, fun _ => rfl⟩
    by_cases hB : K = 3 ∧ K2 = 3 ∧ (doV op n n2).2 = true
    · have hr : 15 ≤ op ∧ op ≤ 21 := by
        have := hB.2.2
        by_cases h : op < 15 ∨ 21 < op
        · rw [doV_out h] at this
          cases this
        · omega
      have h0 : ruleV op K s n K2 s2 n2 0 = (if op ≤ 18 then 3 else 2, .empty, (doV op n n2).1, true) := by
        obtain ⟨rfl, rfl, hok⟩ := hB
        have : ¬ op ≤ 14 := by omega
        simp [ruleV, reckonedV, hr.1, hr.2, this]
      rw [instr2_hit (by decide) h0 (fun m hm => absurd hm (Nat.not_lt_zero m))]
      unfold refV
      rw [if_neg hA, if_pos hB]
      exact ⟨rfl, fun _ => rfl⟩
    have h0 : (ruleV op K s n K2 s2 n2 0).2.2.2 = false := by
      show (reckonedV op K n K2 n2).2.2 = false
      unfold reckonedV
      split
      · rename_i hc
        simp only [Bool.and_eq_true, decide_eq_true_eq, beq_iff_eq] at hc
        cases hd2 : (doN op n n2).2 with
        | false => rfl
        | true => exact absurd ⟨hc.1.2, hc.2, hd2⟩ hA
      · split
        · rename_i hc
          simp only [Bool.and_eq_true, decide_eq_true_eq, beq_iff_eq] at hc
          exact absurd ⟨hc.1.2, hc.2, doV_ok hc.1.1.1 hc.1.1.2⟩ hB
        · rfl
    rw [chain_rest h0]
    unfold refV
    rw [if_neg hA, if_neg hB]
    exact chain4_ref op K s n K2 s2 n2 h1 h2 hop
  · have hd : (decide (1 ≤ op) && decide (op ≤ 21) || op == 28) = false := by
      simp only [not_or, not_and] at hop
      simp
      omega
    unfold Fold2 refV
    rw [if_neg (by rw [hd]; decide), doN_out (by omega), doV_out (by omega), if_neg (fun h => Bool.noConfusion h.2.2), if_neg (fun h => Bool.noConfusion h.2.2), swV_none (by omega)]
    exact ⟨rfl, fun _ => rfl⟩
end Go.Proofs.Ytiheecgabfcigaa
