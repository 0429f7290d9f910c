/- The law of fitting types. -/
import Derived.Test.YtjohjpjpfglkkaaAwc
namespace Go.Proofs.Ytjohjpjpfglkkaa
open Go.RowKit

theorem fits_self (a : ByteArray) : fitsB a a = true := by unfold fitsB; simp
set_option maxHeartbeats 4000000 in
theorem typesFits_walk (a b : ByteArray) (_ : a.size ≤ 9223372036854775807) (_ : b.size ≤ 9223372036854775807) (w : World) :
    Calls Try.prog 6 #[.string a, .string b] w fun e w' => e = .returned (.bool true) ∧ Below w.heap.size w w' := by
  have hF := fits_val a b w
  have hA := awake_val w
  have hS := fun v => fits_val a a v
  rw [fits_self] at hS
  have hcase : (a = b ∧ fitsB a b = true) ∨ (a ≠ b ∧ fitsB a b = false) ∨ (a ≠ b ∧ fitsB a b = true ∧ a = nullS ∧ b ≠ intS ∧ b ≠ floatS) := by
    by_cases e : a = b
    · exact .inl ⟨e, by rw [e, fits_self]⟩
    · cases h : fitsB a b with
      | false => exact .inr (.inl ⟨e, rfl⟩)
      | true =>
        unfold fitsB isRf at h
        rw [decide_eq_false e, Bool.false_or] at h
        simp only [Bool.and_eq_true, decide_eq_true_eq] at h
        exact .inr (.inr ⟨e, rfl, h.1, h.2.1, h.2.2⟩)
  rcases hcase with ⟨e1, e2⟩ | ⟨e1, e2⟩ | ⟨e1, e2, e3, e4, e5⟩
  · have g1 := seq_t e1
    rw [e2] at hF
    clear e1 e2
    go_enter Try.func6, Try.ntmps6
    go_wp2_with fail
    refine hF.mono ?_
    rintro e w1 ⟨rfl, rfl⟩
    go_wp2_with fail
    refine hA.mono ?_
    rintro e w1 ⟨rfl, hb⟩
    go_wp2_with fail
    refine (hS _).mono ?_
    rintro e w2 ⟨rfl, rfl⟩
    go_wp2_with fail
    go_ret
    exact ⟨rfl, hb⟩
  · have g1 := seq_f e1
    rw [e2] at hF
    clear e1 e2
    go_enter Try.func6, Try.ntmps6
    go_wp2_with fail
    refine hF.mono ?_
    rintro e w1 ⟨rfl, rfl⟩
    go_wp2_with fail
    refine hA.mono ?_
    rintro e w1 ⟨rfl, hb⟩
    go_wp2_with fail
    refine (hS _).mono ?_
    rintro e w2 ⟨rfl, rfl⟩
    go_wp2_with fail
    go_ret
    exact ⟨rfl, hb⟩
  · have g1 := seq_f e1
    have g3 := lit_t (l := [110, 117, 108, 108]) e3
    have g4 := lit_f (l := [105, 110, 116]) e4
    have g5 := lit_f (l := [102, 108, 111, 97, 116]) e5
    rw [e2] at hF
    clear e1 e2 e3 e4 e5
    go_enter Try.func6, Try.ntmps6
    go_wp2_with fail
    refine hF.mono ?_
    rintro e w1 ⟨rfl, rfl⟩
    go_wp2_with fail
    refine hA.mono ?_
    rintro e w1 ⟨rfl, hb⟩
    go_wp2_with fail
    refine (hS _).mono ?_
    rintro e w2 ⟨rfl, rfl⟩
    go_wp2_with fail
    go_ret
    exact ⟨rfl, hb⟩
end Go.Proofs.Ytjohjpjpfglkkaa
