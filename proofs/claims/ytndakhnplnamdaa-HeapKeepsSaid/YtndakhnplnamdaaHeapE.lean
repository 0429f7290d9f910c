/- The reference: Few, SameVals, Same, New. -/
import Derived.Test.YtndakhnplnamdaaHeapD
import Derived.Laws.AppendOwnNone
namespace Go.Proofs.Ytndakhnplnamdaa
open Go.RowKit

/-- few objects with few fields -/
def fewB (n : Nat) (ob : Nat → ObjD) : Bool := decide (n ≤ 100) && (List.range n).all fun i => decide ((ob i).l ≤ 20)
theorem few_n {n : Nat} {ob : Nat → ObjD} (h : fewB n ob = true) : n ≤ 100 ∧ ∀ i, i < n → (ob i).l ≤ 20 := by
  unfold fewB at h
  simp only [Bool.and_eq_true, decide_eq_true_eq, List.all_eq_true, List.mem_range] at h
  exact h
set_option maxHeartbeats 1000000 in
theorem few_val (ph : Option Addr) (n ch : Nat) (ob : Nat → ObjD) (w : World) (hO : Objs w ph n ob) :
    Calls Try.prog 9 #[.slice ph n ch] w fun e w' => e = .returned (.bool (fewB n ob)) ∧ w = w' := by
  have hm := hO.m
  by_cases hn : n ≤ 100
  · rcases hf : fewB n ob with _ | _
    · have hex : ∃ i, i < n ∧ 20 < (ob i).l ∧ ∀ j, j < i → (ob j).l ≤ 20 := by
        have : ¬ ∀ i, i < n → (ob i).l ≤ 20 := fun h => by
          unfold fewB at hf
          simp only [Bool.and_eq_false_iff, decide_eq_false_iff_not, List.all_eq_false, List.mem_range, decide_eq_true_eq] at hf
          rcases hf with hf | ⟨i, hi, hf⟩
          · exact hf hn
          · exact hf (h i hi)
        have hne : ∃ i, i < n ∧ 20 < (ob i).l := Classical.byContradiction fun h => this fun i hi => Classical.byContradiction fun h2 => h ⟨i, hi, by omega⟩
        clear this
        have : ∀ k i, i ≤ k → i < n → 20 < (ob i).l → ∃ i, i < n ∧ 20 < (ob i).l ∧ ∀ j, j < i → (ob j).l ≤ 20 := by
          intro k
          induction k with
          | zero => intro i h1 h2 h3; exact ⟨i, h2, h3, fun j hj => by omega⟩
          | succ k ih =>
            intro i h1 h2 h3
            by_cases hx : ∃ j, j < i ∧ 20 < (ob j).l
            · obtain ⟨j, h4, h5⟩ := hx
              exact ih j (by omega) (by omega) h5
            · exact ⟨i, h2, h3, fun j hj => Classical.byContradiction fun h6 => hx ⟨j, hj, by omega⟩⟩
        obtain ⟨i, h1, h2⟩ := hne
        exact this i i (Nat.le_refl _) h1 h2
      obtain ⟨i, hi, hbig, hsm⟩ := hex
      clear hf
      go_enter Try.func9, Try.ntmps9
      go_wp2
      go_loop [3] (fun k => ∃ q : Nat, q ≤ i ∧ k = .int .i64 (q : Int)) (fun k => i - (intOf k).toNat)
      case atStart => exact ⟨0, Nat.zero_le _, rfl⟩
      case round =>
        obtain ⟨q, hq, rfl⟩ := hrel
        have hqn : q < n := by omega
        obtain ⟨B, o, rfl, hB, hc⟩ := hO.at' (by omega)
        obtain ⟨c0, c1⟩ := hc q hqn
        clear hc hO
        by_cases hlt : q < i
        · have h20 := hsm q hlt
          go_wp2
          go_round
          case rel => exact ⟨q + 1, by omega, by go_num⟩
          case measure => simp [intOf]; omega
        · obtain rfl : q = i := by omega
          go_wp2
          go_ret
          exact ⟨rfl, rfl⟩
    · have hall := (few_n hf).2
      clear hf
      go_enter Try.func9, Try.ntmps9
      go_wp2
      go_loop [3] (fun k => ∃ q : Nat, q ≤ n ∧ k = .int .i64 (q : Int)) (fun k => n - (intOf k).toNat)
      case atStart => exact ⟨0, Nat.zero_le _, rfl⟩
      case round =>
        obtain ⟨q, hq, rfl⟩ := hrel
        by_cases hlt : q < n
        · obtain ⟨B, o, rfl, hB, hc⟩ := hO.at' (by omega)
          obtain ⟨c0, c1⟩ := hc q hlt
          have h20 := hall q hlt
          clear hc hO
          go_wp2
          go_round
          case rel => exact ⟨q + 1, by omega, by go_num⟩
          case measure => simp [intOf]; omega
        · obtain rfl : q = n := by omega
          go_wp2
          go_ret
          exact ⟨rfl, rfl⟩
  · have hf : fewB n ob = false := by simp [fewB, hn]
    rw [hf]
    clear hf
    go_enter Try.func9, Try.ntmps9
    go_wp2
    go_ret
    exact ⟨rfl, rfl⟩

@[go_sem] theorem eqVal (b d : Int) (s t : ByteArray) (w : World) : (Op.equalIn 10000 25 (.agg #[.string s, .int .i64 b]) (.agg #[.string t, .int .i64 d])).run Try.prog w = .ok ((s.toList == t.toList) && b == d) w := by
  have u9 := Try.underlying9
  have u2 := Try.underlying2
  have a9 := Try.isAgg9
  have z9 := Try.sizeOf9
  have a2 := Try.isAgg2
  have z2 := Try.sizeOf2
  have hS : Try.prog.underlying 25 = some (.struct (Try.prog.fieldsOf 25)) := by kernel_rfl
  have hp : Try.prog.stoodInHeld 25 = false := by kernel_rfl
  rw [show (10000 : Nat) = 9999 + 1 from rfl, run_equalIn_agg w 9999 25 _ _ hS hp]
  simp only [Program.fieldsOf, Try.underlying25]
  go_simp
  by_cases h2 : b = d <;> by_cases h3 : s.toList = t.toList <;> simp [h2, h3]
end Go.Proofs.Ytndakhnplnamdaa
