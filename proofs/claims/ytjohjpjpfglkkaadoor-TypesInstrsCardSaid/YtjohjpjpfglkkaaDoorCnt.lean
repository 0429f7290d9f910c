/- How many parts: counts, up to 20000. -/
import Derived.Test.YtjohjpjpfglkkaaDoorFld
namespace Go.Proofs.YtjohjpjpfglkkaaDoor
open Go.RowKit

/-- a count under way -/
abbrev Cn (n : Int) (k : Int) : Prop := 0 ≤ n ∧ n ≤ k
set_option maxHeartbeats 2000000 in
theorem cArgs_val {w0 w : World} (h0 : Below w0.heap.size w0 w) {l : List Ag} {v : Value} (hl : Row AtA 3 w0 v l) :
    Calls Tryd.prog 62 #[v, .int .i64 20000] w fun e w' => w = w' ∧ ∃ n : Int, e = .returned (.int .i64 n) ∧ Cn n 281474976710656 := by
  obtain ⟨p, cu, rfl, -, hn, hl⟩ := hl
  by_cases hbig : 20000 < l.length
  · have hbI : (20000 : Int) < (l.length : Int) := by omega
    go_enter Tryd.func62, Tryd.ntmps62
    go_wp2
    go_ret
    exact ⟨rfl, _, rfl, by omega, by omega⟩
  have hbI : ¬ (20000 : Int) < (l.length : Int) := by omega
  go_enter Tryd.func62, Tryd.ntmps62
  go_wp2
  go_loopw [5, 6] (fun n i wr => ∃ q : Nat, ∃ k : Int, q ≤ l.length ∧ i = .int .i64 (q : Int) ∧ n = .int .i64 k ∧ Cn k 281474976710656 ∧ wr = w) (fun _ i _ => l.length - (intOf i).toNat)
  case atStart => exact ⟨0, _, Nat.zero_le _, rfl, rfl, ⟨by omega, by omega⟩, rfl⟩
  case round =>
    obtain ⟨q, k, hq, rfl, rfl, hk, rfl⟩ := hrel
    by_cases hend : q = l.length
    · subst hend
      clear hl
      go_wp2
      go_ret
      exact ⟨rfl, _, rfl, hk⟩
    · have hlt : q < l.length := by omega
      have hltI : (q : Int) < (l.length : Int) := by omega
      by_cases hk2 : k ≤ 20000
      · obtain ⟨a, rfl, -, ⟨c1, z1⟩, -⟩ := hl q l[q] (by simp [hlt])
        have c1 := keepc h0 c1
        clear hl
        generalize l[q].s = s at *
        have z2 : (s.size : Int) ≤ 140737488351232 := by unfold Sz at z1; omega
        obtain ⟨hk0, hk1⟩ := hk
        go_wp2
        go_roundw
        case rel => exact ⟨q + 1, k + s.size, by omega, by go_num, by go_num, ⟨by omega, by omega⟩, trivial⟩
        case measure => simp [intOf]; omega
      · clear hl
        go_wp2
        go_ret
        exact ⟨rfl, _, rfl, hk⟩
set_option maxHeartbeats 2000000 in
theorem cVars_val {w0 w : World} (h0 : Below w0.heap.size w0 w) {l : List Vr} {v : Value} (hl : Row AtV 2 w0 v l) :
    Calls Tryd.prog 37 #[v, .int .i64 20000] w fun e w' => w = w' ∧ ∃ n : Int, e = .returned (.int .i64 n) ∧ Cn n 281474976710656 ∧ (n ≤ 20000 → l.length ≤ 20000) := by
  obtain ⟨p, cu, rfl, -, hn, hl⟩ := hl
  by_cases hbig : 20000 < l.length
  · have hbI : (20000 : Int) < (l.length : Int) := by omega
    go_enter Tryd.func37, Tryd.ntmps37
    go_wp2
    go_ret
    exact ⟨rfl, _, rfl, ⟨by omega, by omega⟩, by omega⟩
  have hbI : ¬ (20000 : Int) < (l.length : Int) := by omega
  go_enter Tryd.func37, Tryd.ntmps37
  go_wp2
  go_loopw [5, 6] (fun n i wr => ∃ q : Nat, ∃ k : Int, q ≤ l.length ∧ i = .int .i64 (q : Int) ∧ n = .int .i64 k ∧ Cn k 281474976710656 ∧ wr = w) (fun _ i _ => l.length - (intOf i).toNat)
  case atStart => exact ⟨0, _, Nat.zero_le _, rfl, rfl, ⟨by omega, by omega⟩, rfl⟩
  case round =>
    obtain ⟨q, k, hq, rfl, rfl, hk, rfl⟩ := hrel
    by_cases hend : q = l.length
    · subst hend
      clear hl
      go_wp2
      go_ret
      exact ⟨rfl, _, rfl, hk, fun _ => by omega⟩
    · have hlt : q < l.length := by omega
      have hltI : (q : Int) < (l.length : Int) := by omega
      by_cases hk2 : k ≤ 20000
      · obtain ⟨a, rfl, ⟨c0, z0⟩, c1, z1⟩ := hl q l[q] (by simp [hlt])
        have c0 := keepc h0 c0
        have c1 := keepc h0 c1
        clear hl
        generalize l[q].n = s at *
        generalize l[q].t = t at *
        have z2 : (s.size : Int) ≤ 140737488351232 := by unfold Sz at z0; omega
        have z3 : (t.size : Int) ≤ 140737488351232 := by unfold Sz at z1; omega
        obtain ⟨hk0, hk1⟩ := hk
        by_cases hk3 : k + s.size ≤ 20000
        · go_wp2
          go_roundw
          case rel => exact ⟨q + 1, k + s.size + t.size, by omega, by go_num, by go_num, ⟨by omega, by omega⟩, trivial⟩
          case measure => simp [intOf]; omega
        · go_wp2
          go_roundw
          case rel => exact ⟨q + 1, k + s.size, by omega, by go_num, by go_num, ⟨by omega, by omega⟩, trivial⟩
          case measure => simp [intOf]; omega
      · clear hl
        go_wp2
        go_ret
        exact ⟨rfl, _, rfl, hk, fun _ => by omega⟩
end Go.Proofs.YtjohjpjpfglkkaaDoor
