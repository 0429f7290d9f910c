/- FoldKnown: what is done with numbers alone is always folded, but for divisions by 0; and to numbers. -/
import Derived.Test.YtiheecgabfcigaaFoldH
import Derived.Test.YtiheecgabfcigaaLift
namespace Go.Proofs.Ytiheecgabfcigaa
open Go.RowKit Num Flo

/-- what FoldKnown says of the answer -/
def KnownIs (z : Bool) (r : Int × ByteArray × Int × Bool) : Prop := if z then r.2.2.2 = false else r.2.2.2 = true ∧ (r.1 = 2 ∨ r.1 = 3)
theorem known_num (op a b : Int) (s t : ByteArray) (h1 : 1 ≤ op) (h2 : op ≤ 14) : KnownIs (decide ((op = 4 ∨ op = 5) ∧ b = 0)) (instr2V op 2 s a 2 t b) := by
  by_cases hz : (op = 4 ∨ op = 5) ∧ b = 0
  · obtain ⟨hop, rfl⟩ := hz
    have hmiss : ∀ m, m < 5 → Hid ((ruleV op 2 s a 2 t 0 m).2.2.2 = false) := by
      intro m hm
      have : m = 0 ∨ m = 1 ∨ m = 2 ∨ m = 3 ∨ m = 4 := by omega
      rcases hop with rfl | rfl <;> rcases this with rfl | rfl | rfl | rfl | rfl
      all_goals
        show _ = _
        simp [ruleV, reckonedV, doN, noughtV, neutralV, pickV, oneV]
    rw [instr2_none hmiss]
    simp [KnownIs, hop]
  · have hd : (doN op a b).2 = true := by
      have hop : op = 1 ∨ op = 2 ∨ op = 3 ∨ op = 4 ∨ op = 5 ∨ op = 6 ∨ op = 7 ∨ op = 8 ∨ op = 9 ∨ op = 10 ∨ op = 11 ∨ op = 12 ∨ op = 13 ∨ op = 14 := by omega
      rcases hop with rfl | rfl | rfl | rfl | rfl | rfl | rfl | rfl | rfl | rfl | rfl | rfl | rfl | rfl
      all_goals first | rfl | (have hb : ¬ b = 0 := (fun e => hz ⟨by decide, e⟩); simp [doN, hb])
    have hr : ruleV op 2 s a 2 t b 0 = (2, .empty, (doN op a b).1, true) := by
      simp [ruleV, reckonedV, h1, h2, hd]
    rw [instr2_hit (by decide) hr (fun m hm => absurd hm (Nat.not_lt_zero m))]
    simp [KnownIs, hz]
theorem known_flo (op a b : Int) (s t : ByteArray) (h1 : 15 ≤ op) (h2 : op ≤ 21) : KnownIs false (instr2V op 3 s a 3 t b) := by
  have hr : ruleV op 3 s a 3 t b 0 = (if op ≤ 18 then 3 else 2, .empty, (doV op a b).1, true) := by
    have : ¬ op ≤ 14 := by omega
    simp [ruleV, reckonedV, h1, h2, this]
  rw [instr2_hit (by decide) hr (fun m hm => absurd hm (Nat.not_lt_zero m))]
  refine ⟨rfl, ?_⟩
  split <;> simp

theorem rplainI (n m : Int) (h : plainV n = m) (w : World) :
    Calls Try.prog 10 #[.int .i64 n] w fun e w' => e = .returned (.int .i64 m) ∧ w = w' := by
  have := rplain_any n w
  rw [h] at this
  exact this

set_option maxHeartbeats 1000000 in
/-- the last part, for whatever two arguments of one kind -/
theorem foldKnown_walk (op a b : Int) (w : World) :
    Calls Try.prog 4 #[.int .i64 op, .int .i64 a, .int .i64 b] w fun e w' => e = .returned (.bool true) ∧ Below w.heap.size w w' := by
  by_cases h1 : op < 1
  · go_enter Try.func4, Try.ntmps4
    go_wp2_with fail
    refine (awake_true _).mono ?_
    rintro e w1 ⟨rfl, hb1⟩
    go_wp2_with fail
    refine (awake_true _).mono ?_
    rintro e w2 ⟨rfl, hb2⟩
    go_wp2
    go_ret
    exact ⟨rfl, bthen hb1 hb2⟩
  by_cases h2 : 21 < op
  · go_enter Try.func4, Try.ntmps4
    go_wp2_with fail
    refine (awake_true _).mono ?_
    rintro e w1 ⟨rfl, hb1⟩
    go_wp2_with fail
    refine (awake_true _).mono ?_
    rintro e w2 ⟨rfl, hb2⟩
    go_wp2
    go_ret
    exact ⟨rfl, bthen hb1 hb2⟩
  by_cases h15 : 15 ≤ op
  · have hd : (decide (1 ≤ op) && decide (op ≤ 21) || op == 28) = true := by simp; omega
    have hk := fun x y => known_flo op x y { data := #[] } { data := #[] } h15 (by omega)
    have q4 : (op == 4) = false := by rw [beq_eq_false_iff_ne]; omega
    have q5 : (op == 5) = false := by rw [beq_eq_false_iff_ne]; omega
    obtain ⟨pa, hpa⟩ : ∃ x, plainV a = x := ⟨_, rfl⟩
    obtain ⟨pb, hpb⟩ : ∃ x, plainV b = x := ⟨_, rfl⟩
    have hk := hk pa pb
    rcases hi : instr2V op 3 { data := #[] } pa 3 { data := #[] } pb with ⟨k, t, j, c⟩
    rw [hi] at hk
    obtain ⟨rfl, hk⟩ : c = true ∧ (k = 2 ∨ k = 3) := hk
    have Ha := Lib.hid hpa
    have Hb := Lib.hid hpb
    have Hi := Lib.hid hi
    clear hpa hpb hi
    rcases hk with rfl | rfl
    all_goals
      go_enter Try.func4, Try.ntmps4
      go_wp2_with fail
      refine (awake_true _).mono ?_
      rintro e w1 ⟨rfl, hb1⟩
      go_wp2_with (first | ((with_reducible refine (rplainI a _ Ha.out _).mono ?_); rintro e w' ⟨rfl, rfl⟩) | ((with_reducible refine (rplainI b _ Hb.out _).mono ?_); rintro e w' ⟨rfl, rfl⟩))
      refine (two_any _ _ _ _ _ _ _ _).mono ?_
      rintro e w2 ⟨p, rfl, T, hb2⟩
      go_wp2_with fail
      refine (fold_two _ _ _ _ _ _ _ hd _ _ _ _ Hi.out _ _ T).mono ?_
      rintro e w3 ⟨rfl, hb3⟩
      go_wp2
      go_ret
      exact ⟨rfl, (bthen (bthen hb1 hb2) hb3).alloc (bthen (bthen hb1 hb2) hb3).size _⟩
  have hd : (decide (1 ≤ op) && decide (op ≤ 21) || op == 28) = true := by simp; omega
  have hk := known_num op a b { data := #[] } { data := #[] } (by omega) (by omega)
  rcases hi : instr2V op 2 { data := #[] } a 2 { data := #[] } b with ⟨k, t, j, c⟩
  rw [hi] at hk
  by_cases hz : (op = 4 ∨ op = 5) ∧ b = 0
  · rw [decide_eq_true hz] at hk
    obtain rfl : c = false := hk
    have Hi := Lib.hid hi
    clear hi
    obtain ⟨hop, rfl⟩ := hz
    rcases hop with rfl | rfl
    all_goals
      go_enter Try.func4, Try.ntmps4
      go_wp2_with fail
      refine (awake_true _).mono ?_
      rintro e w1 ⟨rfl, hb1⟩
      go_wp2_with fail
      refine (two_any _ _ _ _ _ _ _ _).mono ?_
      rintro e w2 ⟨p, rfl, T, hb2⟩
      go_wp2_with fail
      refine (fold_two _ _ _ _ _ _ _ hd _ _ _ _ Hi.out _ _ T).mono ?_
      rintro e w3 ⟨rfl, hb3⟩
      go_wp2
      go_ret
      exact ⟨rfl, (bthen (bthen hb1 hb2) hb3).alloc (bthen (bthen hb1 hb2) hb3).size _⟩
  · rw [decide_eq_false hz] at hk
    obtain ⟨rfl, hk⟩ : c = true ∧ (k = 2 ∨ k = 3) := hk
    have Hi := Lib.hid hi
    clear hi
    by_cases h4 : op = 4
    · have qb : (b == 0) = false := by rw [beq_eq_false_iff_ne]; exact fun e => hz ⟨.inl h4, e⟩
      subst h4
      clear hz
      rcases hk with rfl | rfl
      all_goals
        go_enter Try.func4, Try.ntmps4
        go_wp2_with fail
        refine (awake_true _).mono ?_
        rintro e w1 ⟨rfl, hb1⟩
        go_wp2_with fail
        refine (two_any _ _ _ _ _ _ _ _).mono ?_
        rintro e w2 ⟨p, rfl, T, hb2⟩
        go_wp2_with fail
        refine (fold_two _ _ _ _ _ _ _ hd _ _ _ _ Hi.out _ _ T).mono ?_
        rintro e w3 ⟨rfl, hb3⟩
        go_wp2
        go_ret
        exact ⟨rfl, (bthen (bthen hb1 hb2) hb3).alloc (bthen (bthen hb1 hb2) hb3).size _⟩
    have q4 : (op == 4) = false := by rw [beq_eq_false_iff_ne]; exact h4
    by_cases h5 : op = 5
    · have qb : (b == 0) = false := by rw [beq_eq_false_iff_ne]; exact fun e => hz ⟨.inr h5, e⟩
      subst h5
      clear hz
      rcases hk with rfl | rfl
      all_goals
        go_enter Try.func4, Try.ntmps4
        go_wp2_with fail
        refine (awake_true _).mono ?_
        rintro e w1 ⟨rfl, hb1⟩
        go_wp2_with fail
        refine (two_any _ _ _ _ _ _ _ _).mono ?_
        rintro e w2 ⟨p, rfl, T, hb2⟩
        go_wp2_with fail
        refine (fold_two _ _ _ _ _ _ _ hd _ _ _ _ Hi.out _ _ T).mono ?_
        rintro e w3 ⟨rfl, hb3⟩
        go_wp2
        go_ret
        exact ⟨rfl, (bthen (bthen hb1 hb2) hb3).alloc (bthen (bthen hb1 hb2) hb3).size _⟩
    have q5 : (op == 5) = false := by rw [beq_eq_false_iff_ne]; exact h5
    clear hz h4 h5
    rcases hk with rfl | rfl
    all_goals
      go_enter Try.func4, Try.ntmps4
      go_wp2_with fail
      refine (awake_true _).mono ?_
      rintro e w1 ⟨rfl, hb1⟩
      go_wp2_with fail
      refine (two_any _ _ _ _ _ _ _ _).mono ?_
      rintro e w2 ⟨p, rfl, T, hb2⟩
      go_wp2_with fail
      refine (fold_two _ _ _ _ _ _ _ hd _ _ _ _ Hi.out _ _ T).mono ?_
      rintro e w3 ⟨rfl, hb3⟩
      go_wp2
      go_ret
      exact ⟨rfl, (bthen (bthen hb1 hb2) hb3).alloc (bthen (bthen hb1 hb2) hb3).size _⟩
theorem foldKnown_all (op a b : Int) (_ : (Lit.int .i64 op).wf = true) (_ : (Lit.int .i64 a).wf = true) (_ : (Lit.int .i64 b).wf = true) (w : World) :
    Calls Try.prog 4 #[.int .i64 op, .int .i64 a, .int .i64 b] w fun e w' => e = .returned (.bool true) ∧ Below w.heap.size w w' := foldKnown_walk op a b w
end Go.Proofs.Ytiheecgabfcigaa
