/- The walks of words: Right of the reference; Put of both. -/
import Derived.Test.YtiheecgabfcigaaWordA
namespace Go.Proofs.Ytiheecgabfcigaa
open Go.RowKit Word Num Flo

theorem rplain_quiet (n m : Int) (h : plainV n = m) (w : World) :
    Calls Try.prog 10 #[.int .i64 n] w fun e w' => e = .returned (.int .i64 m) ∧ w' = w := by
  have := rplain_any n w
  rw [h] at this
  exact this.mono fun _ _ ⟨a, b⟩ => ⟨a, b.symm⟩

theorem rright5 (s : ByteArray) (n : Int) {v : Bool} (hb2 : (!s.toList.isEmpty) = false) (hv : Hid ((decide (0 ≤ n) && decide (n ≤ 999)) = v)) (w : World) :
    Calls Try.prog 7 #[.agg #[.int .i64 5, .string s, .int .i64 n]] w fun e w' => e = .returned (.bool v) ∧ Below w.heap.size w w' := by
  by_cases h7 : 0 ≤ n
  · by_cases h8 : n ≤ 999
    · have : v = true := by rw [← hv.out]; simp [h7, h8]
      subst this
      clear hv
      go_enter Try.func7, Try.ntmps7
      go_wp2
      go_quiet (fail)
      go_wp2
      go_ret
      exact ⟨rfl, by first | exact (Below.refl _ _).alloc (Nat.le_refl _) _ | exact below_drewN ((Below.refl _ _).alloc (Nat.le_refl _) _) _⟩
    · have : v = false := by rw [← hv.out]; simp [h7, h8]
      subst this
      clear hv
      go_enter Try.func7, Try.ntmps7
      go_wp2
      have hd : decide (n ≤ (999:Int)) = false := decide_eq_false (by omega)
      go_quiet (fail)
      go_wp2
      go_ret
      exact ⟨rfl, by first | exact (Below.refl _ _).alloc (Nat.le_refl _) _ | exact below_drewN ((Below.refl _ _).alloc (Nat.le_refl _) _) _⟩
  · have : v = false := by rw [← hv.out]; simp [h7]
    subst this
    clear hv
    go_enter Try.func7, Try.ntmps7
    go_wp2
    have hd : decide ((0:Int) ≤ n) = false := decide_eq_false (by omega)
    go_quiet (fail)
    go_wp2
    go_ret
    exact ⟨rfl, by first | exact (Below.refl _ _).alloc (Nat.le_refl _) _ | exact below_drewN ((Below.refl _ _).alloc (Nat.le_refl _) _) _⟩

set_option maxHeartbeats 1000000 in
theorem rright_val (K : Int) (s : ByteArray) (hs : Hid (s.size ≤ 9223372036854775807)) (n : Int) (v : Bool) (hv : rightV K s.data.toList n = v) (w : World) :
    Calls Try.prog 7 #[.agg #[.int .i64 K, .string s, .int .i64 n]] w fun e w' => e = .returned (.bool v) ∧ Below w.heap.size w w' := by
  have hem : s.data.toList.isEmpty = s.toList.isEmpty := by rw [ByteArray.toList_eq]
  by_cases h1 : K = 1
  · subst h1
    have hv' : Hid ((nameB s.data.toList && decide (n = 0)) = v) := hv
    clear hv hem
    cases hb : nameB s.data.toList
    all_goals
      have Hb := Lib.hid hb
      clear hb
      go_enter Try.func7, Try.ntmps7
      go_wp2_with ((with_reducible refine (rname_val _ _ Hb.out hs.out _).mono ?_); rintro e w' ⟨rfl, rfl⟩)
      go_ret
      refine ⟨ret_bool ?_, (Below.refl _ _).alloc (Nat.le_refl _) _⟩
      rw [← hv'.out, Hb.out, Bool.eq_iff_iff]
      simp
  · have e1 : (K == 1) = false := by simpa using h1
    by_cases hout : K < 1 ∨ 5 < K
    · have : v = false := by rw [← hv, rightV_out hout]
      subst this
      clear hv hem
      rcases hout with hout | hout
      · go_enter Try.func7, Try.ntmps7
        go_wp2
        try (go_quiet (fail); go_wp2)
        go_ret
        exact ⟨rfl, by first | exact (Below.refl _ _).alloc (Nat.le_refl _) _ | exact below_drewN ((Below.refl _ _).alloc (Nat.le_refl _) _) _⟩
      · have h2 : ¬ K < 1 := by omega
        go_enter Try.func7, Try.ntmps7
        go_wp2
        try (go_quiet (fail); go_wp2)
        go_ret
        exact ⟨rfl, by first | exact (Below.refl _ _).alloc (Nat.le_refl _) _ | exact below_drewN ((Below.refl _ _).alloc (Nat.le_refl _) _) _⟩
    · have hK : K = 2 ∨ K = 3 ∨ K = 4 ∨ K = 5 := by omega
      clear hout h1 e1
      have hv' : Hid ((s.toList.isEmpty && (if K = 2 then true else if K = 3 then decide (plainV n = n) else if K = 4 then decide (n = 0) else (decide (0 ≤ n) && decide (n ≤ 999)))) = v) := by
        show _ = _
        rw [← hv, ← hem]
        rcases hK with rfl | rfl | rfl | rfl <;> simp [rightV, Bool.and_assoc]
      clear hv hem
      cases hb : s.toList.isEmpty
      · have : v = false := by rw [← hv'.out, hb]; rfl
        subst this
        rcases hK with rfl | rfl | rfl | rfl
        all_goals
          go_enter Try.func7, Try.ntmps7
          go_wp2
          try (go_quiet (fail); go_wp2)
          go_ret
          exact ⟨rfl, by first | exact (Below.refl _ _).alloc (Nat.le_refl _) _ | exact below_drewN ((Below.refl _ _).alloc (Nat.le_refl _) _) _⟩
      · have hv'' : Hid ((if K = 2 then true else if K = 3 then decide (plainV n = n) else if K = 4 then decide (n = 0) else (decide (0 ≤ n) && decide (n ≤ 999))) = v) := by
          show _ = _
          rw [← hv'.out, hb]; simp
        clear hv'
        have hb2 : (!s.toList.isEmpty) = false := by rw [hb]; rfl
        clear hb
        rcases hK with rfl | rfl | rfl | rfl
        · have : v = true := by rw [← hv''.out]; rfl
          subst this
          clear hv''
          go_enter Try.func7, Try.ntmps7
          go_wp2
          go_quiet (fail)
          go_wp2
          go_ret
          exact ⟨rfl, by first | exact (Below.refl _ _).alloc (Nat.le_refl _) _ | exact below_drewN ((Below.refl _ _).alloc (Nat.le_refl _) _) _⟩
        · have hp : plainV n = plainV n := rfl
          revert hp
          generalize hm : plainV n = m at hv''
          intro _
          have Hm := Lib.hid hm
          clear hm
          have h7 : (m == n) = v := by rw [← hv''.out]; simp [Bool.beq_eq_decide_eq]
          clear hv''
          cases v
          all_goals
            go_enter Try.func7, Try.ntmps7
            go_wp2
            go_quiet ((go_at_call 10; exact Calls.quiet_of_same (rplain_quiet _ _ Hm.out _)))
            go_wp2
            go_ret
            exact ⟨rfl, by first | exact (Below.refl _ _).alloc (Nat.le_refl _) _ | exact below_drewN ((Below.refl _ _).alloc (Nat.le_refl _) _) _⟩
        · have h7 : (n == 0) = v := by rw [← hv''.out]; simp [Bool.beq_eq_decide_eq]
          clear hv''
          cases v
          all_goals
            go_enter Try.func7, Try.ntmps7
            go_wp2
            go_quiet (fail)
            go_wp2
            go_ret
            exact ⟨rfl, by first | exact (Below.refl _ _).alloc (Nat.le_refl _) _ | exact below_drewN ((Below.refl _ _).alloc (Nat.le_refl _) _) _⟩
        · exact rright5 s n hb2 hv'' w

end Go.Proofs.Ytiheecgabfcigaa
