/- The walks of Do of the reference of numbers, at bits and shifts. -/
import Derived.Test.YtiheecgabfcigaaNumD
namespace Go.Proofs.Ytiheecgabfcigaa
open Go.RowKit Num

theorem place_lt {i : Nat} (h : i < 64) : 2 ^ i < 18446744073709551616 := Nat.pow_lt_pow_right (by omega) h

theorem out_step {z P c : Nat} (hc : c ≤ 1) (hz : z + P * c < 18446744073709551616) (hP : P < 18446744073709551616) : IntKind.u64.wrap ((z : Int) + IntKind.u64.wrap ((P : Int) * (c : Int))) = ((z + P * c : Nat) : Int) := by
  have : c = 0 ∨ c = 1 := by omega
  rcases this with rfl | rfl
  · simp only [IntKind.wrap_u64]; omega
  · simp only [IntKind.wrap_u64]; omega
theorem half_step_u {p X k : Nat} (hp : p = X / 2 ^ k) (hX : X < 18446744073709551616) : IntKind.u64.wrap ((p : Int) / 2) = ((p / 2 : Nat) : Int) ∧ p / 2 = X / 2 ^ (k + 1) := by
  have : p ≤ X := by rw [hp]; exact Nat.div_le_self _ _
  refine ⟨by simp only [IntKind.wrap_u64]; omega, by rw [hp, Nat.div_div_eq_div_mul, Nat.pow_succ]⟩

set_option maxRecDepth 100000 in
set_option maxHeartbeats 1000000 in
theorem bits_tab (a b : Int) (c0 c1 c2 c3 : Nat) (hc : c0 ≤ 1 ∧ c1 ≤ 1 ∧ c2 ≤ 1 ∧ c3 ≤ 1) (w : World) :
    Calls Try.prog 44 #[.int .i64 a, .int .i64 b, .agg #[.int .u64 (c0 : Int), .int .u64 (c1 : Int), .int .u64 (c2 : Int), .int .u64 (c3 : Int)]] w fun e w' => e = .returned (.int .i64 (wrap64 ((tab (fun j => if j = 0 then c0 else if j = 1 then c1 else if j = 2 then c2 else c3) (u64n a) (u64n b) 64 : Nat) : Int))) ∧ Below w.heap.size w w' := by
  have ha := u64_cast a
  have hb := u64_cast b
  have HX := Lib.hid (u64n_lt a)
  have HY := Lib.hid (u64n_lt b)
  generalize u64n a = X at *
  generalize u64n b = Y at *
  obtain ⟨t, ht⟩ : ∃ t : Nat → Nat, t = fun j => if j = 0 then c0 else if j = 1 then c1 else if j = 2 then c2 else c3 := ⟨_, rfl⟩
  have hlt := tab_lt t (fun j => by rw [ht]; dsimp only; split <;> (try split) <;> (try split) <;> omega)
  rw [← ht]
  have He : Hid (∀ j, t j = (if j = 0 then c0 else if j = 1 then c1 else if j = 2 then c2 else c3)) := fun j => by rw [ht]
  have Hlt := Lib.hid hlt
  have Ht := Lib.hid ht
  clear hlt ht
  go_enter Try.func44, Try.ntmps44
  go_wp2
  go_loop [7, 8, 9, 10, 11] (fun x y out place i => ∃ k p q z : Nat, k ≤ 64 ∧ i = .int .i64 (k : Int) ∧ x = .int .u64 (p : Int) ∧ y = .int .u64 (q : Int) ∧ out = .int .u64 (z : Int) ∧ Hid (p = X / 2 ^ k) ∧ Hid (q = Y / 2 ^ k) ∧ Hid (z = tab t X Y k) ∧ place = .int .u64 ((2 ^ k % 18446744073709551616 : Nat) : Int)) (fun _ _ _ _ i => 64 - (intOf i).toNat)
  case atStart => exact ⟨0, X, Y, 0, by omega, rfl, rfl, rfl, rfl, by rw [Nat.pow_zero, Nat.div_one]; rfl, by rw [Nat.pow_zero, Nat.div_one]; rfl, rfl, rfl⟩
  case round =>
    obtain ⟨k, p, q, z, hk, rfl, rfl, rfl, rfl, hp, hq, hz, rfl⟩ := hrel
    by_cases hlt : k < 64
    · have hpl : 2 ^ k % 18446744073709551616 = 2 ^ k := Nat.mod_eq_of_lt (place_lt hlt)
      have hp2 : p % 2 = 0 ∨ p % 2 = 1 := by omega
      have hq2 : q % 2 = 0 ∨ q % 2 = 1 := by omega
      have HP := Lib.hid (half_step_u hp.out HX.out)
      have HQ := Lib.hid (half_step_u hq.out HY.out)
      have HZ : Hid (z + 2 ^ k * t (2 * (p % 2) + q % 2) = tab t X Y (k + 1)) := by show _ = _; rw [tab, ← hz.out, hp.out, hq.out]; rfl
      have HZl : Hid (z + 2 ^ k * t (2 * (p % 2) + q % 2) < 18446744073709551616) := by
        show _ < _
        rw [HZ.out]
        exact Nat.lt_of_lt_of_le (Hlt.out X Y (k + 1)) (Nat.pow_le_pow_right (by omega) (show k + 1 ≤ 64 by omega))
      have HPl := Lib.hid (place_lt hlt)
      have HPn : Hid (IntKind.u64.wrap (((2 ^ k : Nat) : Int) * 2) = ((2 ^ (k + 1) % 18446744073709551616 : Nat) : Int)) := by
        show _ = _
        rw [IntKind.wrap_u64, Nat.pow_succ]; omega
      rw [hpl]
      clear hpl
      generalize 2 ^ k = P at *
      rcases hp2 with hp2 | hp2
      all_goals rcases hq2 with hq2 | hq2
      all_goals
        have e1 : (p : Int) % 2 = ((p % 2 : Nat) : Int) := by omega
        have e2 : (q : Int) % 2 = ((q % 2 : Nat) : Int) := by omega
        rw [hp2] at e1 HZ HZl
        rw [hq2] at e2 HZ HZl
        rw [Ht.out] at HZl
        clear hp2 hq2
        go_wp2
        go_round
        case rel => exact ⟨k + 1, p / 2, q / 2, _, by omega, by go_num, congrArg (Value.int .u64) HP.out.1, congrArg (Value.int .u64) HQ.out.1, congrArg (Value.int .u64) (out_step (by omega) HZl.out HPl.out), HP.out.2, HQ.out.2, by have h := HZ.out; rw [He.out] at h; exact h, congrArg (Value.int .u64) HPn.out⟩
        case measure => simp [intOf]; omega
    · obtain rfl : k = 64 := by omega
      go_wp2_with ((with_reducible refine (half_any _ _).mono ?_); rintro e w' ⟨rfl, rfl⟩)
      go_ret
      exact ⟨ret_int (by rw [hz.out]), (Below.refl _ _).alloc (Nat.le_refl _) _⟩

theorem bits_val (a b : Int) (c0 c1 c2 c3 : Nat) (hc : c0 ≤ 1 ∧ c1 ≤ 1 ∧ c2 ≤ 1 ∧ c3 ≤ 1) (v : Int) (z : Nat) (hz : z < 18446744073709551616) (h : ∀ i, tab (fun j => if j = 0 then c0 else if j = 1 then c1 else if j = 2 then c2 else c3) (u64n a) (u64n b) i = z % 2 ^ i) (hv : wrap64 (z : Int) = v) (w : World) :
    Calls Try.prog 44 #[.int .i64 a, .int .i64 b, .agg #[.int .u64 (c0 : Int), .int .u64 (c1 : Int), .int .u64 (c2 : Int), .int .u64 (c3 : Int)]] w fun e w' => e = .returned (.int .i64 v) ∧ Below w.heap.size w w' := by
  have := bits_tab a b c0 c1 c2 c3 hc w
  rw [h, mod_64 hz, hv] at this
  exact this
theorem tab4 (c0 c1 c2 c3 : Nat) (t : Nat → Nat) (h0 : t 0 = c0) (h1 : t 1 = c1) (h2 : t 2 = c2) (h3 : t 3 = c3) (x y i : Nat) : tab (fun j => if j = 0 then c0 else if j = 1 then c1 else if j = 2 then c2 else c3) x y i = tab t x y i := by
  induction i with
  | zero => rfl
  | succ i ih =>
    rw [tab, tab, ih]
    congr 2
    have a := bit_lt x i
    have b := bit_lt y i
    have : 2 * bit x i + bit y i = 0 ∨ 2 * bit x i + bit y i = 1 ∨ 2 * bit x i + bit y i = 2 ∨ 2 * bit x i + bit y i = 3 := by omega
    rcases this with e | e | e | e <;> rw [e] <;> simp [h0, h1, h2, h3]
theorem bits_and (a b : Int) (w : World) :
    Calls Try.prog 44 #[.int .i64 a, .int .i64 b, .agg #[.int .u64 0, .int .u64 0, .int .u64 0, .int .u64 1]] w fun e w' => e = .returned (.int .i64 (bits .and .i64 a b)) ∧ Below w.heap.size w w' :=
  bits_val a b 0 0 0 1 (by omega) _ (u64n a &&& u64n b) (Nat.and_lt_two_pow (n := 64) _ (u64n_lt b)) (fun i => (tab4 0 0 0 1 _ rfl rfl rfl rfl _ _ i).trans (tab_and _ _ i)) (and_i64 a b).symm w
theorem bits_or (a b : Int) (w : World) :
    Calls Try.prog 44 #[.int .i64 a, .int .i64 b, .agg #[.int .u64 0, .int .u64 1, .int .u64 1, .int .u64 1]] w fun e w' => e = .returned (.int .i64 (bits .or .i64 a b)) ∧ Below w.heap.size w w' :=
  bits_val a b 0 1 1 1 (by omega) _ (u64n a ||| u64n b) (Nat.or_lt_two_pow (n := 64) (u64n_lt a) (u64n_lt b)) (fun i => (tab4 0 1 1 1 _ rfl rfl rfl rfl _ _ i).trans (tab_or _ _ i)) (or_i64 a b).symm w
theorem bits_xor (a b : Int) (w : World) :
    Calls Try.prog 44 #[.int .i64 a, .int .i64 b, .agg #[.int .u64 0, .int .u64 1, .int .u64 1, .int .u64 0]] w fun e w' => e = .returned (.int .i64 (bits .xor .i64 a b)) ∧ Below w.heap.size w w' :=
  bits_val a b 0 1 1 0 (by omega) _ (u64n a ^^^ u64n b) (Nat.xor_lt_two_pow (n := 64) (u64n_lt a) (u64n_lt b)) (fun i => (tab4 0 1 1 0 _ rfl rfl rfl rfl _ _ i).trans (tab_xor _ _ i)) (xor_i64 a b).symm w

set_option maxRecDepth 100000 in
set_option maxHeartbeats 1000000 in
theorem nrdo_bits (op a b : Int) (hop : op = 6 ∨ op = 7 ∨ op = 8) (w : World) :
    Calls Try.prog 26 #[.int .i64 op, .int .i64 a, .int .i64 b] w fun e w' => e = .returned (.tuple #[.int .i64 (doN op a b).1, .bool (doN op a b).2]) ∧ Below w.heap.size w w' := by
  rcases hop with rfl | rfl | rfl
  all_goals
    go_enter Try.func26, Try.ntmps26
    go_wp2_with (first | ((with_reducible refine (bits_and _ _ _).mono ?_); rintro e w' ⟨rfl, hb⟩) | ((with_reducible refine (bits_or _ _ _).mono ?_); rintro e w' ⟨rfl, hb⟩) | ((with_reducible refine (bits_xor _ _ _).mono ?_); rintro e w' ⟨rfl, hb⟩))
    go_ret2
    exact ⟨rfl, hb⟩

set_option maxRecDepth 100000 in
set_option maxHeartbeats 1000000 in
theorem nrdo_shl (a b : Int) (w : World) :
    Calls Try.prog 26 #[.int .i64 9, .int .i64 a, .int .i64 b] w fun e w' => e = .returned (.tuple #[.int .i64 (doN 9 a b).1, .bool (doN 9 a b).2]) ∧ Below w.heap.size w w' := by
  have hs := u64_rem64 b
  have H : Hid (doN 9 a b = (wrap64 (a * 2 ^ sh b), true)) := rfl
  have hl := sh_lt b
  generalize sh b = S at *
  go_enter Try.func26, Try.ntmps26
  go_wp2
  go_loop [11, 12] (fun x i => ∃ (k : Nat) (p : Int), k ≤ S ∧ i = .int .u64 (k : Int) ∧ x = .int .u64 p ∧ Hid (p = IntKind.u64.wrap (a * 2 ^ k))) (fun _ i => S - (intOf i).toNat)
  case atStart => exact ⟨0, _, by omega, rfl, rfl, by rw [Int.pow_zero, Int.mul_one]; rfl⟩
  case round =>
    obtain ⟨k, p, hk, rfl, rfl, hp⟩ := hrel
    by_cases hlt : k < S
    · have HS : Hid (IntKind.u64.wrap (p * 2) = IntKind.u64.wrap (a * 2 ^ (k + 1))) := by show _ = _; rw [shl_step hp.out, Int.mul_assoc, ← Int.pow_succ]
      go_wp2
      go_round
      case rel => exact ⟨k + 1, _, by omega, by go_num, rfl, HS.out⟩
      case measure => simp [intOf]; omega
    · obtain rfl : k = S := by omega
      go_wp2_with ((with_reducible refine (half_any _ _).mono ?_); rintro e w' ⟨rfl, rfl⟩)
      go_ret2
      exact ⟨ret_doN (by rw [H.out, hp.out, u_wrap]), Below.refl _ _⟩

set_option maxRecDepth 100000 in
set_option maxHeartbeats 1000000 in
theorem nrdo_shr (a b : Int) (ha : Hid (-9223372036854775808 ≤ a ∧ a ≤ 9223372036854775807)) (w : World) :
    Calls Try.prog 26 #[.int .i64 10, .int .i64 a, .int .i64 b] w fun e w' => e = .returned (.tuple #[.int .i64 (doN 10 a b).1, .bool (doN 10 a b).2]) ∧ Below w.heap.size w w' := by
  have hs := u64_rem64 b
  have H : Hid (doN 10 a b = (a / 2 ^ sh b, true)) := rfl
  have hl := sh_lt b
  generalize sh b = S at *
  go_enter Try.func26, Try.ntmps26
  go_wp2
  go_loop [11, 12] (fun x i => ∃ (k : Nat) (p : Int), k ≤ S ∧ i = .int .u64 (k : Int) ∧ x = .int .u64 p ∧ Hid (p = IntKind.u64.wrap (a / 2 ^ k))) (fun _ i => S - (intOf i).toNat)
  case atStart => exact ⟨0, _, by omega, rfl, rfl, by rw [Int.pow_zero, Int.ediv_one]; rfl⟩
  case round =>
    obtain ⟨k, p, hk, rfl, rfl, hp⟩ := hrel
    by_cases hlt : k < S
    · have hr := Lib.hid (shr_range a k ha.out.1 ha.out.2)
      by_cases hneg : a < 0
      · have HS : Hid (IntKind.u64.wrap (IntKind.u64.wrap (p.tdiv 2) + 9223372036854775808) = IntKind.u64.wrap (a / 2 ^ (k + 1))) := by show _ = _; rw [shr_neg hp.out (hr.out.1 hneg).1 (hr.out.1 hneg).2, shr_next]
        go_wp2
        go_round
        case rel => exact ⟨k + 1, _, by omega, by go_num, rfl, HS.out⟩
        case measure => simp [intOf]; omega
      · have HS : Hid (IntKind.u64.wrap (p.tdiv 2) = IntKind.u64.wrap (a / 2 ^ (k + 1))) := by show _ = _; rw [shr_pos hp.out (hr.out.2 (by omega)).1 (hr.out.2 (by omega)).2, shr_next]
        go_wp2
        go_round
        case rel => exact ⟨k + 1, _, by omega, by go_num, rfl, HS.out⟩
        case measure => simp [intOf]; omega
    · obtain rfl : k = S := by omega
      go_wp2_with ((with_reducible refine (half_any _ _).mono ?_); rintro e w' ⟨rfl, rfl⟩)
      go_ret2
      exact ⟨ret_doN (by rw [H.out, hp.out, u_wrap, shr_same _ _ ha.out.1 ha.out.2]), Below.refl _ _⟩

theorem nrdo_any (op a b : Int) (ha : Hid (-9223372036854775808 ≤ a ∧ a ≤ 9223372036854775807)) (hb : Hid (-9223372036854775808 ≤ b ∧ b ≤ 9223372036854775807)) (w : World) :
    Calls Try.prog 26 #[.int .i64 op, .int .i64 a, .int .i64 b] w fun e w' => e = .returned (.tuple #[.int .i64 (doN op a b).1, .bool (doN op a b).2]) ∧ Below w.heap.size w w' := by
  by_cases h1 : op = 4 ∨ op = 5
  · exact nrdo_div op a b ha hb h1 w
  · by_cases h2 : op = 6 ∨ op = 7 ∨ op = 8
    · exact nrdo_bits op a b h2 w
    · by_cases h3 : op = 9
      · subst h3; exact nrdo_shl a b w
      · by_cases h4 : op = 10
        · subst h4; exact nrdo_shr a b ha w
        · exact nrdo_plain op a b (by omega) w

end Go.Proofs.Ytiheecgabfcigaa
