/- The walks of ToInt, of package flo and of its reference. -/
import Derived.Test.YtiheecgabfcigaaFloW
import Derived.Test.YtiheecgabfcigaaFloI
import Derived.LoopTactic
namespace Go.Proofs.Ytiheecgabfcigaa
open Go.RowKit Flo

set_option maxHeartbeats 400000 in
theorem toint_nan (n : Int) (w : World) (hn : isNanN (u64 n) = true) :
    Calls Try.prog 34 #[.int .i64 n] w fun e w' => e = .returned (.int .i64 (toIntV n)) ∧ w = w' := by
  have H : Hid (toIntV n = 0) := by simp [toIntV, hn, Hid]
  have h0 : (FloatKind.f64.format.order (pb n) (pb n) != some Ordering.eq) = true := by rw [order_self_word (pb_lt n), isNanN_pb]; exact hn
  clear hn
  go_enter Try.func34, Try.ntmps34
  go_wp2_with ((with_reducible refine (of_any ..).mono ?_); rintro e w' ⟨rfl, rfl⟩)
  go_ret
  exact ⟨ret_int H.out.symm, rfl⟩

set_option maxHeartbeats 400000 in
theorem toint_num (n : Int) (w : World) (h1 : -9223372036854775808 ≤ n) (h2 : n ≤ 9223372036854775807) (hn : isNanN (u64 n) = false) :
    Calls Try.prog 34 #[.int .i64 n] w fun e w' => e = .returned (.int .i64 (toIntV n)) ∧ w = w' := by
  have hw := toint_ways n h1 h2 hn
  have h0 : (FloatKind.f64.format.order (pb n) (pb n) != some Ordering.eq) = false := by rw [order_self_word (pb_lt n), isNanN_pb]; exact hn
  have hp : pb n = u64 n := pb_of_num hn
  rw [← hp] at hw
  clear hn hp
  rcases hw with ⟨c1, hv⟩ | ⟨c1, c2, hv⟩ | ⟨c1, c2, hv⟩
  · have H := Lib.hid hv
    clear hv
    unfold c1V E63 at c1
    go_enter Try.func34, Try.ntmps34
    go_wp2_with ((with_reducible refine (of_any ..).mono ?_); rintro e w' ⟨rfl, rfl⟩)
    go_ret
    exact ⟨ret_int H.out.symm, rfl⟩
  · have H := Lib.hid hv
    clear hv
    unfold c1V E63 at c1
    unfold c2V N63 at c2
    go_enter Try.func34, Try.ntmps34
    go_wp2_with ((with_reducible refine (of_any ..).mono ?_); rintro e w' ⟨rfl, rfl⟩)
    go_ret
    exact ⟨ret_int H.out.symm, rfl⟩
  · have hr := run_convert_float_int (P := Try.prog) w 57 2 .f64 .i64 (pb n) (toIntV n) (by rw [Try.underlying57]; rfl) Try.underlying2 hv
    clear hv
    unfold c1V E63 at c1
    unfold c2V N63 at c2
    go_enter Try.func34, Try.ntmps34
    go_wp2_with ((with_reducible refine (of_any ..).mono ?_); rintro e w' ⟨rfl, rfl⟩)
    go_ret
    exact ⟨rfl, rfl⟩

theorem toint_any (n : Int) (w : World) (h1 : -9223372036854775808 ≤ n) (h2 : n ≤ 9223372036854775807) :
    Calls Try.prog 34 #[.int .i64 n] w fun e w' => e = .returned (.int .i64 (toIntV n)) ∧ w = w' := by
  cases hn : isNanN (u64 n)
  · exact toint_num n w h1 h2 hn
  · exact toint_nan n w hn

set_option maxHeartbeats 400000 in
theorem rtoint_nan (n : Int) (w : World) (hn : isNanN (u64 n) = true) :
    Calls Try.prog 25 #[.int .i64 n] w fun e w' => e = .returned (.int .i64 (toIntV n)) ∧ w = w' := by
  have H : Hid (toIntV n = 0) := by simp [toIntV, hn, Hid]
  go_enter Try.func25, Try.ntmps25
  go_wp2_with ((with_reducible refine (isnan_any ..).mono ?_); rintro e w' ⟨rfl, rfl⟩)
  go_ret
  exact ⟨ret_int H.out.symm, rfl⟩

theorem toIntV_hi {n : Int} (hn : isNanN (u64 n) = false) (h : 1086 ≤ expo n) : toIntV n = if n < 0 then -9223372036854775808 else 9223372036854775807 := by simp [toIntV, hn, h]
theorem toIntV_lo {n : Int} (hn : isNanN (u64 n) = false) (h : expo n < 1023) : toIntV n = 0 := by
  have : ¬ 1086 ≤ expo n := by omega
  simp [toIntV, hn, h, this]
theorem toIntV_mid {n : Int} (hn : isNanN (u64 n) = false) (h1 : ¬ expo n < 1023) (h : expo n < 1086) : toIntV n = if n < 0 then -(magV n : Int) else magV n := by
  have : ¬ 1086 ≤ expo n := by omega
  simp [toIntV, hn, h1, this]

set_option maxRecDepth 100000 in
set_option maxHeartbeats 1000000 in
theorem rtoint_num (n : Int) (w : World) (hn : isNanN (u64 n) = false) :
    Calls Try.prog 25 #[.int .i64 n] w fun e w' => e = .returned (.int .i64 (toIntV n)) ∧ w = w' := by
  have hu := tmod63 n
  obtain ⟨V, hV⟩ : ∃ V, V = u64 n % 9223372036854775808 := ⟨_, rfl⟩
  rw [← hV] at hu
  have hq : (V : Int) / 4503599627370496 = ((expo n : Nat) : Int) := by unfold expo; omega
  have he : expo n ≤ 2047 := by unfold expo; omega
  have hm : (V : Int) % 4503599627370496 + 4503599627370496 = ((mant n : Nat) : Int) := by
    unfold mant; rw [← hV]; omega
  have Hhi := Lib.hid (toIntV_hi hn)
  have Hlo := Lib.hid (toIntV_lo hn)
  have Hmid := Lib.hid (toIntV_mid hn)
  have Hml := Lib.hid (mant_lt n)
  have Hmg : Hid (magV n = mant n * 2 ^ (expo n - 1075) / 2 ^ (1075 - expo n)) := rfl
  clear hV
  generalize expo n = E at *
  generalize mant n = M at *
  generalize magV n = G at *
  by_cases ha : 1086 ≤ E
  · by_cases hneg : n < 0
    all_goals
      go_enter Try.func25, Try.ntmps25
      go_wp2_with ((with_reducible refine (isnan_any ..).mono ?_); rintro e w' ⟨rfl, rfl⟩)
      go_ret
      exact ⟨ret_int (by rw [Hhi.out ha]; first | rw [if_pos hneg] | rw [if_neg (by omega)]), rfl⟩
  · by_cases hb : E < 1023
    · go_enter Try.func25, Try.ntmps25
      go_wp2_with ((with_reducible refine (isnan_any ..).mono ?_); rintro e w' ⟨rfl, rfl⟩)
      go_ret
      exact ⟨ret_int (by rw [Hlo.out hb]), rfl⟩
    · go_enter Try.func25, Try.ntmps25
      go_wp2_with ((with_reducible refine (isnan_any ..).mono ?_); rintro e w' ⟨rfl, rfl⟩)
      go_loop [5, 6] (fun m i => ∃ j x : Nat, E + j ≤ max E 1075 ∧ i = .int .i64 ((E + j : Nat) : Int) ∧ m = .int .u64 (x : Int) ∧ Hid (x = M / 2 ^ j) ∧ x < 9007199254740992) (fun _ i => 2000 - (intOf i).toNat)
      case atStart => exact ⟨0, M, by omega, rfl, rfl, by rw [Nat.pow_zero, Nat.div_one]; rfl, Hml.out⟩
      case round =>
        obtain ⟨j, x, hj, rfl, rfl, hx, hxl⟩ := hrel
        by_cases hlt : E + j < 1075
        · go_wp2
          go_round
          case rel => exact ⟨j + 1, x / 2, by omega, by go_num, by go_num, by rw [hx.out, half_step]; rfl, by omega⟩
          case measure => simp [intOf]; omega
        · have hj' : Hid (j = 1075 - E) := by show _ = _; omega
          go_wp2
          go_loop [5, 7] (fun m i => ∃ k y : Nat, 1075 + k ≤ max E 1075 ∧ i = .int .i64 ((1075 + k : Nat) : Int) ∧ m = .int .u64 (y : Int) ∧ Hid (y = x * 2 ^ k) ∧ y < 9223372036854775808) (fun _ i => 2000 - (intOf i).toNat)
          case atStart => exact ⟨0, x, by omega, rfl, rfl, by rw [Nat.pow_zero, Nat.mul_one]; rfl, by omega⟩
          case round =>
            obtain ⟨k, y, hk, rfl, rfl, hy, hyl⟩ := hrel
            by_cases hlt2 : 1075 + k < E
            · have hy2 : 2 * y < 9223372036854775808 := by
                have := grow_lt (m := M) (e := E) (j := k + 1) Hml.out (by omega) (by omega)
                rw [hy.out, hx.out, hj'.out]
                rw [Nat.pow_succ, ← Nat.mul_assoc] at this; omega
              go_wp2
              go_round
              case rel => exact ⟨k + 1, y * 2, by omega, by go_num, by go_num, by rw [hy.out, Nat.pow_succ, Nat.mul_assoc]; rfl, by omega⟩
              case measure => simp [intOf]; omega
            · have hk' : Hid (k = E - 1075) := by show _ = _; omega
              have hG : Hid (y = G) := by
                show _ = _
                rw [hy.out, hx.out, hj'.out, hk'.out, mag_end, Hmg.out]
              have hmid := Lib.hid (Hmid.out hb (by omega))
              by_cases hneg : n < 0
              · go_wp2
                go_ret
                exact ⟨ret_int (by rw [hmid.out, if_pos hneg, ← hG.out]; exact neg_back hyl), rfl⟩
              · go_wp2
                go_ret
                exact ⟨ret_int (by rw [hmid.out, if_neg (by omega), ← hG.out]), rfl⟩

theorem rtoint_any (n : Int) (w : World) :
    Calls Try.prog 25 #[.int .i64 n] w fun e w' => e = .returned (.int .i64 (toIntV n)) ∧ w = w' := by
  cases hn : isNanN (u64 n)
  · exact rtoint_num n w hn
  · exact rtoint_nan n w hn

end Go.Proofs.Ytiheecgabfcigaa
