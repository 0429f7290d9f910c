/- The walks of the float functions of package flo and of its reference: what each call answers. -/
import Derived.Test.YtiheecgabfcigaaRows
import Derived.Test.YtiheecgabfcigaaFlo
import Derived.Test.YtiheecgabfcigaaKit
import Derived.WalkKit
import Derived.Lib.Hide
import Derived.WalkSpells
import Derived.WalkLawsBesides
namespace Go.Proofs.Ytiheecgabfcigaa
open Go.RowKit Flo

@[go_sem] theorem run_frombits (n : Int) (w : World) : (callFunc 46 #[.int .u64 n]).run Try.prog w = .ok (.value (.float .f64 n.toNat)) w := by
  rw [run_callFunc_extern (e := Extern.MathFloatBits.float64frombits) Try.func46 (by kernel_rfl) (by kernel_rfl) (by kernel_rfl) (by kernel_rfl)]
  rfl
@[go_sem] theorem run_tobits (n : Nat) (w : World) : (callFunc 53 #[.float .f64 n]).run Try.prog w = .ok (.value (.int .u64 n)) w := by
  rw [run_callFunc_extern (e := Extern.MathFloatBits.float64bits) Try.func53 (by kernel_rfl) (by kernel_rfl) (by kernel_rfl) (by kernel_rfl)]
  rfl

set_option maxHeartbeats 400000 in
theorem plain_any (n : Int) (w : World) :
    Calls Try.prog 54 #[.int .i64 n] w fun e w' => e = .returned (.int .i64 (plainV n)) ∧ w = w' := by
  go_enter Try.func54, Try.ntmps54
  go_wp2
  · go_ret; exact ⟨ret_int (plain_yes (by assumption) (by assumption)).symm, rfl⟩
  · go_ret; exact ⟨ret_int (plain_no2 (by assumption)).symm, rfl⟩
  · go_ret; exact ⟨ret_int (plain_no1 (by assumption)).symm, rfl⟩

set_option maxHeartbeats 400000 in
theorem of_any (n : Int) (w : World) :
    Calls Try.prog 49 #[.int .i64 n] w fun e w' => e = .returned (.float .f64 (pb n)) ∧ w = w' := by
  go_enter Try.func49, Try.ntmps49
  go_wp2_with ((with_reducible refine (plain_any ..).mono ?_); rintro e w' ⟨rfl, rfl⟩)
  go_ret
  exact ⟨by rw [IntKind.wrap_u64]; rfl, rfl⟩

set_option maxHeartbeats 400000 in
theorem to_any (x : Nat) (w : World) :
    Calls Try.prog 48 #[.float .f64 x] w fun e w' => e = .returned (.int .i64 (plainV (wrap64 x))) ∧ w = w' := by
  go_enter Try.func48, Try.ntmps48
  go_wp2_with ((with_reducible refine (plain_any ..).mono ?_); rintro e w' ⟨rfl, rfl⟩)
  go_ret
  exact ⟨rfl, rfl⟩

set_option maxHeartbeats 400000 in
theorem truth_any (b : Bool) (w : World) :
    Calls Try.prog 52 #[.bool b] w fun e w' => e = .returned (.tuple #[.int .i64 (tr b), .bool true]) ∧ w = w' := by
  cases b <;>
  · go_enter Try.func52, Try.ntmps52
    go_wp2
    go_ret2
    exact ⟨rfl, rfl⟩

set_option maxHeartbeats 400000 in
theorem rtruth_any (b : Bool) (w : World) :
    Calls Try.prog 47 #[.bool b] w fun e w' => e = .returned (.int .i64 (tr b)) ∧ w = w' := by
  cases b <;>
  · go_enter Try.func47, Try.ntmps47
    go_wp2
    go_ret
    exact ⟨rfl, rfl⟩

set_option maxHeartbeats 400000 in
theorem isnan_any (n : Int) (w : World) :
    Calls Try.prog 29 #[.int .i64 n] w fun e w' => e = .returned (.bool (isNanN (u64 n))) ∧ w = w' := by
  go_enter Try.func29, Try.ntmps29
  go_wp2
  go_ret
  exact ⟨ret_bool (isnan_eq n), rfl⟩

set_option maxHeartbeats 400000 in
theorem rplain_any (n : Int) (w : World) :
    Calls Try.prog 10 #[.int .i64 n] w fun e w' => e = .returned (.int .i64 (plainV n)) ∧ w = w' := by
  cases h : isNanN (u64 n)
  all_goals
    have hv : plainV n = if isNanN (u64 n) then nanC else n := rfl
    rw [h] at hv
    go_enter Try.func10, Try.ntmps10
    go_wp2_with ((with_reducible refine (isnan_any ..).mono ?_); rintro e w' ⟨rfl, rfl⟩)
    go_ret
    exact ⟨ret_int hv.symm, rfl⟩

set_option maxHeartbeats 400000 in
theorem made_any (x : Nat) (hx : Hid (x < 18446744073709551616)) (w : World) :
    Calls Try.prog 41 #[.float .f64 x] w fun e w' => e = .returned (.int .i64 (plainV (wrap64 x))) ∧ w = w' := by
  cases h : (FloatKind.f64.format.order x x != some .eq)
  · go_enter Try.func41, Try.ntmps41
    go_wp2
    go_ret
    exact ⟨ret_int (made_no hx.out h).symm, rfl⟩
  · go_enter Try.func41, Try.ntmps41
    go_wp2
    go_ret
    exact ⟨ret_int (made_yes hx.out h).symm, rfl⟩

theorem ret_do {op a b n : Int} {y : Bool} (h : doV op a b = (n, y)) : Ending.returned (.tuple #[.int .i64 n, .bool y]) = .returned (.tuple #[.int .i64 (doV op a b).1, .bool (doV op a b).2]) := by rw [h]

set_option maxHeartbeats 400000 in
theorem do_any (op a b : Int) (w : World) :
    Calls Try.prog 38 #[.int .i64 op, .int .i64 a, .int .i64 b] w fun e w' => e = .returned (.tuple #[.int .i64 (doV op a b).1, .bool (doV op a b).2]) ∧ Below w.heap.size w w' := by
  obtain ⟨r1, w1, hr1, hb1, _, hv1⟩ := arith_run (P := Try.prog) .add (by simp) 57 (pb a) (pb b) w
  obtain ⟨r2, w2, hr2, hb2, _, hv2⟩ := arith_run (P := Try.prog) .sub (by simp) 57 (pb a) (pb b) w
  obtain ⟨r3, w3, hr3, hb3, _, hv3⟩ := arith_run (P := Try.prog) .mul (by simp) 57 (pb a) (pb b) w
  obtain ⟨r4, w4, hr4, hb4, _, hv4⟩ := arith_run (P := Try.prog) .quo (by simp) 57 (pb a) (pb b) w
  have H1 := Lib.hid hv1
  have H2 := Lib.hid hv2
  have H3 := Lib.hid hv3
  have H4 := Lib.hid hv4
  clear hv1 hv2 hv3 hv4
  go_enter Try.func38, Try.ntmps38
  go_wp2_with (first | ((with_reducible refine (of_any ..).mono ?_); rintro e w' ⟨rfl, rfl⟩) | ((with_reducible refine (to_any ..).mono ?_); rintro e w' ⟨rfl, rfl⟩) | ((with_reducible refine (truth_any ..).mono ?_); rintro e w' ⟨rfl, rfl⟩))
  all_goals go_ret2
  all_goals refine ⟨ret_do ?_, by first | assumption | exact Below.refl _ _⟩
  · exact doV_add ‹_› H1.out
  · exact doV_sub ‹_› H2.out
  · exact doV_mul ‹_› H3.out
  · exact doV_quo ‹_› H4.out
  · exact doV_eql ‹_›
  · exact doV_lss ‹_›
  · exact doV_leq ‹_›
  · exact doV_none ‹_› ‹_› ‹_› ‹_› ‹_› ‹_› ‹_›

set_option maxHeartbeats 400000 in
theorem rdo_out (op a b : Int) (w : World) (h : op < 15 ∨ 21 < op) :
    Calls Try.prog 27 #[.int .i64 op, .int .i64 a, .int .i64 b] w fun e w' => e = .returned (.tuple #[.int .i64 (doV op a b).1, .bool (doV op a b).2]) ∧ Below w.heap.size w w' := by
  have H := Lib.hid (doV_out (a := a) (b := b) h)
  rcases h with h | h
  · go_enter Try.func27, Try.ntmps27
    go_wp2
    go_ret2
    exact ⟨ret_do H.out, Below.refl _ _⟩
  · have h' : ¬ op < 15 := by omega
    go_enter Try.func27, Try.ntmps27
    go_wp2
    go_ret2
    exact ⟨ret_do H.out, Below.refl _ _⟩

set_option maxHeartbeats 400000 in
theorem rdo_nan (op a b : Int) (w : World) (h1 : 15 ≤ op) (h2 : op ≤ 21) (h : isNanN (u64 a) = true ∨ isNanN (u64 b) = true) :
    Calls Try.prog 27 #[.int .i64 op, .int .i64 a, .int .i64 b] w fun e w' => e = .returned (.tuple #[.int .i64 (doV op a b).1, .bool (doV op a b).2]) ∧ Below w.heap.size w w' := by
  have H1 := Lib.hid (fun h3 => doV_nan1 (a := a) (b := b) h1 h3 h)
  have H2 := Lib.hid (fun h3 => doV_nan2 (a := a) (b := b) h3 h2 h)
  have ha : isNanN (u64 a) = true ∨ (isNanN (u64 a) = false ∧ isNanN (u64 b) = true) := by
    cases hh : isNanN (u64 a)
    · rw [hh] at h; simpa using h
    · simp
  clear h
  have h3 : ¬ op < 15 := by omega
  have h4 : ¬ 21 < op := by omega
  by_cases h5 : op ≤ 18
  · rcases ha with ha | ⟨ha, hb⟩
    · go_enter Try.func27, Try.ntmps27
      go_wp2_with ((with_reducible refine (isnan_any ..).mono ?_); rintro e w' ⟨rfl, rfl⟩)
      go_ret2
      exact ⟨ret_do (H1.out h5), Below.refl _ _⟩
    · go_enter Try.func27, Try.ntmps27
      go_wp2_with ((with_reducible refine (isnan_any ..).mono ?_); rintro e w' ⟨rfl, rfl⟩)
      go_ret2
      exact ⟨ret_do (H1.out h5), Below.refl _ _⟩
  · have h6 : 18 < op := by omega
    rcases ha with ha | ⟨ha, hb⟩
    · go_enter Try.func27, Try.ntmps27
      go_wp2_with ((with_reducible refine (isnan_any ..).mono ?_); rintro e w' ⟨rfl, rfl⟩)
      go_ret2
      exact ⟨ret_do (H2.out h6), Below.refl _ _⟩
    · go_enter Try.func27, Try.ntmps27
      go_wp2_with ((with_reducible refine (isnan_any ..).mono ?_); rintro e w' ⟨rfl, rfl⟩)
      go_ret2
      exact ⟨ret_do (H2.out h6), Below.refl _ _⟩

set_option maxHeartbeats 400000 in
theorem rdo_num (op a b : Int) (w : World) (h1 : 15 ≤ op) (h2 : op ≤ 21) (ha : isNanN (u64 a) = false) (hb : isNanN (u64 b) = false) :
    Calls Try.prog 27 #[.int .i64 op, .int .i64 a, .int .i64 b] w fun e w' => e = .returned (.tuple #[.int .i64 (doV op a b).1, .bool (doV op a b).2]) ∧ Below w.heap.size w w' := by
  obtain ⟨r1, w1, hr1, hb1, hl1, hv1⟩ := arith_run (P := Try.prog) .add (by simp) 57 (u64 a) (u64 b) w
  obtain ⟨r2, w2, hr2, hb2, hl2, hv2⟩ := arith_run (P := Try.prog) .sub (by simp) 57 (u64 a) (u64 b) w
  obtain ⟨r3, w3, hr3, hb3, hl3, hv3⟩ := arith_run (P := Try.prog) .mul (by simp) 57 (u64 a) (u64 b) w
  obtain ⟨r4, w4, hr4, hb4, hl4, hv4⟩ := arith_run (P := Try.prog) .quo (by simp) 57 (u64 a) (u64 b) w
  have ea : Hid (pb a = u64 a) := pb_of_num ha
  have eb : Hid (pb b = u64 b) := pb_of_num hb
  have H1 := Lib.hid hv1
  have H2 := Lib.hid hv2
  have H3 := Lib.hid hv3
  have H4 := Lib.hid hv4
  have L1 := Lib.hid hl1
  have L2 := Lib.hid hl2
  have L3 := Lib.hid hl3
  have L4 := Lib.hid hl4
  have h3 : ¬ op < 15 := by omega
  have h4 : ¬ 21 < op := by omega
  have tu (n : Int) : (IntKind.u64.wrap n).toNat = u64 n := by rw [IntKind.wrap_u64]; rfl
  clear hv1 hv2 hv3 hv4 hl1 hl2 hl3 hl4
  have hop : op = 15 ∨ op = 16 ∨ op = 17 ∨ op = 18 ∨ op = 19 ∨ op = 20 ∨ op = 21 := by omega
  clear h1 h2 h3 h4
  rcases hop with rfl | rfl | rfl | rfl | rfl | rfl | rfl
  all_goals
    go_enter Try.func27, Try.ntmps27
    go_wp2_with (first | ((with_reducible refine (isnan_any ..).mono ?_); rintro e w' ⟨rfl, rfl⟩) | ((with_reducible refine (made_any _ (by assumption) _).mono ?_); rintro e w' ⟨rfl, rfl⟩) | ((with_reducible refine (rtruth_any ..).mono ?_); rintro e w' ⟨rfl, rfl⟩))
  all_goals go_ret2
  all_goals refine ⟨ret_do ?_, by first | assumption | exact Below.refl _ _⟩
  · exact doV_add rfl (by rw [ea.out, eb.out]; exact H1.out)
  · exact doV_sub rfl (by rw [ea.out, eb.out]; exact H2.out)
  · exact doV_mul rfl (by rw [ea.out, eb.out]; exact H3.out)
  · exact doV_quo rfl (by rw [ea.out, eb.out]; exact H4.out)
  · exact by rw [← ea.out, ← eb.out]; exact doV_eql rfl
  · exact by rw [← ea.out, ← eb.out]; exact doV_lss rfl
  · rename_i h; exact by rw [doV_leq rfl, ea.out, eb.out, h]; rfl
  · exact by rw [← ea.out, ← eb.out]; exact doV_leq rfl

theorem rdo_any (op a b : Int) (w : World) :
    Calls Try.prog 27 #[.int .i64 op, .int .i64 a, .int .i64 b] w fun e w' => e = .returned (.tuple #[.int .i64 (doV op a b).1, .bool (doV op a b).2]) ∧ Below w.heap.size w w' := by
  by_cases h : op < 15 ∨ 21 < op
  · exact rdo_out op a b w h
  · cases ha : isNanN (u64 a)
    · cases hb : isNanN (u64 b)
      · exact rdo_num op a b w (by omega) (by omega) ha hb
      · exact rdo_nan op a b w (by omega) (by omega) (.inr hb)
    · exact rdo_nan op a b w (by omega) (by omega) (.inl ha)

set_option maxHeartbeats 400000 in
theorem ofint_any (n : Int) (w : World) :
    Calls Try.prog 32 #[.int .i64 n] w fun e w' => e = .returned (.int .i64 (ofIntV n)) ∧ w = w' := by
  go_enter Try.func32, Try.ntmps32
  go_wp2_with ((with_reducible refine (to_any ..).mono ?_); rintro e w' ⟨rfl, rfl⟩)
  go_ret
  exact ⟨rfl, rfl⟩

set_option maxHeartbeats 400000 in
theorem rofint_any (n : Int) (w : World) :
    Calls Try.prog 23 #[.int .i64 n] w fun e w' => e = .returned (.int .i64 (ofIntV n)) ∧ w = w' := by
  have H : Hid (floatOfInt .f64 n < 18446744073709551616) := ofInt_lt n
  go_enter Try.func23, Try.ntmps23
  go_wp2_with ((with_reducible refine (made_any _ (by assumption) _).mono ?_); rintro e w' ⟨rfl, rfl⟩)
  go_ret
  exact ⟨rfl, rfl⟩

set_option maxHeartbeats 400000 in
theorem is_any (op : Int) (w : World) :
    Calls Try.prog 37 #[.int .i64 op] w fun e w' => e = .returned (.bool (decide (15 ≤ op) && decide (op ≤ 21))) ∧ w = w' := by
  by_cases h1 : 15 ≤ op
  all_goals
    go_enter Try.func37, Try.ntmps37
    go_wp2
    all_goals go_ret
    all_goals exact ⟨ret_bool (by first | (simp_all; done) | (simp_all; omega)), rfl⟩

end Go.Proofs.Ytiheecgabfcigaa
