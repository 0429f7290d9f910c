/- The walks of the statements on whole numbers. -/
import Derived.Test.YtfjklmedndfbeaaNumE
import Derived.Test.YtfjklmedndfbeaaLift
namespace Go.Proofs.Ytfjklmedndfbeaa
open Go.RowKit Num

theorem rangeN {a : Int} (h : (Lit.int .i64 a).wf = true) : -9223372036854775808 ≤ a ∧ a ≤ 9223372036854775807 := by
  simpa [Lit.wf, IntKind.min, IntKind.max, IntKind.signed, IntKind.bits] using h
theorem ndo_val (op a b n : Int) (ok : Bool) (h : doN op a b = (n, ok)) (w : World) :
    Calls Try.prog 9 #[.int .i64 op, .int .i64 a, .int .i64 b] w fun e w' => e = .returned (.tuple #[.int .i64 n, .bool ok]) ∧ w = w' := by
  have := ndo_any op a b w
  rw [h] at this
  exact this
set_option maxHeartbeats 400000 in
theorem ndo1 (op a b v : Int) (hv : (doN op a b).1 = v) (w : World) :
    Calls Try.prog 11 #[.int .i64 op, .int .i64 a, .int .i64 b] w fun e w' => e = .returned (.int .i64 v) ∧ w = w' := by
  have H := Lib.hid hv
  clear hv
  go_enter Try.func11, Try.ntmps11
  go_wp2_with ((with_reducible refine (ndo_any ..).mono ?_); rintro e w' ⟨rfl, rfl⟩)
  go_ret
  exact ⟨ret_int H.out, rfl⟩
theorem nget_val (s : ByteArray) (k : Int) (b : Bool) (h : getN s.data.toList = (k, b)) (w : World) :
    Calls Try.prog 13 #[.string s] w fun e w' => e = .returned (.tuple #[.int .i64 k, .bool b]) ∧ Below w.heap.size w w' := by
  refine (nget_any s w).mono fun e w' ⟨he, hb⟩ => ⟨?_, hb⟩
  rw [NGetIs, h] at he
  exact he

theorem get01 : getN ({ data := #[48, 49] } : ByteArray).data.toList = (0, false) := by decide +kernel
theorem getm12 : getN ({ data := #[45, 49, 50] } : ByteArray).data.toList = (-12, true) := by decide +kernel
theorem nget_01 (w : World) : Calls Try.prog 13 #[.string { data := #[48, 49] }] w fun e w' => e = .returned (.tuple #[.int .i64 0, .bool false]) ∧ Below w.heap.size w w' := nget_val _ _ _ get01 w
theorem nget_m12 (w : World) : Calls Try.prog 13 #[.string { data := #[45, 49, 50] }] w fun e w' => e = .returned (.tuple #[.int .i64 (-12), .bool true]) ∧ Below w.heap.size w w' := nget_val _ _ _ getm12 w
theorem aw_div0 : doN 4 1 0 = (0, false) := by decide +kernel
theorem aw_div : (doN 4 (-7) 2).1 = -3 := by decide +kernel
theorem aw_rem : (doN 5 (-7) 2).1 = -1 := by decide +kernel
theorem aw_shl : (doN 9 1 65).1 = 2 := by decide +kernel
set_option maxRecDepth 100000 in
set_option maxHeartbeats 400000 in
theorem nawake_any (w : World) :
    Calls Try.prog 10 #[] w fun e w' => e = .returned (.bool true) ∧ Below w.heap.size w w' := by
  have hb := Below.refl w.heap.size w
  go_enter Try.func10, Try.ntmps10
  go_wp2_with (first | ((with_reducible refine (ndo_val _ _ _ _ _ aw_div0 _).mono ?_); rintro e w' ⟨rfl, rfl⟩) | ((with_reducible refine (ndo1 _ _ _ _ aw_div _).mono ?_); rintro e w' ⟨rfl, rfl⟩) | ((with_reducible refine (ndo1 _ _ _ _ aw_rem _).mono ?_); rintro e w' ⟨rfl, rfl⟩) | ((with_reducible refine (ndo1 _ _ _ _ aw_shl _).mono ?_); rintro e w' ⟨rfl, rfl⟩) | ((with_reducible refine (nget_01 _).mono ?_); rintro e w1 ⟨rfl, h⟩; replace hb := bthen hb h; clear h) | ((with_reducible refine (nget_m12 _).mono ?_); rintro e w1 ⟨rfl, h⟩; replace hb := bthen hb h; clear h))
  go_ret
  exact ⟨rfl, hb⟩

set_option maxHeartbeats 400000 in
theorem ring_aux (a b c x1 x2 y1 p1 p2 q1 d1 ab ac m s1 : Int) (w : World) (e1 : Hid ((doN 1 a b).1 = x1)) (e2 : Hid ((doN 1 x1 c).1 = x2)) (e3 : Hid ((doN 1 c b).1 = y1)) (e4 : Hid ((doN 1 a y1).1 = x2)) (e5 : Hid ((doN 3 a b).1 = p1)) (e6 : Hid ((doN 3 p1 c).1 = p2)) (e7 : Hid ((doN 3 c b).1 = q1)) (e8 : Hid ((doN 3 a q1).1 = p2)) (e9 : Hid ((doN 1 b c).1 = m)) (e10 : Hid ((doN 3 a m).1 = s1)) (e11 : Hid ((doN 3 a c).1 = ac)) (e12 : Hid ((doN 1 p1 ac).1 = s1)) (e13 : Hid ((doN 2 a b).1 = d1)) (e14 : Hid ((doN 1 d1 b).1 = a)) :
    Calls Try.prog 4 #[.int .i64 a, .int .i64 b, .int .i64 c] w fun e w' => e = .returned (.bool true) ∧ Below w.heap.size w w' := by
  have hb := Below.refl w.heap.size w
  go_enter Try.func4, Try.ntmps4
  go_wp2_with (first | ((with_reducible refine (nawake_any _).mono ?_); rintro e w1 ⟨rfl, h⟩; replace hb := bthen hb h; clear h) | ((with_reducible refine (ndo1 _ _ _ _ e1.out _).mono ?_); rintro e w' ⟨rfl, rfl⟩) | ((with_reducible refine (ndo1 _ _ _ _ e2.out _).mono ?_); rintro e w' ⟨rfl, rfl⟩) | ((with_reducible refine (ndo1 _ _ _ _ e3.out _).mono ?_); rintro e w' ⟨rfl, rfl⟩) | ((with_reducible refine (ndo1 _ _ _ _ e4.out _).mono ?_); rintro e w' ⟨rfl, rfl⟩) | ((with_reducible refine (ndo1 _ _ _ _ e5.out _).mono ?_); rintro e w' ⟨rfl, rfl⟩) | ((with_reducible refine (ndo1 _ _ _ _ e6.out _).mono ?_); rintro e w' ⟨rfl, rfl⟩) | ((with_reducible refine (ndo1 _ _ _ _ e7.out _).mono ?_); rintro e w' ⟨rfl, rfl⟩) | ((with_reducible refine (ndo1 _ _ _ _ e8.out _).mono ?_); rintro e w' ⟨rfl, rfl⟩) | ((with_reducible refine (ndo1 _ _ _ _ e9.out _).mono ?_); rintro e w' ⟨rfl, rfl⟩) | ((with_reducible refine (ndo1 _ _ _ _ e10.out _).mono ?_); rintro e w' ⟨rfl, rfl⟩) | ((with_reducible refine (ndo1 _ _ _ _ e11.out _).mono ?_); rintro e w' ⟨rfl, rfl⟩) | ((with_reducible refine (ndo1 _ _ _ _ e12.out _).mono ?_); rintro e w' ⟨rfl, rfl⟩) | ((with_reducible refine (ndo1 _ _ _ _ e13.out _).mono ?_); rintro e w' ⟨rfl, rfl⟩) | ((with_reducible refine (ndo1 _ _ _ _ e14.out _).mono ?_); rintro e w' ⟨rfl, rfl⟩))
  go_ret
  exact ⟨rfl, hb⟩
theorem numRing_walk (a b c : Int) (w0 : (Lit.int .i64 a).wf = true) (_w1 : (Lit.int .i64 b).wf = true) (_w2 : (Lit.int .i64 c).wf = true) (w : World) :
    Calls Try.prog 4 #[.int .i64 a, .int .i64 b, .int .i64 c] w fun e w' => e = .returned (.bool true) ∧ Below w.heap.size w w' := by
  have hr := rangeN w0
  exact ring_aux a b c _ _ _ _ _ _ _ (doN 3 a b).1 _ _ _ w rfl rfl rfl (ring_sum a b c).symm rfl rfl rfl (ring_prod a b c).symm rfl rfl rfl (ring_spread a b c).symm rfl (ring_sub hr.1 hr.2)

set_option maxHeartbeats 400000 in
theorem order_auxN (a b lt gt eq ne le : Int) (w : World) (e1 : Hid ((doN 13 a b).1 = lt)) (e2 : Hid ((doN 13 b a).1 = gt)) (e3 : Hid ((doN 11 a b).1 = eq)) (e4 : Hid ((doN 12 a b).1 = ne)) (e5 : Hid ((doN 14 a b).1 = le)) (hw : lt = 1 ∧ gt = 0 ∧ eq = 0 ∧ ne = 1 ∧ le = 1 ∨ lt = 0 ∧ gt = 1 ∧ eq = 0 ∧ ne = 1 ∧ le = 0 ∨ lt = 0 ∧ gt = 0 ∧ eq = 1 ∧ ne = 0 ∧ le = 1) :
    Calls Try.prog 6 #[.int .i64 a, .int .i64 b] w fun e w' => e = .returned (.bool true) ∧ Below w.heap.size w w' := by
  have hb := Below.refl w.heap.size w
  rcases hw with ⟨rfl, rfl, rfl, rfl, rfl⟩ | ⟨rfl, rfl, rfl, rfl, rfl⟩ | ⟨rfl, rfl, rfl, rfl, rfl⟩
  all_goals
    go_enter Try.func6, Try.ntmps6
    go_wp2_with (first | ((with_reducible refine (nawake_any _).mono ?_); rintro e w1 ⟨rfl, h⟩; replace hb := bthen hb h; clear h) | ((with_reducible refine (ndo1 _ _ _ _ e1.out _).mono ?_); rintro e w' ⟨rfl, rfl⟩) | ((with_reducible refine (ndo1 _ _ _ _ e2.out _).mono ?_); rintro e w' ⟨rfl, rfl⟩) | ((with_reducible refine (ndo1 _ _ _ _ e3.out _).mono ?_); rintro e w' ⟨rfl, rfl⟩) | ((with_reducible refine (ndo1 _ _ _ _ e4.out _).mono ?_); rintro e w' ⟨rfl, rfl⟩) | ((with_reducible refine (ndo1 _ _ _ _ e5.out _).mono ?_); rintro e w' ⟨rfl, rfl⟩))
    go_ret
    exact ⟨rfl, hb⟩
theorem numOrder_walk (a b : Int) (_w0 : (Lit.int .i64 a).wf = true) (_w1 : (Lit.int .i64 b).wf = true) (w : World) :
    Calls Try.prog 6 #[.int .i64 a, .int .i64 b] w fun e w' => e = .returned (.bool true) ∧ Below w.heap.size w w' := by
  refine order_auxN a b (trN (decide (a < b))) (trN (decide (b < a))) (trN (a == b)) (trN (a != b)) (trN (decide (a ≤ b))) w rfl rfl rfl rfl rfl ?_
  rcases Int.lt_trichotomy a b with h | h | h
  · have h1 : ¬ b < a := by omega
    have h2 : ¬ a = b := by omega
    have h3 : a ≤ b := by omega
    simp [trN, h, h1, h2, h3]
  · subst h
    simp [trN]
  · have h1 : ¬ a < b := by omega
    have h2 : ¬ a = b := by omega
    have h3 : ¬ a ≤ b := by omega
    simp [trN, h, h1, h2, h3]

set_option maxHeartbeats 400000 in
theorem bits_auxN (a b A X O D H R hh s S63 : Int) (w : World) (e1 : Hid ((doN 6 a b).1 = A)) (e2 : Hid ((doN 8 a b).1 = X)) (e3 : Hid ((doN 7 a b).1 = O)) (e4 : Hid ((doN 1 A X).1 = O)) (e5 : Hid ((doN 6 A X).1 = 0)) (e6 : Hid ((doN 9 a 1).1 = D)) (e7 : Hid ((doN 1 a a).1 = D)) (e8 : Hid ((doN 10 a 1).1 = H)) (e9 : Hid ((doN 1 H H).1 = hh)) (e10 : Hid ((doN 2 a hh).1 = R)) (e11 : Hid ((doN 10 a b).1 = s)) (e12 : Hid ((doN 6 b 63).1 = S63)) (e13 : Hid ((doN 10 a S63).1 = s)) (hw : R = 0 ∨ R = 1) :
    Calls Try.prog 5 #[.int .i64 a, .int .i64 b] w fun e w' => e = .returned (.bool true) ∧ Below w.heap.size w w' := by
  have hb := Below.refl w.heap.size w
  rcases hw with rfl | rfl
  all_goals
    go_enter Try.func5, Try.ntmps5
    go_wp2_with (first | ((with_reducible refine (nawake_any _).mono ?_); rintro e w1 ⟨rfl, h⟩; replace hb := bthen hb h; clear h) | ((with_reducible refine (ndo1 _ _ _ _ e1.out _).mono ?_); rintro e w' ⟨rfl, rfl⟩) | ((with_reducible refine (ndo1 _ _ _ _ e2.out _).mono ?_); rintro e w' ⟨rfl, rfl⟩) | ((with_reducible refine (ndo1 _ _ _ _ e3.out _).mono ?_); rintro e w' ⟨rfl, rfl⟩) | ((with_reducible refine (ndo1 _ _ _ _ e4.out _).mono ?_); rintro e w' ⟨rfl, rfl⟩) | ((with_reducible refine (ndo1 _ _ _ _ e5.out _).mono ?_); rintro e w' ⟨rfl, rfl⟩) | ((with_reducible refine (ndo1 _ _ _ _ e6.out _).mono ?_); rintro e w' ⟨rfl, rfl⟩) | ((with_reducible refine (ndo1 _ _ _ _ e7.out _).mono ?_); rintro e w' ⟨rfl, rfl⟩) | ((with_reducible refine (ndo1 _ _ _ _ e8.out _).mono ?_); rintro e w' ⟨rfl, rfl⟩) | ((with_reducible refine (ndo1 _ _ _ _ e9.out _).mono ?_); rintro e w' ⟨rfl, rfl⟩) | ((with_reducible refine (ndo1 _ _ _ _ e10.out _).mono ?_); rintro e w' ⟨rfl, rfl⟩) | ((with_reducible refine (ndo1 _ _ _ _ e11.out _).mono ?_); rintro e w' ⟨rfl, rfl⟩) | ((with_reducible refine (ndo1 _ _ _ _ e12.out _).mono ?_); rintro e w' ⟨rfl, rfl⟩) | ((with_reducible refine (ndo1 _ _ _ _ e13.out _).mono ?_); rintro e w' ⟨rfl, rfl⟩))
    go_ret
    exact ⟨rfl, hb⟩
theorem numBits_walk (a b : Int) (w0 : (Lit.int .i64 a).wf = true) (_w1 : (Lit.int .i64 b).wf = true) (w : World) :
    Calls Try.prog 5 #[.int .i64 a, .int .i64 b] w fun e w' => e = .returned (.bool true) ∧ Below w.heap.size w w' := by
  have hr := rangeN w0
  have h1 : sh 1 = 1 := by decide
  refine bits_auxN a b (bits .and .i64 a b) (bits .xor .i64 a b) (bits .or .i64 a b) (wrap64 (a + a)) (a / 2 ^ 1) (a % 2) _ (a / 2 ^ sh b) ((sh b : Nat) : Int) w rfl rfl rfl (bits_sum a b) (bits_none a b) ?_ rfl rfl rfl (half_rest hr.1 hr.2) rfl (and_63 b) ?_ (by omega)
  · show wrap64 (a * 2 ^ sh 1) = _
    rw [h1, Int.pow_one]; congr 1; omega
  · show a / 2 ^ sh ((sh b : Nat) : Int) = _
    rw [sh_sh]

set_option maxHeartbeats 400000 in
theorem whole_zero (a : Int) (w : World) :
    Calls Try.prog 3 #[.int .i64 a, .int .i64 0] w fun e w' => e = .returned (.bool true) ∧ Below w.heap.size w w' := by
  have hb := Below.refl w.heap.size w
  have e1 : Hid (doN 4 a 0 = (0, false)) := rfl
  have e2 : Hid (doN 5 a 0 = (0, false)) := rfl
  go_enter Try.func3, Try.ntmps3
  go_wp2_with (first | ((with_reducible refine (nawake_any _).mono ?_); rintro e w1 ⟨rfl, h⟩; replace hb := bthen hb h; clear h) | ((with_reducible refine (ndo_val _ _ _ _ _ e1.out _).mono ?_); rintro e w' ⟨rfl, rfl⟩) | ((with_reducible refine (ndo_val _ _ _ _ _ e2.out _).mono ?_); rintro e w' ⟨rfl, rfl⟩))
  go_ret
  exact ⟨rfl, hb⟩

set_option maxHeartbeats 400000 in
theorem whole_auxN (a b q r p : Int) (w : World) (e1 : Hid (doN 4 a b = (q, true))) (e2 : Hid (doN 5 a b = (r, true))) (e3 : Hid ((doN 3 q b).1 = p)) (e4 : Hid ((doN 1 p r).1 = a)) (hb0 : (b == 0) = false) (hb1 : (b != 0) = true) (hs : r = 0 ∨ (r == 0) = false ∧ (decide (r < 0) == decide (a < 0)) = true ∧ (r < 0 ∧ a < 0 ∨ ¬ r < 0 ∧ ¬ a < 0)) (hn : 0 < b ∧ r < b ∧ -b < r ∧ wrap64 (-b) = -b ∨ ¬ 0 < b ∧ b < 0 ∧ (b = -9223372036854775808 ∨ wrap64 (-b) = -b ∧ (b != -9223372036854775808) = true ∧ r < -b ∧ b < r)) :
    Calls Try.prog 3 #[.int .i64 a, .int .i64 b] w fun e w' => e = .returned (.bool true) ∧ Below w.heap.size w w' := by
  have hb := Below.refl w.heap.size w
  rcases hs with rfl | ⟨hr0, hq, ⟨c1, c2⟩ | ⟨c1, c2⟩⟩
  all_goals rcases hn with ⟨n1, n2, n3, n6⟩ | ⟨n1, n0, rfl | ⟨n4, n5, n2, n3⟩⟩
  all_goals
    go_enter Try.func3, Try.ntmps3
    go_wp2_with (first | ((with_reducible refine (nawake_any _).mono ?_); rintro e w1 ⟨rfl, h⟩; replace hb := bthen hb h; clear h) | ((with_reducible refine (ndo_val _ _ _ _ _ e1.out _).mono ?_); rintro e w' ⟨rfl, rfl⟩) | ((with_reducible refine (ndo_val _ _ _ _ _ e2.out _).mono ?_); rintro e w' ⟨rfl, rfl⟩) | ((with_reducible refine (ndo1 _ _ _ _ e3.out _).mono ?_); rintro e w' ⟨rfl, rfl⟩) | ((with_reducible refine (ndo1 _ _ _ _ e4.out _).mono ?_); rintro e w' ⟨rfl, rfl⟩))
    go_ret
    exact ⟨rfl, hb⟩
theorem numWhole_walk (a b : Int) (w0 : (Lit.int .i64 a).wf = true) (w1 : (Lit.int .i64 b).wf = true) (w : World) :
    Calls Try.prog 3 #[.int .i64 a, .int .i64 b] w fun e w' => e = .returned (.bool true) ∧ Below w.heap.size w w' := by
  have hr := rangeN w0
  have hrb := rangeN w1
  by_cases h0 : b = 0
  · subst h0; exact whole_zero a w
  · obtain ⟨n1, n2⟩ := whole_near (a := a) h0
    refine whole_auxN a b _ _ _ w (div_at h0) (rem_at h0) rfl (whole_back hr.1 hr.2) (by simpa using h0) (by simpa using h0) ?_ ?_
    · by_cases hz : a.tmod b = 0
      · exact .inl hz
      · exact .inr ⟨by simpa using hz, by rw [beq_iff_eq]; exact decide_eq_decide.2 (by omega), by omega⟩
    · by_cases hp : 0 < b
      · exact .inl ⟨hp, by omega, by omega, wrap64_id (by omega) (by omega)⟩
      · by_cases hm : b = -9223372036854775808
        · exact .inr ⟨hp, by omega, .inl hm⟩
        · exact .inr ⟨hp, by omega, .inr ⟨wrap64_id (by omega) (by omega), by simpa using hm, by omega, by omega⟩⟩

set_option maxHeartbeats 400000 in
theorem nis_any (op : Int) (w : World) :
    Calls Try.prog 17 #[.int .i64 op] w fun e w' => e = .returned (.bool (decide (1 ≤ op) && decide (op ≤ 14))) ∧ w = w' := by
  by_cases h1 : 1 ≤ op
  all_goals
    go_enter Try.func17, Try.ntmps17
    go_wp2
    all_goals go_ret
    all_goals exact ⟨ret_bool (by first | (simp_all; done) | (simp_all; omega)), rfl⟩

set_option maxHeartbeats 400000 in
theorem numDoes_walk (op a b : Int) (_w0 : (Lit.int .i64 op).wf = true) (w1 : (Lit.int .i64 a).wf = true) (w2 : (Lit.int .i64 b).wf = true) (w : World) :
    Calls Try.prog 8 #[.int .i64 op, .int .i64 a, .int .i64 b] w fun e w' => e = .returned (.bool true) ∧ Below w.heap.size w w' := by
  have hra := Lib.hid (rangeN w1)
  have hrb := Lib.hid (rangeN w2)
  clear _w0 w1 w2
  have hb := Below.refl w.heap.size w
  have hop : op < 1 ∨ (1 ≤ op ∧ op ≤ 14) ∨ (1 ≤ op ∧ 14 < op) := by omega
  rcases hop with h1 | ⟨h1, h2⟩ | ⟨h1, h2⟩
  all_goals
    go_enter Try.func8, Try.ntmps8
    go_wp2_with (first | ((with_reducible refine (nawake_any _).mono ?_); rintro e w1 ⟨rfl, h⟩; replace hb := bthen hb h; clear h) | ((with_reducible refine (nis_any _ _).mono ?_); rintro e w' ⟨rfl, rfl⟩) | ((with_reducible refine (ndo_any ..).mono ?_); rintro e w' ⟨rfl, rfl⟩) | ((with_reducible refine (nrdo_any _ _ _ hra hrb _).mono ?_); rintro e w1 ⟨rfl, h⟩; replace hb := bthen hb h; clear h))
    go_ret
    exact ⟨rfl, hb⟩

theorem abs_of {n : Int} (h : -9223372036854775808 ≤ n ∧ n ≤ 9223372036854775807) : Hid (n.natAbs ≤ 9223372036854775808) := by show _ ≤ _; omega
theorem nput_val (n : Int) (s : ByteArray) (h : numText n = s.data.toList) (hn : Hid (n.natAbs ≤ 9223372036854775808)) (w : World) :
    Calls Try.prog 12 #[.int .i64 n] w fun e w' => e = .returned (.string s) ∧ Below w.heap.size w w' := by
  have := nput_any n hn w
  rw [h] at this
  exact this
theorem nrput_val (n : Int) (s : ByteArray) (h : numText n = s.data.toList) (hn : Hid (-9223372036854775808 ≤ n ∧ n ≤ 9223372036854775807)) (w : World) :
    Calls Try.prog 15 #[.int .i64 n] w fun e w' => e = .returned (.string s) ∧ Below w.heap.size w w' := by
  have := nrput_any n hn w
  rw [h] at this
  exact this
theorem nrget_val (s : ByteArray) (k : Int) (b : Bool) (h : getN s.data.toList = (k, b)) (hs : 1 ≤ s.size ∧ s.size ≤ 9223372036854775807) (w : World) :
    Calls Try.prog 14 #[.string s] w fun e w' => e = .returned (.tuple #[.int .i64 k, .bool b]) ∧ Below w.heap.size w w' := by
  refine (nrget_some s w hs.2 hs.1).mono fun e w' ⟨he, hb⟩ => ⟨?_, hb⟩
  rw [NGetIs, h] at he
  exact he
theorem rput_zero (w : World) : Calls Try.prog 15 #[.int .i64 0] w fun e w' => e = .returned (.string { data := #[48] }) ∧ Below w.heap.size w w' :=
  nrput_val 0 { data := #[48] } (by decide +kernel) (by show _ ∧ _; decide) w
set_option maxHeartbeats 400000 in
theorem nrget_empty (w : World) : Calls Try.prog 14 #[.string ByteArray.empty] w fun e w' => e = .returned (.tuple #[.int .i64 0, .bool false]) ∧ Below w.heap.size w w' := by
  have hb := Below.refl w.heap.size w
  have hz : wrap64 0 = 0 := by decide +kernel
  go_enter Try.func14, Try.ntmps14
  go_wp2
  refine wp_loop_rounds 1 ?_
  rw [rounds_succ]
  go_wp2_with (first | ((with_reducible refine (half_any _ _).mono ?_); rintro e w' ⟨rfl, rfl⟩) | ((with_reducible refine (rput_zero _).mono ?_); rintro e w1 ⟨rfl, h⟩; replace hb := bthen hb h; clear h))
  go_ret2
  exact ⟨rfl, hb⟩

set_option maxHeartbeats 400000 in
theorem ntexts_no (n k : Int) (s t : ByteArray) (hs1 : Hid (1 ≤ s.size ∧ s.size ≤ 9223372036854775807)) (hn : Hid (-9223372036854775808 ≤ n ∧ n ≤ 9223372036854775807)) (ht : Hid (numText n = t.data.toList)) (h1 : Hid (getN t.data.toList = (n, true))) (h2 : Hid (getN s.data.toList = (k, false))) (w : World) :
    Calls Try.prog 7 #[.int .i64 n, .string s] w fun e w' => e = .returned (.bool true) ∧ Below w.heap.size w w' := by
  have hb := Below.refl w.heap.size w
  go_enter Try.func7, Try.ntmps7
  go_wp2_with (first | ((with_reducible refine (nawake_any _).mono ?_); rintro e w1 ⟨rfl, h⟩; replace hb := bthen hb h; clear h) | ((with_reducible refine (nput_val n t ht.out (abs_of hn.out) _).mono ?_); rintro e w1 ⟨rfl, h⟩; replace hb := bthen hb h; clear h) | ((with_reducible refine (nrput_val n t ht.out hn _).mono ?_); rintro e w1 ⟨rfl, h⟩; replace hb := bthen hb h; clear h) | ((with_reducible refine (nget_val t n true h1.out _).mono ?_); rintro e w1 ⟨rfl, h⟩; replace hb := bthen hb h; clear h) | ((with_reducible refine (nget_val s k _ h2.out _).mono ?_); rintro e w1 ⟨rfl, h⟩; replace hb := bthen hb h; clear h) | ((with_reducible refine (nrget_val s k _ h2.out hs1.out _).mono ?_); rintro e w1 ⟨rfl, h⟩; replace hb := bthen hb h; clear h))
  go_ret
  exact ⟨rfl, hb⟩

set_option maxHeartbeats 400000 in
theorem ntexts_yes (n k : Int) (s t : ByteArray) (hs1 : Hid (1 ≤ s.size ∧ s.size ≤ 9223372036854775807)) (hn : Hid (-9223372036854775808 ≤ n ∧ n ≤ 9223372036854775807)) (ht : Hid (numText n = t.data.toList)) (h1 : Hid (getN t.data.toList = (n, true))) (h2 : Hid (getN s.data.toList = (k, true))) (hk : Hid (k.natAbs ≤ 9223372036854775808)) (h3 : Hid (numText k = s.data.toList)) (w : World) :
    Calls Try.prog 7 #[.int .i64 n, .string s] w fun e w' => e = .returned (.bool true) ∧ Below w.heap.size w w' := by
  have hb := Below.refl w.heap.size w
  go_enter Try.func7, Try.ntmps7
  go_wp2_with (first | ((with_reducible refine (nawake_any _).mono ?_); rintro e w1 ⟨rfl, h⟩; replace hb := bthen hb h; clear h) | ((with_reducible refine (nput_val n t ht.out (abs_of hn.out) _).mono ?_); rintro e w1 ⟨rfl, h⟩; replace hb := bthen hb h; clear h) | ((with_reducible refine (nput_val k s h3.out hk _).mono ?_); rintro e w1 ⟨rfl, h⟩; replace hb := bthen hb h; clear h) | ((with_reducible refine (nrput_val n t ht.out hn _).mono ?_); rintro e w1 ⟨rfl, h⟩; replace hb := bthen hb h; clear h) | ((with_reducible refine (nget_val t n true h1.out _).mono ?_); rintro e w1 ⟨rfl, h⟩; replace hb := bthen hb h; clear h) | ((with_reducible refine (nget_val s k _ h2.out _).mono ?_); rintro e w1 ⟨rfl, h⟩; replace hb := bthen hb h; clear h) | ((with_reducible refine (nrget_val s k _ h2.out hs1.out _).mono ?_); rintro e w1 ⟨rfl, h⟩; replace hb := bthen hb h; clear h))
  go_ret
  exact ⟨rfl, hb⟩

set_option maxHeartbeats 400000 in
theorem ntexts_empty (n : Int) (t : ByteArray) (hn : Hid (-9223372036854775808 ≤ n ∧ n ≤ 9223372036854775807)) (ht : Hid (numText n = t.data.toList)) (h1 : Hid (getN t.data.toList = (n, true))) (w : World) :
    Calls Try.prog 7 #[.int .i64 n, .string ByteArray.empty] w fun e w' => e = .returned (.bool true) ∧ Below w.heap.size w w' := by
  have hb := Below.refl w.heap.size w
  have h2 : Hid (getN ByteArray.empty.data.toList = (0, false)) := getN_size (.inl rfl)
  go_enter Try.func7, Try.ntmps7
  go_wp2_with (first | ((with_reducible refine (nawake_any _).mono ?_); rintro e w1 ⟨rfl, h⟩; replace hb := bthen hb h; clear h) | ((with_reducible refine (nput_val n t ht.out (abs_of hn.out) _).mono ?_); rintro e w1 ⟨rfl, h⟩; replace hb := bthen hb h; clear h) | ((with_reducible refine (nrput_val n t ht.out hn _).mono ?_); rintro e w1 ⟨rfl, h⟩; replace hb := bthen hb h; clear h) | ((with_reducible refine (nget_val t n true h1.out _).mono ?_); rintro e w1 ⟨rfl, h⟩; replace hb := bthen hb h; clear h) | ((with_reducible refine (nget_val ByteArray.empty _ _ h2.out _).mono ?_); rintro e w1 ⟨rfl, h⟩; replace hb := bthen hb h; clear h) | ((with_reducible refine (nrget_empty _).mono ?_); rintro e w1 ⟨rfl, h⟩; replace hb := bthen hb h; clear h))
  go_ret
  exact ⟨rfl, hb⟩
theorem numTexts_walk (n : Int) (s : ByteArray) (w0 : (Lit.int .i64 n).wf = true) (w1 : s.size ≤ 9223372036854775807) (w : World) :
    Calls Try.prog 7 #[.int .i64 n, .string s] w fun e w' => e = .returned (.bool true) ∧ Below w.heap.size w w' := by
  have hr := rangeN w0
  have ht : getN (numText n) = (n, true) := getN_text (by omega) hr.2
  by_cases h1 : 1 ≤ s.size
  · cases h : (getN s.data.toList).2
    · exact ntexts_no n _ s ⟨(numText n).toArray⟩ ⟨h1, w1⟩ hr rfl ht (Prod.ext rfl h) w
    · have hp : getN s.data.toList = ((getN s.data.toList).1, true) := Prod.ext rfl h
      exact ntexts_yes n _ s ⟨(numText n).toArray⟩ ⟨h1, w1⟩ hr rfl ht hp (getN_abs hp).1 (getN_back hp) w
  · have h0 : s.size = 0 := by omega
    have : s = ByteArray.empty := by simpa using h0
    subst this
    exact ntexts_empty n ⟨(numText n).toArray⟩ hr rfl ht w

end Go.Proofs.Ytfjklmedndfbeaa
