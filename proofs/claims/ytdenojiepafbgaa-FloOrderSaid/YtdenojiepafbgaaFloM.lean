/- The walks of the statements on floats that lean on plain laws: edges, what stays, order, whole numbers. -/
import Derived.Test.YtdenojiepafbgaaFloL
namespace Go.Proofs.Ytdenojiepafbgaa
open Go.RowKit Flo

set_option maxHeartbeats 400000 in
theorem edges_aux (op a b n P Q : Int) (ok : Bool) (hD : Hid (doV op a b = (n, ok))) (hP : Hid (plainV a = P)) (hQ : Hid (plainV b = Q)) (hn : Hid (plainV n = n)) (hPP : Hid (plainV P = P)) (hE : Hid ((doV op P Q).1 = n)) (w : World)
    (hw : ok = false ∨ ok = true ∧ ((P != 9221120237041090560) = true ∧ (Q != 9221120237041090560) = true ∨ ((P != 9221120237041090560) = false ∨ (P != 9221120237041090560) = true ∧ (Q != 9221120237041090560) = false) ∧ (op ≤ 18 ∧ n = 9221120237041090560 ∨ ¬ op ≤ 18 ∧ n = 0))) :
    Calls Try.prog 4 #[.int .i64 op, .int .i64 a, .int .i64 b] w fun e w' => e = .returned (.bool true) ∧ Below w.heap.size w w' := by
  have hb := Below.refl w.heap.size w
  rcases hw with rfl | ⟨rfl, ⟨c1, c2⟩ | ⟨c1 | ⟨c1, c2⟩, ⟨c3, rfl⟩ | ⟨c3, rfl⟩⟩⟩
  all_goals
    go_enter Try.func4, Try.ntmps4
    go_wp2_with (first | ((with_reducible refine (do_val op a b _ _ hD.out _).mono ?_); rintro e w1 ⟨rfl, h⟩; replace hb := bthen hb h; clear h) | ((with_reducible refine (ldo_any op P Q _ hE.out _).mono ?_); rintro e w1 ⟨rfl, h⟩; replace hb := bthen hb h; clear h) | ((with_reducible refine (awake_any _).mono ?_); rintro e w3 ⟨rfl, h⟩; replace hb := bthen hb h; clear h) | ((with_reducible refine (plain_val a P hP.out _).mono ?_); rintro e w' ⟨rfl, rfl⟩) | ((with_reducible refine (plain_val b Q hQ.out _).mono ?_); rintro e w' ⟨rfl, rfl⟩) | ((with_reducible refine (plain_val P P hPP.out _).mono ?_); rintro e w' ⟨rfl, rfl⟩) | ((with_reducible refine (plain_val _ _ hn.out _).mono ?_); rintro e w' ⟨rfl, rfl⟩))
    go_ret
    exact ⟨rfl, hb⟩

theorem floEdges_walk (op a b : Int) (_w0 : (Lit.int .i64 op).wf = true) (_w1 : (Lit.int .i64 a).wf = true) (_w2 : (Lit.int .i64 b).wf = true) (w : World) :
    Calls Try.prog 4 #[.int .i64 op, .int .i64 a, .int .i64 b] w fun e w' => e = .returned (.bool true) ∧ Below w.heap.size w w' := by
  refine edges_aux op a b (doV op a b).1 (plainV a) (plainV b) (doV op a b).2 rfl rfl rfl (do_plain op a b) (plain_plain a) (by show _ = _; rw [do_of_plain]) w ?_
  cases hok : (doV op a b).2
  · exact .inl rfl
  · right
    refine ⟨rfl, ?_⟩
    obtain ⟨h15, h21⟩ := do_ok hok
    cases hp : isNanN (u64 a)
    · have p1 : (plainV a != 9221120237041090560) = true := by
        rw [bne_iff_ne]; intro h
        have := plain_is_nan h; rw [hp] at this; cases this
      cases hq : isNanN (u64 b)
      · left
        refine ⟨p1, ?_⟩
        rw [bne_iff_ne]; intro h
        have := plain_is_nan h; rw [hq] at this; cases this
      · right
        refine ⟨.inr ⟨p1, by simp [plainV, hq, nanC]⟩, ?_⟩
        by_cases h18 : op ≤ 18
        · exact .inl ⟨h18, by rw [doV_nan1 h15 h18 (.inr hq)]; rfl⟩
        · exact .inr ⟨h18, by rw [doV_nan2 (by omega) h21 (.inr hq)]⟩
    · right
      refine ⟨.inl (by simp [plainV, hp, nanC]), ?_⟩
      by_cases h18 : op ≤ 18
      · exact .inl ⟨h18, by rw [doV_nan1 h15 h18 (.inl hp)]; rfl⟩
      · exact .inr ⟨h18, by rw [doV_nan2 (by omega) h21 (.inl hp)]⟩

set_option maxHeartbeats 400000 in
theorem same_aux (a b P s1 s2 : Int) (hP : Hid (plainV a = P)) (h1 : Hid ((doV 15 a b).1 = s1)) (h2 : Hid ((doV 15 b a).1 = s1)) (h3 : Hid ((doV 17 a b).1 = s2)) (h4 : Hid ((doV 17 b a).1 = s2)) (h5 : Hid ((doV 15 a (-9223372036854775808)).1 = P)) (h6 : Hid ((doV 16 a 0).1 = P)) (h7 : Hid ((doV 17 a 4607182418800017408).1 = P)) (h8 : Hid ((doV 18 a 4607182418800017408).1 = P)) (w : World) :
    Calls Try.prog 5 #[.int .i64 a, .int .i64 b] w fun e w' => e = .returned (.bool true) ∧ Below w.heap.size w w' := by
  have hb := Below.refl w.heap.size w
  go_enter Try.func5, Try.ntmps5
  go_wp2_with (first | ((with_reducible refine (plain_val a P hP.out _).mono ?_); rintro e w' ⟨rfl, rfl⟩) | ((with_reducible refine (awake_any _).mono ?_); rintro e w3 ⟨rfl, h⟩; replace hb := bthen hb h; clear h) | ((with_reducible refine (ldo_any _ _ _ _ h1.out _).mono ?_); rintro e w1 ⟨rfl, h⟩; replace hb := bthen hb h; clear h) | ((with_reducible refine (ldo_any _ _ _ _ h2.out _).mono ?_); rintro e w1 ⟨rfl, h⟩; replace hb := bthen hb h; clear h) | ((with_reducible refine (ldo_any _ _ _ _ h3.out _).mono ?_); rintro e w1 ⟨rfl, h⟩; replace hb := bthen hb h; clear h) | ((with_reducible refine (ldo_any _ _ _ _ h4.out _).mono ?_); rintro e w1 ⟨rfl, h⟩; replace hb := bthen hb h; clear h) | ((with_reducible refine (ldo_any _ _ _ _ h5.out _).mono ?_); rintro e w1 ⟨rfl, h⟩; replace hb := bthen hb h; clear h) | ((with_reducible refine (ldo_any _ _ _ _ h6.out _).mono ?_); rintro e w1 ⟨rfl, h⟩; replace hb := bthen hb h; clear h) | ((with_reducible refine (ldo_any _ _ _ _ h7.out _).mono ?_); rintro e w1 ⟨rfl, h⟩; replace hb := bthen hb h; clear h) | ((with_reducible refine (ldo_any _ _ _ _ h8.out _).mono ?_); rintro e w1 ⟨rfl, h⟩; replace hb := bthen hb h; clear h))
  go_ret
  exact ⟨rfl, hb⟩
theorem floSame_walk (a b : Int) (w0 : (Lit.int .i64 a).wf = true) (_w1 : (Lit.int .i64 b).wf = true) (w : World) :
    Calls Try.prog 5 #[.int .i64 a, .int .i64 b] w fun e w' => e = .returned (.bool true) ∧ Below w.heap.size w w' := by
  obtain ⟨r1, r2⟩ := range_of w0
  exact same_aux a b (plainV a) (arithV .add (pb a) (pb b)) (arithV .mul (pb a) (pb b)) rfl rfl (add_comm' _ _) rfl (mul_comm' _ _) (add_neg0 r1 r2) (sub_zero' r1 r2) (mul_one' r1 r2) (div_one' r1 r2) w

set_option maxHeartbeats 400000 in
theorem order_aux (a b P Q lt gt eq le : Int) (hP : Hid (plainV a = P)) (hQ : Hid (plainV b = Q)) (h1 : Hid ((doV 20 a b).1 = lt)) (h2 : Hid ((doV 20 b a).1 = gt)) (h3 : Hid ((doV 19 a b).1 = eq)) (h4 : Hid ((doV 21 a b).1 = le)) (w : World)
    (hw : ((P == 9221120237041090560) = true ∨ (P == 9221120237041090560) = false ∧ (Q == 9221120237041090560) = true) ∧ lt = 0 ∧ gt = 0 ∧ eq = 0 ∧ le = 0 ∨
      ((P == 9221120237041090560) = false ∧ (Q == 9221120237041090560) = false) ∧ (lt = 1 ∧ gt = 0 ∧ eq = 0 ∧ le = 1 ∨ lt = 0 ∧ gt = 1 ∧ eq = 0 ∧ le = 0 ∨ lt = 0 ∧ gt = 0 ∧ eq = 1 ∧ le = 1)) :
    Calls Try.prog 6 #[.int .i64 a, .int .i64 b] w fun e w' => e = .returned (.bool true) ∧ Below w.heap.size w w' := by
  have hb := Below.refl w.heap.size w
  rcases hw with ⟨c1 | ⟨c1, c2⟩, rfl, rfl, rfl, rfl⟩ | ⟨⟨c1, c2⟩, ⟨rfl, rfl, rfl, rfl⟩ | ⟨rfl, rfl, rfl, rfl⟩ | ⟨rfl, rfl, rfl, rfl⟩⟩
  all_goals
    go_enter Try.func6, Try.ntmps6
    go_wp2_with (first | ((with_reducible refine (plain_val a P hP.out _).mono ?_); rintro e w' ⟨rfl, rfl⟩) | ((with_reducible refine (plain_val b Q hQ.out _).mono ?_); rintro e w' ⟨rfl, rfl⟩) | ((with_reducible refine (awake_any _).mono ?_); rintro e w3 ⟨rfl, h⟩; replace hb := bthen hb h; clear h) | ((with_reducible refine (ldo_any _ _ _ _ h1.out _).mono ?_); rintro e w1 ⟨rfl, h⟩; replace hb := bthen hb h; clear h) | ((with_reducible refine (ldo_any _ _ _ _ h2.out _).mono ?_); rintro e w1 ⟨rfl, h⟩; replace hb := bthen hb h; clear h) | ((with_reducible refine (ldo_any _ _ _ _ h3.out _).mono ?_); rintro e w1 ⟨rfl, h⟩; replace hb := bthen hb h; clear h) | ((with_reducible refine (ldo_any _ _ _ _ h4.out _).mono ?_); rintro e w1 ⟨rfl, h⟩; replace hb := bthen hb h; clear h))
    go_ret
    exact ⟨rfl, hb⟩
theorem order_val (a b : Int) (lt gt eq le : Int) (o : Ordering) (h1 : ordV (pb a) (pb b) = some o) (h2 : ordV (pb b) (pb a) = some o.swap)
    (e1 : lt = tr (o == .lt)) (e2 : gt = tr (o == .gt)) (e3 : eq = tr (o == .eq)) (e4 : le = tr (o != .gt)) :
    (doV 20 a b).1 = lt ∧ (doV 20 b a).1 = gt ∧ (doV 19 a b).1 = eq ∧ (doV 21 a b).1 = le := by
  subst e1; subst e2; subst e3; subst e4
  refine ⟨?_, ?_, ?_, ?_⟩
  · show tr (ordV (pb a) (pb b) == some .lt) = _
    rw [h1]; cases o <;> rfl
  · show tr (ordV (pb b) (pb a) == some .lt) = _
    rw [h2]; cases o <;> rfl
  · show tr (ordV (pb a) (pb b) == some .eq) = _
    rw [h1]; cases o <;> rfl
  · show tr (ordV (pb a) (pb b) == some .lt || ordV (pb a) (pb b) == some .eq) = _
    rw [h1]; cases o <;> rfl
theorem floOrder_walk (a b : Int) (_w0 : (Lit.int .i64 a).wf = true) (_w1 : (Lit.int .i64 b).wf = true) (w : World) :
    Calls Try.prog 6 #[.int .i64 a, .int .i64 b] w fun e w' => e = .returned (.bool true) ∧ Below w.heap.size w w' := by
  by_cases hn : isNanN (u64 a) = true ∨ isNanN (u64 b) = true
  · have hs : isNanN (u64 b) = true ∨ isNanN (u64 a) = true := hn.symm
    refine order_aux a b (plainV a) (plainV b) 0 0 0 0 rfl rfl (by show _ = _; rw [doV_nan2 (by omega) (by omega) hn]) (by show _ = _; rw [doV_nan2 (by omega) (by omega) hs]) (by show _ = _; rw [doV_nan2 (by omega) (by omega) hn]) (by show _ = _; rw [doV_nan2 (by omega) (by omega) hn]) w (.inl ⟨?_, rfl, rfl, rfl, rfl⟩)
    cases hp : isNanN (u64 a)
    · right
      have hq : isNanN (u64 b) = true := by rw [hp] at hn; simpa using hn
      refine ⟨?_, by simp [plainV, hq, nanC]⟩
      rw [beq_eq_false_iff_ne]; intro h
      have := plain_is_nan h; rw [hp] at this; cases this
    · exact .inl (by simp [plainV, hp, nanC])
  · have ha : isNanN (u64 a) = false := by cases h : isNanN (u64 a) <;> simp_all
    have hbn : isNanN (u64 b) = false := by cases h : isNanN (u64 b) <;> simp_all
    have p1 : (plainV a == 9221120237041090560) = false := by
      rw [beq_eq_false_iff_ne]; intro h
      have := plain_is_nan h; rw [ha] at this; cases this
    have p2 : (plainV b == 9221120237041090560) = false := by
      rw [beq_eq_false_iff_ne]; intro h
      have := plain_is_nan h; rw [hbn] at this; cases this
    obtain ⟨o, h1, h2⟩ := ord_num ha hbn
    cases o
    · obtain ⟨k1, k2, k3, k4⟩ := order_val a b 1 0 0 1 .lt h1 h2 rfl rfl rfl rfl
      exact order_aux a b (plainV a) (plainV b) 1 0 0 1 rfl rfl k1 k2 k3 k4 w (.inr ⟨⟨p1, p2⟩, .inl ⟨rfl, rfl, rfl, rfl⟩⟩)
    · obtain ⟨k1, k2, k3, k4⟩ := order_val a b 0 0 1 1 .eq h1 h2 rfl rfl rfl rfl
      exact order_aux a b (plainV a) (plainV b) 0 0 1 1 rfl rfl k1 k2 k3 k4 w (.inr ⟨⟨p1, p2⟩, .inr (.inr ⟨rfl, rfl, rfl, rfl⟩)⟩)
    · obtain ⟨k1, k2, k3, k4⟩ := order_val a b 0 1 0 0 .gt h1 h2 rfl rfl rfl rfl
      exact order_aux a b (plainV a) (plainV b) 0 1 0 0 rfl rfl k1 k2 k3 k4 w (.inr ⟨⟨p1, p2⟩, .inr (.inl ⟨rfl, rfl, rfl, rfl⟩)⟩)

theorem ofint_val (n m : Int) (h : ofIntV n = m) (w : World) :
    Calls Try.prog 21 #[.int .i64 n] w fun e w' => e = .returned (.int .i64 m) ∧ w = w' := by
  have := ofint_any n w
  rw [h] at this
  exact this
theorem ofInt_range (z : Int) : -9223372036854775808 ≤ ofIntV z ∧ ofIntV z ≤ 9223372036854775807 := by
  rw [ofIntV_eq]; unfold wrap64; omega
theorem toint_val (z : Int) (x : Int) (h : ofIntV z = x) (hz : z.natAbs ≤ 9007199254740992) (w : World) :
    Calls Try.prog 23 #[.int .i64 x] w fun e w' => e = .returned (.int .i64 z) ∧ w = w' := by
  have := toint_any x w (by rw [← h]; exact (ofInt_range z).1) (by rw [← h]; exact (ofInt_range z).2)
  rw [← h, toInt_ofInt z hz] at this
  rw [← h]
  exact this

set_option maxHeartbeats 400000 in
theorem whole_small (a b : Int) (w : World) (h : 4503599627370496 < a ∨ ¬ 4503599627370496 < a ∧ (a < -4503599627370496 ∨ ¬ a < -4503599627370496 ∧ (4503599627370496 < b ∨ ¬ 4503599627370496 < b ∧ b < -4503599627370496))) :
    Calls Try.prog 9 #[.int .i64 a, .int .i64 b] w fun e w' => e = .returned (.bool true) ∧ Below w.heap.size w w' := by
  rcases h with h | ⟨h1, h | ⟨h2, h | ⟨h3, h⟩⟩⟩
  all_goals
    go_enter Try.func9, Try.ntmps9
    go_wp2_with ((with_reducible refine (awake_any _).mono ?_); rintro e w3 ⟨rfl, hb⟩)
    go_ret
    exact ⟨rfl, hb⟩

set_option maxHeartbeats 400000 in
theorem whole_aux (a b x y s d l : Int) (w : World) (h1 : ¬ 4503599627370496 < a) (h2 : ¬ a < -4503599627370496) (h3 : ¬ 4503599627370496 < b) (h4 : ¬ b < -4503599627370496)
    (hx : Hid (ofIntV a = x)) (hy : Hid (ofIntV b = y)) (hs : Hid ((doV 15 x y).1 = s)) (hd : Hid ((doV 16 x y).1 = d)) (hl : Hid ((doV 20 x y).1 = l)) (hs2 : Hid (ofIntV (a + b) = s)) (hd2 : Hid (ofIntV (a - b) = d)) (hlw : a < b ∧ l = 1 ∨ ¬ a < b ∧ l = 0) :
    Calls Try.prog 9 #[.int .i64 a, .int .i64 b] w fun e w' => e = .returned (.bool true) ∧ Below w.heap.size w w' := by
  have hb := Below.refl w.heap.size w
  have n1 : Hid (a.natAbs ≤ 9007199254740992) := by show _ ≤ _; omega
  have n2 : Hid ((a + b).natAbs ≤ 9007199254740992) := by show _ ≤ _; omega
  have n3 : Hid ((a - b).natAbs ≤ 9007199254740992) := by show _ ≤ _; omega
  rcases hlw with ⟨c, rfl⟩ | ⟨c, rfl⟩
  all_goals
    go_enter Try.func9, Try.ntmps9
    go_wp2_with (first | ((with_reducible refine (awake_any _).mono ?_); rintro e w3 ⟨rfl, h⟩; replace hb := bthen hb h; clear h) | ((with_reducible refine (ofint_val a x hx.out _).mono ?_); rintro e w' ⟨rfl, rfl⟩) | ((with_reducible refine (ofint_val b y hy.out _).mono ?_); rintro e w' ⟨rfl, rfl⟩) | ((with_reducible refine (toint_val a x hx.out n1.out _).mono ?_); rintro e w' ⟨rfl, rfl⟩) | ((with_reducible refine (toint_val _ s hs2.out n2.out _).mono ?_); rintro e w' ⟨rfl, rfl⟩) | ((with_reducible refine (toint_val _ d hd2.out n3.out _).mono ?_); rintro e w' ⟨rfl, rfl⟩) | ((with_reducible refine (ldo_any _ _ _ _ hs.out _).mono ?_); rintro e w1 ⟨rfl, h⟩; replace hb := bthen hb h; clear h) | ((with_reducible refine (ldo_any _ _ _ _ hd.out _).mono ?_); rintro e w1 ⟨rfl, h⟩; replace hb := bthen hb h; clear h) | ((with_reducible refine (ldo_any _ _ _ _ hl.out _).mono ?_); rintro e w1 ⟨rfl, h⟩; replace hb := bthen hb h; clear h))
    go_ret
    exact ⟨rfl, hb⟩
theorem floWhole_walk (a b : Int) (_w0 : (Lit.int .i64 a).wf = true) (_w1 : (Lit.int .i64 b).wf = true) (w : World) :
    Calls Try.prog 9 #[.int .i64 a, .int .i64 b] w fun e w' => e = .returned (.bool true) ∧ Below w.heap.size w w' := by
  by_cases h : 4503599627370496 < a ∨ a < -4503599627370496 ∨ 4503599627370496 < b ∨ b < -4503599627370496
  · exact whole_small a b w (by omega)
  · have ha : a.natAbs ≤ 4503599627370496 := by omega
    have hb : b.natAbs ≤ 4503599627370496 := by omega
    refine whole_aux a b _ _ _ _ (tr (decide (a < b))) w (by omega) (by omega) (by omega) (by omega) rfl rfl (add_whole ha hb) (sub_whole ha hb) (lt_whole ha hb) rfl rfl ?_
    by_cases hlt : a < b
    · exact .inl ⟨hlt, by simp [hlt, tr]⟩
    · exact .inr ⟨hlt, by simp [hlt, tr]⟩

end Go.Proofs.Ytdenojiepafbgaa
