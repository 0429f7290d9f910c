/- The walks of the statements on floats that need no further plain law. -/
import Derived.Test.YtdenojiepafbgaaFloG
import Derived.Test.YtdenojiepafbgaaFloIW
import Derived.Test.YtdenojiepafbgaaFloB
import Derived.Test.YtdenojiepafbgaaLift
namespace Go.Proofs.Ytdenojiepafbgaa
open Go.RowKit Flo

set_option maxHeartbeats 400000 in
theorem ldo_any (op a b v : Int) (hv : (doV op a b).1 = v) (w : World) :
    Calls Try.prog 18 #[.int .i64 op, .int .i64 a, .int .i64 b] w fun e w' => e = .returned (.int .i64 v) ∧ Below w.heap.size w w' := by
  have H := Lib.hid hv
  clear hv
  go_enter Try.func18, Try.ntmps18
  go_wp2_with ((with_reducible refine (do_any ..).mono ?_); rintro e w' ⟨rfl, hb⟩)
  go_ret
  exact ⟨ret_int H.out, hb⟩

def textBad : List UInt8 := [48, 102, 55, 102, 102, 56, 48, 48, 48, 48, 48, 48, 48, 48, 48, 48, 48, 49]
theorem getBad : getV textBad = (0, false) := by decide +kernel
set_option maxRecDepth 100000 in
theorem get_bad (w : World) : Calls Try.prog 11 #[.string { data := #[48, 102, 55, 102, 102, 56, 48, 48, 48, 48, 48, 48, 48, 48, 48, 48, 48, 49] }] w fun e w' => e = .returned (.tuple #[.int .i64 0, .bool false]) ∧ Below w.heap.size w w' := by
  refine (get_any _ w).mono fun e w' ⟨h, hb⟩ => ⟨?_, hb⟩
  have h' : GetIs textBad e := h
  rw [GetIs, getBad] at h'
  exact h'

def textOne : List UInt8 := [48, 102, 51, 102, 102, 48, 48, 48, 48, 48, 48, 48, 48, 48, 48, 48, 48, 48]
theorem putOne : hexText (pb 4607182418800017408) = textOne := by decide +kernel
theorem put_one (w : World) : Calls Try.prog 10 #[.int .i64 4607182418800017408] w fun e w' => e = .returned (.string { data := #[48, 102, 51, 102, 102, 48, 48, 48, 48, 48, 48, 48, 48, 48, 48, 48, 48, 48] }) ∧ Below w.heap.size w w' := by
  refine (put_any _ w).mono fun e w' ⟨h, hb⟩ => ⟨?_, hb⟩
  rw [putOne] at h
  exact h

theorem aw1 : (doV 16 4607182418800017408 4607182418800017408).1 = 0 := by decide +kernel
theorem aw2 : (doV 19 (-9223372036854775808) 0).1 = 1 := by decide +kernel
theorem aw3 : (doV 15 (-9223372036854775808) (-9223372036854775808)).1 = -9223372036854775808 := by decide +kernel
theorem aw4 : (doV 18 0 0).1 = 9221120237041090560 := by decide +kernel
theorem aw5 : toIntV 4890909195324358656 = 9223372036854775807 := by decide +kernel
theorem toint_aw (w : World) : Calls Try.prog 23 #[.int .i64 4890909195324358656] w fun e w' => e = .returned (.int .i64 9223372036854775807) ∧ w = w' := by
  refine (toint_any _ w (by decide) (by decide)).mono fun e w' ⟨h, hb⟩ => ⟨?_, hb⟩
  rw [aw5] at h
  exact h

set_option maxRecDepth 100000 in
set_option maxHeartbeats 400000 in
theorem awake_any (w : World) :
    Calls Try.prog 13 #[] w fun e w' => e = .returned (.bool true) ∧ Below w.heap.size w w' := by
  go_enter Try.func13, Try.ntmps13
  go_wp2_with (first | ((with_reducible refine (get_bad _).mono ?_); rintro e w1 ⟨rfl, hb1⟩) | ((with_reducible refine (ldo_any _ _ _ _ aw1 _).mono ?_); rintro e w2 ⟨rfl, hb2⟩) | ((with_reducible refine (ldo_any _ _ _ _ aw2 _).mono ?_); rintro e w3 ⟨rfl, hb3⟩) | ((with_reducible refine (ldo_any _ _ _ _ aw3 _).mono ?_); rintro e w4 ⟨rfl, hb4⟩) | ((with_reducible refine (ldo_any _ _ _ _ aw4 _).mono ?_); rintro e w5 ⟨rfl, hb5⟩) | ((with_reducible refine (toint_aw _).mono ?_); rintro e w' ⟨rfl, rfl⟩) | ((with_reducible refine (put_one _).mono ?_); rintro e w6 ⟨rfl, hb6⟩))
  go_ret
  exact ⟨rfl, bthen hb1 (bthen hb2 (bthen hb3 (bthen hb4 (bthen hb5 hb6))))⟩

theorem do_val (op a b n : Int) (ok : Bool) (h : doV op a b = (n, ok)) (w : World) :
    Calls Try.prog 16 #[.int .i64 op, .int .i64 a, .int .i64 b] w fun e w' => e = .returned (.tuple #[.int .i64 n, .bool ok]) ∧ Below w.heap.size w w' := by
  have := do_any op a b w
  rw [h] at this
  exact this
theorem plain_val (n m : Int) (h : plainV n = m) (w : World) :
    Calls Try.prog 17 #[.int .i64 n] w fun e w' => e = .returned (.int .i64 m) ∧ w = w' := by
  have := plain_any n w
  rw [h] at this
  exact this
theorem rplain_val (n m : Int) (h : plainV n = m) (w : World) :
    Calls Try.prog 15 #[.int .i64 n] w fun e w' => e = .returned (.int .i64 m) ∧ w = w' := by
  have := rplain_any n w
  rw [h] at this
  exact this
theorem get_val (s : ByteArray) (k : Int) (b : Bool) (h : getV s.data.toList = (k, b)) (w : World) :
    Calls Try.prog 11 #[.string s] w fun e w' => e = .returned (.tuple #[.int .i64 k, .bool b]) ∧ Below w.heap.size w w' := by
  refine (get_any s w).mono fun e w' ⟨he, hb⟩ => ⟨?_, hb⟩
  rw [GetIs, h] at he
  exact he
theorem rget_val (s : ByteArray) (k : Int) (b : Bool) (h : getV s.data.toList = (k, b)) (w : World) :
    Calls Try.prog 12 #[.string s] w fun e w' => e = .returned (.tuple #[.int .i64 k, .bool b]) ∧ Below w.heap.size w w' := by
  refine (rget_any s w).mono fun e w' ⟨he, hb⟩ => ⟨?_, hb⟩
  rw [GetIs, h] at he
  exact he
theorem put_val (n : Int) (s : ByteArray) (h : hexText (pb n) = s.data.toList) (w : World) :
    Calls Try.prog 10 #[.int .i64 n] w fun e w' => e = .returned (.string s) ∧ Below w.heap.size w w' := by
  have := put_any n w
  rw [h] at this
  exact this
theorem rput_val (n : Int) (s : ByteArray) (h : hexText (pb n) = s.data.toList) (w : World) :
    Calls Try.prog 14 #[.int .i64 n] w fun e w' => e = .returned (.string s) ∧ Below w.heap.size w w' := by
  have := rput_any n w
  rw [h] at this
  exact this
theorem range_of {a : Int} (h : (Lit.int .i64 a).wf = true) : -9223372036854775808 ≤ a ∧ a ≤ 9223372036854775807 := by
  simpa [Lit.wf, IntKind.min, IntKind.max, IntKind.signed, IntKind.bits] using h

set_option maxHeartbeats 400000 in
theorem floDoes_walk (op a b : Int) (_w0 : (Lit.int .i64 op).wf = true) (_w1 : (Lit.int .i64 a).wf = true) (_w2 : (Lit.int .i64 b).wf = true) (w : World) :
    Calls Try.prog 7 #[.int .i64 op, .int .i64 a, .int .i64 b] w fun e w' => e = .returned (.bool true) ∧ Below w.heap.size w w' := by
  clear _w0 _w1 _w2
  have hb := Below.refl w.heap.size w
  have hop : op < 15 ∨ (15 ≤ op ∧ op ≤ 21) ∨ (15 ≤ op ∧ 21 < op) := by omega
  rcases hop with h1 | ⟨h1, h2⟩ | ⟨h1, h2⟩
  all_goals
    go_enter Try.func7, Try.ntmps7
    go_wp2_with (first | ((with_reducible refine (do_any ..).mono ?_); rintro e w1 ⟨rfl, h⟩; replace hb := bthen hb h; clear h) | ((with_reducible refine (rdo_any ..).mono ?_); rintro e w2 ⟨rfl, h⟩; replace hb := bthen hb h; clear h) | ((with_reducible refine (awake_any _).mono ?_); rintro e w3 ⟨rfl, h⟩; replace hb := bthen hb h; clear h) | ((with_reducible refine (is_any ..).mono ?_); rintro e w' ⟨rfl, rfl⟩) | ((with_reducible refine (plain_any ..).mono ?_); rintro e w' ⟨rfl, rfl⟩) | ((with_reducible refine (rplain_any ..).mono ?_); rintro e w' ⟨rfl, rfl⟩))
    go_ret
    exact ⟨rfl, hb⟩

set_option maxHeartbeats 400000 in
theorem floTurns_walk (n : Int) (w0 : (Lit.int .i64 n).wf = true) (w : World) :
    Calls Try.prog 8 #[.int .i64 n] w fun e w' => e = .returned (.bool true) ∧ Below w.heap.size w w' := by
  have hr := Lib.hid (range_of w0)
  clear w0
  have hb := Below.refl w.heap.size w
  go_enter Try.func8, Try.ntmps8
  go_wp2_with (first | ((with_reducible refine (awake_any _).mono ?_); rintro e w3 ⟨rfl, h⟩; replace hb := bthen hb h; clear h) | ((with_reducible refine (ofint_any ..).mono ?_); rintro e w' ⟨rfl, rfl⟩) | ((with_reducible refine (rofint_any ..).mono ?_); rintro e w' ⟨rfl, rfl⟩) | ((with_reducible refine (toint_any _ _ hr.out.1 hr.out.2).mono ?_); rintro e w' ⟨rfl, rfl⟩) | ((with_reducible refine (rtoint_any ..).mono ?_); rintro e w' ⟨rfl, rfl⟩))
  go_ret
  exact ⟨rfl, hb⟩

set_option maxHeartbeats 400000 in
theorem texts_no (n m k : Int) (s t : ByteArray) (hm : Hid (plainV n = m)) (ht : Hid (hexText (pb n) = t.data.toList)) (h1 : Hid (getV t.data.toList = (m, true))) (h2 : Hid (getV s.data.toList = (k, false))) (w : World) :
    Calls Try.prog 3 #[.int .i64 n, .string s] w fun e w' => e = .returned (.bool true) ∧ Below w.heap.size w w' := by
  have hb := Below.refl w.heap.size w
  go_enter Try.func3, Try.ntmps3
  go_wp2_with (first | ((with_reducible refine (put_val n t ht.out _).mono ?_); rintro e w1 ⟨rfl, h⟩; replace hb := bthen hb h; clear h) | ((with_reducible refine (rput_val n t ht.out _).mono ?_); rintro e w1 ⟨rfl, h⟩; replace hb := bthen hb h; clear h) | ((with_reducible refine (get_val t m true h1.out _).mono ?_); rintro e w1 ⟨rfl, h⟩; replace hb := bthen hb h; clear h) | ((with_reducible refine (get_val s k _ h2.out _).mono ?_); rintro e w1 ⟨rfl, h⟩; replace hb := bthen hb h; clear h) | ((with_reducible refine (rget_val s k _ h2.out _).mono ?_); rintro e w1 ⟨rfl, h⟩; replace hb := bthen hb h; clear h) | ((with_reducible refine (awake_any _).mono ?_); rintro e w3 ⟨rfl, h⟩; replace hb := bthen hb h; clear h) | ((with_reducible refine (rplain_val n m hm.out _).mono ?_); rintro e w' ⟨rfl, rfl⟩))
  go_ret
  exact ⟨rfl, hb⟩
set_option maxHeartbeats 400000 in
theorem texts_yes (n m k : Int) (s t : ByteArray) (hm : Hid (plainV n = m)) (ht : Hid (hexText (pb n) = t.data.toList)) (h1 : Hid (getV t.data.toList = (m, true))) (h2 : Hid (getV s.data.toList = (k, true))) (h3 : Hid (hexText (pb k) = s.data.toList)) (w : World) :
    Calls Try.prog 3 #[.int .i64 n, .string s] w fun e w' => e = .returned (.bool true) ∧ Below w.heap.size w w' := by
  have hb := Below.refl w.heap.size w
  go_enter Try.func3, Try.ntmps3
  go_wp2_with (first | ((with_reducible refine (put_val n t ht.out _).mono ?_); rintro e w1 ⟨rfl, h⟩; replace hb := bthen hb h; clear h) | ((with_reducible refine (put_val k s h3.out _).mono ?_); rintro e w1 ⟨rfl, h⟩; replace hb := bthen hb h; clear h) | ((with_reducible refine (rput_val n t ht.out _).mono ?_); rintro e w1 ⟨rfl, h⟩; replace hb := bthen hb h; clear h) | ((with_reducible refine (get_val t m true h1.out _).mono ?_); rintro e w1 ⟨rfl, h⟩; replace hb := bthen hb h; clear h) | ((with_reducible refine (get_val s k _ h2.out _).mono ?_); rintro e w1 ⟨rfl, h⟩; replace hb := bthen hb h; clear h) | ((with_reducible refine (rget_val s k _ h2.out _).mono ?_); rintro e w1 ⟨rfl, h⟩; replace hb := bthen hb h; clear h) | ((with_reducible refine (awake_any _).mono ?_); rintro e w3 ⟨rfl, h⟩; replace hb := bthen hb h; clear h) | ((with_reducible refine (rplain_val n m hm.out _).mono ?_); rintro e w' ⟨rfl, rfl⟩))
  go_ret
  exact ⟨rfl, hb⟩
theorem floTexts_walk (n : Int) (s : ByteArray) (w0 : (Lit.int .i64 n).wf = true) (_w1 : s.size ≤ 9223372036854775807) (w : World) :
    Calls Try.prog 3 #[.int .i64 n, .string s] w fun e w' => e = .returned (.bool true) ∧ Below w.heap.size w w' := by
  have hr := range_of w0
  cases h : (getV s.data.toList).2
  · exact texts_no n _ _ s ⟨(hexText (pb n)).toArray⟩ rfl rfl (get_text hr.1 hr.2) (Prod.ext rfl h) w
  · exact texts_yes n _ _ s ⟨(hexText (pb n)).toArray⟩ rfl rfl (get_text hr.1 hr.2) (Prod.ext rfl h) (get_back (Prod.ext rfl h)) w

end Go.Proofs.Ytdenojiepafbgaa
