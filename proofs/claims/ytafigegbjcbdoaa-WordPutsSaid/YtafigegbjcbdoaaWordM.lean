/- The walk of WordUnlike. -/
import Derived.Test.YtafigegbjcbdoaaWordL
namespace Go.Proofs.Ytafigegbjcbdoaa
open Go.RowKit Word Num Flo

theorem put_inj {K K' n n' : Int} {q q' : ByteArray} (hn : -9223372036854775808 ≤ n ∧ n ≤ 9223372036854775807) (hn' : -9223372036854775808 ≤ n' ∧ n' ≤ 9223372036854775807)
    (h : rightV K q.data.toList n = true) (h' : rightV K' q'.data.toList n' = true) :
    (putV K q.data.toList n == putV K' q'.data.toList n') = (K == K' && q.toList == q'.toList && n == n') := by
  rw [Bool.eq_iff_iff]
  simp only [beq_iff_eq, Bool.and_eq_true]
  constructor
  · intro e
    have e1 := getA_put hn h
    rw [e, getA_put hn' h'] at e1
    simp only [Prod.mk.injEq] at e1
    rw [ByteArray.toList_eq, ByteArray.toList_eq]
    exact ⟨⟨e1.1.symm, e1.2.1.symm⟩, e1.2.2.1.symm⟩
  · rintro ⟨⟨rfl, e⟩, rfl⟩
    rw [ByteArray.toList_eq, ByteArray.toList_eq] at e
    rw [e]

def oA (K : Int) (s : ByteArray) (n : Int) : Obj := Obj.cells #[.int .i64 K, .string s, .int .i64 n] 25
def In2 (w w' : World) (K : Int) (s : ByteArray) (n K2 : Int) (s2 : ByteArray) (n2 : Int) : Prop :=
  Below ((w.alloc (oA K s n)).alloc (oA K2 s2 n2)).heap.size ((w.alloc (oA K s n)).alloc (oA K2 s2 n2)) w'
theorem In2.next {w w1 w2 : World} {K n K2 n2 : Int} {s s2 : ByteArray} (h : In2 w w1 K s n K2 s2 n2) (h2 : Below w1.heap.size w1 w2) : In2 w w2 K s n K2 s2 n2 := Below.trans h (h2.mono (Below.size h))
theorem In2.below {w w1 : World} {K n K2 n2 : Int} {s s2 : ByteArray} (h : In2 w w1 K s n K2 s2 n2) : Below w.heap.size w w1 := by
  have hz := (Below.refl w.heap.size w).alloc (Nat.le_refl _) (oA K s n)
  have hz2 := hz.alloc hz.size (oA K2 s2 n2)
  exact hz2.trans (Below.mono h hz2.size)
theorem In2.all {w w1 : World} {K n K2 n2 : Int} {s s2 : ByteArray} (h : In2 w w1 K s n K2 s2 n2) :
    w1.cell? ⟨w.heap.size, 0, none⟩ = some (.int .i64 K) ∧ w1.cell? ⟨w.heap.size, 1, none⟩ = some (.string s) ∧ w1.cell? ⟨w.heap.size, 2, none⟩ = some (.int .i64 n) ∧
    w1.cell? ⟨w.heap.size + 1, 0, none⟩ = some (.int .i64 K2) ∧ w1.cell? ⟨w.heap.size + 1, 1, none⟩ = some (.string s2) ∧ w1.cell? ⟨w.heap.size + 1, 2, none⟩ = some (.int .i64 n2) ∧ In2 w w1 K s n K2 s2 n2 := by
  have hs : (w.alloc (oA K s n)).heap.size = w.heap.size + 1 := by simp
  have hb : Below (w.alloc (oA K s n)).heap.size (w.alloc (oA K s n)) w1 := by
    have hz := (Below.refl (w.alloc (oA K s n)).heap.size (w.alloc (oA K s n))).alloc (Nat.le_refl _) (oA K2 s2 n2)
    exact hz.trans (Below.mono h hz.size)
  obtain ⟨a0, a1, a2, _⟩ := box6 (w := w) (a := .int .i64 K) (b := .string s) (c := .int .i64 n) (t := 25) hb
  obtain ⟨b0, b1, b2, _⟩ := box6 (w := w.alloc (oA K s n)) (a := .int .i64 K2) (b := .string s2) (c := .int .i64 n2) (t := 25) h
  rw [hs] at b0 b1 b2
  exact ⟨a0, a1, a2, b0, b1, b2, h⟩
theorem In2.step {w w1 w2 : World} {K n K2 n2 : Int} {s s2 : ByteArray} {a b c d e f : Prop} (h2 : Below w1.heap.size w1 w2) (h : a ∧ b ∧ c ∧ d ∧ e ∧ f ∧ In2 w w1 K s n K2 s2 n2) :
    w2.cell? ⟨w.heap.size, 0, none⟩ = some (.int .i64 K) ∧ w2.cell? ⟨w.heap.size, 1, none⟩ = some (.string s) ∧ w2.cell? ⟨w.heap.size, 2, none⟩ = some (.int .i64 n) ∧
    w2.cell? ⟨w.heap.size + 1, 0, none⟩ = some (.int .i64 K2) ∧ w2.cell? ⟨w.heap.size + 1, 1, none⟩ = some (.string s2) ∧ w2.cell? ⟨w.heap.size + 1, 2, none⟩ = some (.int .i64 n2) ∧ In2 w w2 K s n K2 s2 n2 := (h.2.2.2.2.2.2.next h2).all
theorem In2.end_ {w w1 : World} {K n K2 n2 : Int} {s s2 : ByteArray} {a b c d e f : Prop} (h : a ∧ b ∧ c ∧ d ∧ e ∧ f ∧ In2 w w1 K s n K2 s2 n2) : Below w.heap.size w w1 := h.2.2.2.2.2.2.below
theorem In2.start {w w1 : World} {K n K2 n2 : Int} {s s2 : ByteArray} (h : Below ((w.alloc (Obj.cells #[.int .i64 K, .string s, .int .i64 n] 25)).alloc (Obj.cells #[.int .i64 K2, .string s2, .int .i64 n2] 25)).heap.size ((w.alloc (Obj.cells #[.int .i64 K, .string s, .int .i64 n] 25)).alloc (Obj.cells #[.int .i64 K2, .string s2, .int .i64 n2] 25)) w1) : In2 w w1 K s n K2 s2 n2 := h

set_option maxHeartbeats 400000 in
theorem wordUnlike_walk (K : Int) (q : ByteArray) (n : Int) (K2 : Int) (q2 : ByteArray) (n2 : Int) (hn : Hid (-9223372036854775808 ≤ n ∧ n ≤ 9223372036854775807)) (hn2 : Hid (-9223372036854775808 ≤ n2 ∧ n2 ≤ 9223372036854775807)) (w : World) :
    Calls Try.prog 7 #[.agg #[.int .i64 K, .string q, .int .i64 n], .agg #[.int .i64 K2, .string q2, .int .i64 n2]] w fun e w' => e = .returned (.bool true) ∧ Below w.heap.size w w' := by
  have hN : Hid (n.natAbs ≤ 9223372036854775808) := by show _ ≤ _; have := hn.out; omega
  have hN2 : Hid (n2.natAbs ≤ 9223372036854775808) := by show _ ≤ _; have := hn2.out; omega
  rcases hv : rightV K q.data.toList n with _ | _
  · have Hv := Lib.hid hv
    clear hv
    go_enter Try.func7, Try.ntmps7
    go_wp2_with (first | ((with_reducible refine (right_val _ _ _ _ Hv.out _).mono ?_); rintro e w1 ⟨rfl, h1⟩; have i1 := In2.start h1; obtain ⟨a0, a1, a2, b0, b1, b2, _⟩ := i1.all) | ((with_reducible refine (wawake_any _).mono ?_); rintro e w2 ⟨rfl, h2⟩; have i2 := i1.next h2))
    go_ret
    exact ⟨rfl, i2.below⟩
  · rcases hv2 : rightV K2 q2.data.toList n2 with _ | _
    · have Hv := Lib.hid hv
      have Hv2 := Lib.hid hv2
      clear hv hv2
      go_enter Try.func7, Try.ntmps7
      go_wp2_with (first | ((with_reducible refine (right_val _ _ _ _ Hv.out _).mono ?_); rintro e w1 ⟨rfl, h1⟩; have i1 := In2.start h1; obtain ⟨a0, a1, a2, b0, b1, b2, _⟩ := i1.all) | ((with_reducible refine (right_val _ _ _ _ Hv2.out _).mono ?_); rintro e w2 ⟨rfl, h2⟩; have i2 := i1.next h2; obtain ⟨a0, a1, a2, b0, b1, b2, _⟩ := i2.all) | ((with_reducible refine (wawake_any _).mono ?_); rintro e w3 ⟨rfl, h3⟩; have i3 := i2.next h3))
      go_ret
      exact ⟨rfl, i3.below⟩
    · have HP := Lib.hid (put_inj hn.out hn2.out hv hv2)
      have hE : ∀ w, (Op.equalIn 10000 25 (.agg #[.int .i64 K, .string q, .int .i64 n]) (.agg #[.int .i64 K2, .string q2, .int .i64 n2])).run Try.prog w = .ok (K == K2 && q.toList == q2.toList && n == n2) w := fun w => eqArg ..
      generalize (K == K2 && q.toList == q2.toList && n == n2) = v at HP hE
      have Hv := Lib.hid hv
      have Hv2 := Lib.hid hv2
      clear hv hv2
      go_enter Try.func7, Try.ntmps7
      go_wp2_with (first | ((with_reducible refine (right_val _ _ _ _ Hv.out _).mono ?_); rintro e w1 ⟨rfl, h1⟩; have i1 := In2.start h1; obtain ⟨a0, a1, a2, b0, b1, b2, _⟩ := i1.all) | ((with_reducible refine (right_val _ _ _ _ Hv2.out _).mono ?_); rintro e w2 ⟨rfl, h2⟩; have i2 := i1.next h2; obtain ⟨a0, a1, a2, b0, b1, b2, _⟩ := i2.all))
      have i2d : In2 w w2.drew K q n K2 q2 n2 := Below.drew i2
      go_region_held3 (fun w' => w'.cell? ⟨w.heap.size, 0, none⟩ = some (.int .i64 K) ∧ w'.cell? ⟨w.heap.size, 1, none⟩ = some (.string q) ∧ w'.cell? ⟨w.heap.size, 2, none⟩ = some (.int .i64 n) ∧ w'.cell? ⟨w.heap.size + 1, 0, none⟩ = some (.int .i64 K2) ∧ w'.cell? ⟨w.heap.size + 1, 1, none⟩ = some (.string q2) ∧ w'.cell? ⟨w.heap.size + 1, 2, none⟩ = some (.int .i64 n2) ∧ In2 w w' K q n K2 q2 n2)
        (first | exact In2.all i2d | exact In2.step (by assumption) (by assumption))
        (first | (go_at_call 8; refine (wawake_any _).mono ?_; rintro e w1 ⟨rfl, h⟩) | (go_at_call 15; first | ((with_reducible refine (put_val _ _ _ _ Hv.out _ rfl hN _).mono ?_); rintro e w1 ⟨rfl, h⟩) | ((with_reducible refine (put_val _ _ _ _ Hv2.out _ rfl hN2 _).mono ?_); rintro e w1 ⟨rfl, h⟩)))
      go_wp2
      go_ret
      exact ⟨ret_bool (by simp [HP.out]), In2.end_ (by assumption)⟩

end Go.Proofs.Ytafigegbjcbdoaa
