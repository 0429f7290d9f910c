/- The walks of words: the word of an argument. -/
import Derived.Test.YtafigegbjcbdoaaWordB
namespace Go.Proofs.Ytafigegbjcbdoaa
open Go.RowKit Word Num Flo

theorem str_of {a b : ByteArray} (h : a.data.toList = b.data.toList) : Ending.returned (.string a) = .returned (.string b) := by
  refine ret_str ?_
  cases a; cases b; simpa using h
theorem rightV_kind {K : Int} {l : List UInt8} {n : Int} (h : rightV K l n = true) : K = 1 ∨ K = 2 ∨ K = 3 ∨ K = 4 ∨ K = 5 := by
  by_cases h1 : K < 1 ∨ 5 < K
  · rw [rightV_out h1] at h; cases h
  · omega

theorem box_cells {w w1 : World} {a b c : Value} {t : TypeId} (h : Below (w.alloc (Obj.cells #[a, b, c] t)).heap.size (w.alloc (Obj.cells #[a, b, c] t)) w1) :
    w1.cell? ⟨w.heap.size, 0, none⟩ = some a ∧ w1.cell? ⟨w.heap.size, 1, none⟩ = some b ∧ w1.cell? ⟨w.heap.size, 2, none⟩ = some c := by
  have hl : w.heap.size < (w.alloc (Obj.cells #[a, b, c] t)).heap.size := by simp
  refine ⟨?_, ?_, ?_⟩
  · rw [h.cell hl, World.cell?_alloc_mark]; rfl
  · rw [h.cell hl, World.cell?_alloc_mark]; rfl
  · rw [h.cell hl, World.cell?_alloc_mark]; rfl

set_option maxHeartbeats 1000000 in
theorem put_val (K : Int) (s : ByteArray) (n : Int) (v : Bool) (hv : rightV K s.data.toList n = v) (t : List UInt8) (ht : putV K s.data.toList n = t) (hn : Hid (n.natAbs ≤ 9223372036854775808)) (w : World) :
    Calls Try.prog 15 #[.agg #[.int .i64 K, .string s, .int .i64 n]] w fun e w' => e = .returned (.string ⟨t.toArray⟩) ∧ Below w.heap.size w w' := by
  have hb := (Below.refl w.heap.size w).alloc (Nat.le_refl _) (Obj.cells #[.int .i64 K, .string s, .int .i64 n] 25)
  have Ht := Lib.hid ht
  have Hv := Lib.hid hv
  unfold putV at ht
  rw [hv] at ht
  cases v
  · have : t = [] := by rw [← ht]; rfl
    subst this
    clear ht hv
    go_enter Try.func15, Try.ntmps15
    go_wp2_with ((with_reducible refine (right_val _ _ _ _ Hv.out _).mono ?_); rintro e w1 ⟨rfl, h0⟩; obtain ⟨c0, c1, c2⟩ := box_cells h0; replace hb := bthen hb h0)
    go_ret
    exact ⟨rfl, hb⟩
  · rw [if_neg (by decide)] at ht
    rcases rightV_kind hv with rfl | rfl | rfl | rfl | rfl
    · have Hs : Hid (s.data.toList = t) := by rw [← ht]; rfl
      clear ht hv
      go_enter Try.func15, Try.ntmps15
      go_wp2_with ((with_reducible refine (right_val _ _ _ _ Hv.out _).mono ?_); rintro e w1 ⟨rfl, h0⟩; obtain ⟨c0, c1, c2⟩ := box_cells h0; replace hb := bthen hb h0)
      go_ret
      exact ⟨str_of (by simp [Hs.out]), hb⟩
    · have : t = numText n := by rw [← ht]; rfl
      subst this
      clear ht hv
      go_enter Try.func15, Try.ntmps15
      go_wp2_with (first | ((with_reducible refine (right_val _ _ _ _ Hv.out _).mono ?_); rintro e w1 ⟨rfl, h0⟩; obtain ⟨c0, c1, c2⟩ := box_cells h0; replace hb := bthen hb h0) | ((with_reducible refine (nput_any _ hn _).mono ?_); rintro e w1 ⟨rfl, h⟩; replace hb := bthen hb h; clear h))
      go_ret
      exact ⟨rfl, hb⟩
    · have : t = hexText (pb n) := by rw [← ht]; rfl
      subst this
      clear ht hv
      go_enter Try.func15, Try.ntmps15
      go_wp2_with (first | ((with_reducible refine (right_val _ _ _ _ Hv.out _).mono ?_); rintro e w1 ⟨rfl, h0⟩; obtain ⟨c0, c1, c2⟩ := box_cells h0; replace hb := bthen hb h0) | ((with_reducible refine (put_any _ _).mono ?_); rintro e w1 ⟨rfl, h⟩; replace hb := bthen hb h; clear h))
      go_ret
      exact ⟨rfl, hb⟩
    · have : t = tNull := by rw [← ht]; rfl
      subst this
      clear ht hv
      go_enter Try.func15, Try.ntmps15
      go_wp2_with ((with_reducible refine (right_val _ _ _ _ Hv.out _).mono ?_); rintro e w1 ⟨rfl, h0⟩; obtain ⟨c0, c1, c2⟩ := box_cells h0; replace hb := bthen hb h0)
      go_ret
      exact ⟨rfl, hb⟩
    · have : t = 35 :: numText n := by rw [← ht]; rfl
      subst this
      clear ht hv
      go_enter Try.func15, Try.ntmps15
      go_wp2_with (first | ((with_reducible refine (right_val _ _ _ _ Hv.out _).mono ?_); rintro e w1 ⟨rfl, h0⟩; obtain ⟨c0, c1, c2⟩ := box_cells h0; replace hb := bthen hb h0) | ((with_reducible refine (nput_any _ hn _).mono ?_); rintro e w1 ⟨rfl, h⟩; replace hb := bthen hb h; clear h))
      all_goals try (exfalso; have := (numText_length (n := n) (by have := hn.out; omega)).2; omega)
      go_ret
      exact ⟨str_of (by simp [ByteArray.data_append]), hb⟩

set_option maxHeartbeats 1000000 in
theorem rput_val3 (K : Int) (s : ByteArray) (hs : Hid (s.size ≤ 9223372036854775807)) (n : Int) (v : Bool) (hv : rightV K s.data.toList n = v) (t : List UInt8) (ht : putV K s.data.toList n = t) (hn : Hid (-9223372036854775808 ≤ n ∧ n ≤ 9223372036854775807)) (w : World) :
    Calls Try.prog 16 #[.agg #[.int .i64 K, .string s, .int .i64 n]] w fun e w' => e = .returned (.string ⟨t.toArray⟩) ∧ Below w.heap.size w w' := by
  have hb := (Below.refl w.heap.size w).alloc (Nat.le_refl _) (Obj.cells #[.int .i64 K, .string s, .int .i64 n] 25)
  have Ht := Lib.hid ht
  have Hv := Lib.hid hv
  unfold putV at ht
  rw [hv] at ht
  cases v
  · have : t = [] := by rw [← ht]; rfl
    subst this
    clear ht hv
    go_enter Try.func16, Try.ntmps16
    go_wp2_with ((with_reducible refine (rright_val _ _ hs _ _ Hv.out _).mono ?_); rintro e w1 ⟨rfl, h0⟩; obtain ⟨c0, c1, c2⟩ := box_cells h0; replace hb := bthen hb h0)
    go_ret
    exact ⟨rfl, hb⟩
  · rw [if_neg (by decide)] at ht
    rcases rightV_kind hv with rfl | rfl | rfl | rfl | rfl
    · have Hs : Hid (s.data.toList = t) := by rw [← ht]; rfl
      clear ht hv
      go_enter Try.func16, Try.ntmps16
      go_wp2_with ((with_reducible refine (rright_val _ _ hs _ _ Hv.out _).mono ?_); rintro e w1 ⟨rfl, h0⟩; obtain ⟨c0, c1, c2⟩ := box_cells h0; replace hb := bthen hb h0)
      go_ret
      exact ⟨str_of (by simp [Hs.out]), hb⟩
    · have : t = numText n := by rw [← ht]; rfl
      subst this
      clear ht hv
      go_enter Try.func16, Try.ntmps16
      go_wp2_with (first | ((with_reducible refine (rright_val _ _ hs _ _ Hv.out _).mono ?_); rintro e w1 ⟨rfl, h0⟩; obtain ⟨c0, c1, c2⟩ := box_cells h0; replace hb := bthen hb h0) | ((with_reducible refine (nrput_any _ hn _).mono ?_); rintro e w1 ⟨rfl, h⟩; replace hb := bthen hb h; clear h))
      go_ret
      exact ⟨rfl, hb⟩
    · have : t = hexText (pb n) := by rw [← ht]; rfl
      subst this
      clear ht hv
      go_enter Try.func16, Try.ntmps16
      go_wp2_with (first | ((with_reducible refine (rright_val _ _ hs _ _ Hv.out _).mono ?_); rintro e w1 ⟨rfl, h0⟩; obtain ⟨c0, c1, c2⟩ := box_cells h0; replace hb := bthen hb h0) | ((with_reducible refine (rput_any _ _).mono ?_); rintro e w1 ⟨rfl, h⟩; replace hb := bthen hb h; clear h))
      go_ret
      exact ⟨rfl, hb⟩
    · have : t = tNull := by rw [← ht]; rfl
      subst this
      clear ht hv
      go_enter Try.func16, Try.ntmps16
      go_wp2_with ((with_reducible refine (rright_val _ _ hs _ _ Hv.out _).mono ?_); rintro e w1 ⟨rfl, h0⟩; obtain ⟨c0, c1, c2⟩ := box_cells h0; replace hb := bthen hb h0)
      go_ret
      exact ⟨rfl, hb⟩
    · have : t = 35 :: numText n := by rw [← ht]; rfl
      subst this
      clear ht hv
      go_enter Try.func16, Try.ntmps16
      go_wp2_with (first | ((with_reducible refine (rright_val _ _ hs _ _ Hv.out _).mono ?_); rintro e w1 ⟨rfl, h0⟩; obtain ⟨c0, c1, c2⟩ := box_cells h0; replace hb := bthen hb h0) | ((with_reducible refine (nrput_any _ hn _).mono ?_); rintro e w1 ⟨rfl, h⟩; replace hb := bthen hb h; clear h))
      all_goals try (exfalso; have := (numText_length (n := n) (by have := hn.out; omega)).2; omega)
      go_ret
      exact ⟨str_of (by simp [ByteArray.data_append]), hb⟩

end Go.Proofs.Ytafigegbjcbdoaa
