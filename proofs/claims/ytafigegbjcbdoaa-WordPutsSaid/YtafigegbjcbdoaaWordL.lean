/- The walks of the statements on words. -/
import Derived.Test.YtafigegbjcbdoaaWordE
import Derived.Deep.RegionHeld3
namespace Go.Proofs.Ytafigegbjcbdoaa
open Go.RowKit Word Num Flo

set_option maxHeartbeats 1000000 in
theorem wordNames_walk (s : ByteArray) (w1 : s.size ≤ 9223372036854775807) (w : World) :
    Calls Try.prog 3 #[.string s] w fun e w' => e = .returned (.bool true) ∧ Below w.heap.size w w' := by
  have hs : Hid (s.size ≤ 9223372036854775807) := w1
  clear w1
  have hb := Below.refl w.heap.size w
  rcases hv : nameB s.data.toList with _ | _
  all_goals
    have Hv := Lib.hid hv
    clear hv
    go_enter Try.func3, Try.ntmps3
    go_wp2_with (first | ((with_reducible refine (wawake_any _).mono ?_); rintro e w1 ⟨rfl, h⟩; replace hb := bthen hb h; clear h) | ((with_reducible refine (name_val _ _ Hv.out _).mono ?_); rintro e w' ⟨rfl, rfl⟩) | ((with_reducible refine (rname_val _ _ Hv.out hs.out _).mono ?_); rintro e w' ⟨rfl, rfl⟩))
    go_ret
    exact ⟨rfl, hb⟩

theorem rget3_of (s : ByteArray) (hs : Hid (s.size ≤ 9223372036854775807)) (K n : Int) (t : ByteArray) (b : Bool) (h : getA s.data.toList = (K, t.data.toList, n, b)) (w : World) :
    Calls Try.prog 12 #[.string s] w fun e w' => e = .returned (.tuple #[.agg #[.int .i64 K, .string t, .int .i64 n], .bool b]) ∧ Below w.heap.size w w' := by
  refine (rget3_val s hs w).mono fun e w' ⟨he, hb⟩ => ⟨?_, hb⟩
  rw [he, refA_getA, h]
  rfl
theorem getA_any (l : List UInt8) : ∃ K n b, ∃ t : ByteArray, getA l = (K, t.data.toList, n, b) := by
  rcases h : getA l with ⟨K, t, n, b⟩
  exact ⟨K, n, b, ⟨t.toArray⟩, by simp⟩

set_option maxHeartbeats 1000000 in
theorem wordGets_walk (s : ByteArray) (w1 : s.size ≤ 9223372036854775807) (w : World) :
    Calls Try.prog 4 #[.string s] w fun e w' => e = .returned (.bool true) ∧ Below w.heap.size w w' := by
  have hs : Hid (s.size ≤ 9223372036854775807) := w1
  clear w1
  have hb := Below.refl w.heap.size w
  obtain ⟨K, n, b, t, hv⟩ := getA_any s.data.toList
  have Hv := Lib.hid hv
  clear hv
  go_enter Try.func4, Try.ntmps4
  go_wp2_with (first | ((with_reducible refine (get3_val _ _ _ _ _ Hv.out _).mono ?_); rintro e w1 ⟨rfl, h1⟩) | ((with_reducible refine (rget3_of _ hs _ _ _ _ Hv.out _).mono ?_); rintro e w2 ⟨rfl, h2⟩) | ((with_reducible refine (wawake_any _).mono ?_); rintro e w3 ⟨rfl, h3⟩; obtain ⟨a0, a1, a2, _, _, _⟩ := box6 (bnext h2 h3); obtain ⟨b0, b1, b2, _, _, _⟩ := box6 h3))
  go_ret
  exact ⟨rfl, bnext (bnext (bthen hb h1) h2) h3⟩

def InBox (w w' : World) (K : Int) (s : ByteArray) (n : Int) : Prop := Below (w.alloc (Obj.cells #[.int .i64 K, .string s, .int .i64 n] 25)).heap.size (w.alloc (Obj.cells #[.int .i64 K, .string s, .int .i64 n] 25)) w'
theorem InBox.next {w w1 w2 : World} {K n : Int} {s : ByteArray} (h : InBox w w1 K s n) (h2 : Below w1.heap.size w1 w2) : InBox w w2 K s n := Below.trans h (h2.mono (Below.size h))
theorem InBox.all {w w1 : World} {K n : Int} {s : ByteArray} (h : InBox w w1 K s n) : w1.cell? ⟨w.heap.size, 0, none⟩ = some (.int .i64 K) ∧ w1.cell? ⟨w.heap.size, 1, none⟩ = some (.string s) ∧ w1.cell? ⟨w.heap.size, 2, none⟩ = some (.int .i64 n) ∧ InBox w w1 K s n :=
  ⟨(box6 h).1, (box6 h).2.1, (box6 h).2.2.1, h⟩
theorem InBox.step {w w1 w2 : World} {K n : Int} {s : ByteArray} {a b c : Prop} (h2 : Below w1.heap.size w1 w2) (h : a ∧ b ∧ c ∧ InBox w w1 K s n) : w2.cell? ⟨w.heap.size, 0, none⟩ = some (.int .i64 K) ∧ w2.cell? ⟨w.heap.size, 1, none⟩ = some (.string s) ∧ w2.cell? ⟨w.heap.size, 2, none⟩ = some (.int .i64 n) ∧ InBox w w2 K s n := (h.2.2.2.next h2).all
theorem InBox.below {w w1 : World} {K n : Int} {s : ByteArray} (h : InBox w w1 K s n) : Below w.heap.size w w1 := by
  have hz := (Below.refl w.heap.size w).alloc (Nat.le_refl _) (Obj.cells #[.int .i64 K, .string s, .int .i64 n] 25)
  exact hz.trans (Below.mono h hz.size)
theorem InBox.end_ {w w1 : World} {K n : Int} {s : ByteArray} {a b c : Prop} (h : a ∧ b ∧ c ∧ InBox w w1 K s n) : Below w.heap.size w w1 := h.2.2.2.below
theorem InBox.start {w : World} {K n : Int} {s : ByteArray} : InBox w (w.alloc (Obj.cells #[.int .i64 K, .string s, .int .i64 n] 25)).drew K s n := (Below.refl _ _).drew

set_option maxHeartbeats 2000000 in
theorem wordPuts_walk (K : Int) (s : ByteArray) (n : Int) (hs : Hid (s.size ≤ 9223372036854775807)) (hn : Hid (-9223372036854775808 ≤ n ∧ n ≤ 9223372036854775807)) (w : World) :
    Calls Try.prog 5 #[.agg #[.int .i64 K, .string s, .int .i64 n]] w fun e w' => e = .returned (.bool true) ∧ Below w.heap.size w w' := by
  have hn' : Hid (n.natAbs ≤ 9223372036854775808) := by show _ ≤ _; have := hn.out; omega
  rcases hv : rightV K s.data.toList n with _ | _
  all_goals
    have Hv := Lib.hid hv
    clear hv
    go_enter Try.func5, Try.ntmps5
    go_wp2
    go_region_held3 (fun w' => w'.cell? ⟨w.heap.size, 0, none⟩ = some (.int .i64 K) ∧ w'.cell? ⟨w.heap.size, 1, none⟩ = some (.string s) ∧ w'.cell? ⟨w.heap.size, 2, none⟩ = some (.int .i64 n) ∧ InBox w w' K s n)
      (first | exact InBox.start.all | exact InBox.step (by assumption) (by assumption))
      (first | (go_at_call 8; refine (wawake_any _).mono ?_; rintro e w1 ⟨rfl, h⟩) | (go_at_call 13; refine (right_val _ _ _ _ Hv.out _).mono ?_; rintro e w1 ⟨rfl, h⟩) | (go_at_call 14; refine (rright_val _ _ hs _ _ Hv.out _).mono ?_; rintro e w1 ⟨rfl, h⟩) | (go_at_call 15; refine (put_val _ _ _ _ Hv.out _ rfl hn' _).mono ?_; rintro e w1 ⟨rfl, h⟩) | (go_at_call 16; refine (rput_val3 _ _ hs _ _ Hv.out _ rfl hn _).mono ?_; rintro e w1 ⟨rfl, h⟩))
    go_wp2
    go_ret
    exact ⟨rfl, InBox.end_ (by assumption)⟩

theorem getA_range {K n : Int} {l t : List UInt8} (h : getA l = (K, t, n, true)) : -9223372036854775808 ≤ n ∧ n ≤ 9223372036854775807 := by
  obtain ⟨j, _, hc⟩ := getA_cand h
  have := cand_range l j
  rw [hc] at this
  exact this

set_option maxHeartbeats 2000000 in
theorem wordBack_walk (K : Int) (q : ByteArray) (n : Int) (s : ByteArray) (hn : Hid (-9223372036854775808 ≤ n ∧ n ≤ 9223372036854775807)) (w : World) :
    Calls Try.prog 6 #[.agg #[.int .i64 K, .string q, .int .i64 n], .string s] w fun e w' => e = .returned (.bool true) ∧ Below w.heap.size w w' := by
  have hn' : Hid (n.natAbs ≤ 9223372036854775808) := by show _ ≤ _; have := hn.out; omega
  obtain ⟨K', n', b', t', hs⟩ := getA_any s.data.toList
  rcases hv : rightV K q.data.toList n with _ | _
  · have hput : Hid (putV K q.data.toList n = []) := by show _ = _; unfold putV; rw [if_pos hv]
    have Hv := Lib.hid hv
    have Hs := Lib.hid hs
    clear hv
    cases b'
    · obtain ⟨rfl, ht, rfl⟩ := getA_no hs
      obtain rfl := ba_empty ht.symm
      clear hs ht
      go_enter Try.func6, Try.ntmps6
      go_wp2_with (first | ((with_reducible refine (wawake_any _).mono ?_); rintro e w1 ⟨rfl, h1⟩; have i1 : InBox w w1 K q n := h1; obtain ⟨a0, a1, a2, _⟩ := i1.all) | ((with_reducible refine (right_val _ _ _ _ Hv.out _).mono ?_); rintro e w2 ⟨rfl, h2⟩; have i2 := i1.next h2; obtain ⟨a0, a1, a2, _⟩ := i2.all) | ((with_reducible refine (put_val _ _ _ _ Hv.out _ hput.out hn' _).mono ?_); rintro e w3 ⟨rfl, h3⟩; have i3 := i2.next h3) | ((with_reducible refine (get3_val _ _ _ _ _ Hs.out _).mono ?_); rintro e w5 ⟨rfl, h5⟩; have b5 := bthen i3.below h5))
      go_ret
      exact ⟨rfl, b5.alloc b5.size _⟩
    · obtain ⟨hr, hp⟩ := getA_back hs
      have hk : Hid (n'.natAbs ≤ 9223372036854775808) := by show _ ≤ _; have := getA_range hs; omega
      have Hr := Lib.hid hr
      have Hp := Lib.hid hp
      clear hs hr hp
      go_enter Try.func6, Try.ntmps6
      go_wp2_with (first | ((with_reducible refine (wawake_any _).mono ?_); rintro e w1 ⟨rfl, h1⟩; have i1 : InBox w w1 K q n := h1; obtain ⟨a0, a1, a2, _⟩ := i1.all) | ((with_reducible refine (right_val _ _ _ _ Hv.out _).mono ?_); rintro e w2 ⟨rfl, h2⟩; have i2 := i1.next h2; obtain ⟨a0, a1, a2, _⟩ := i2.all) | ((with_reducible refine (put_val _ _ _ _ Hv.out _ hput.out hn' _).mono ?_); rintro e w3 ⟨rfl, h3⟩; have i3 := i2.next h3) | ((with_reducible refine (get3_val _ _ _ _ _ Hs.out _).mono ?_); rintro e w5 ⟨rfl, h5⟩; have b5 := bthen i3.below h5) | ((with_reducible refine (right_val _ _ _ _ Hr.out _).mono ?_); rintro e w6 ⟨rfl, h6⟩; have b6 := bnext b5 h6; obtain ⟨c0, c1, c2, _⟩ := box6 h6) | ((with_reducible refine (put_val _ _ _ _ Hr.out _ Hp.out hk _).mono ?_); rintro e w7 ⟨rfl, h7⟩; have b7 := bthen b6 h7))
      go_ret
      exact ⟨rfl, b7⟩
  · have hg : getA (⟨(putV K q.data.toList n).toArray⟩ : ByteArray).data.toList = (K, q.data.toList, n, true) := getA_put hn.out hv
    have Hg := Lib.hid hg
    have Hv := Lib.hid hv
    have Hs := Lib.hid hs
    clear hv hg
    cases b'
    · obtain ⟨rfl, ht, rfl⟩ := getA_no hs
      obtain rfl := ba_empty ht.symm
      clear hs ht
      go_enter Try.func6, Try.ntmps6
      go_wp2_with (first | ((with_reducible refine (wawake_any _).mono ?_); rintro e w1 ⟨rfl, h1⟩; have i1 : InBox w w1 K q n := h1; obtain ⟨a0, a1, a2, _⟩ := i1.all) | ((with_reducible refine (right_val _ _ _ _ Hv.out _).mono ?_); rintro e w2 ⟨rfl, h2⟩; have i2 := i1.next h2; obtain ⟨a0, a1, a2, _⟩ := i2.all) | ((with_reducible refine (put_val _ _ _ _ Hv.out _ rfl hn' _).mono ?_); rintro e w3 ⟨rfl, h3⟩; have i3 := i2.next h3) | ((with_reducible refine (get3_val _ _ _ _ _ Hg.out _).mono ?_); rintro e w4 ⟨rfl, h4⟩; have i4 := i3.next h4; obtain ⟨a0, a1, a2⟩ := box3 i4) | ((with_reducible refine (get3_val _ _ _ _ _ Hs.out _).mono ?_); rintro e w5 ⟨rfl, h5⟩; have b5 := bnext i4.below h5))
      go_ret
      exact ⟨rfl, b5.alloc b5.size _⟩
    · obtain ⟨hr, hp⟩ := getA_back hs
      have hk : Hid (n'.natAbs ≤ 9223372036854775808) := by show _ ≤ _; have := getA_range hs; omega
      have Hr := Lib.hid hr
      have Hp := Lib.hid hp
      clear hs hr hp
      go_enter Try.func6, Try.ntmps6
      go_wp2_with (first | ((with_reducible refine (wawake_any _).mono ?_); rintro e w1 ⟨rfl, h1⟩; have i1 : InBox w w1 K q n := h1; obtain ⟨a0, a1, a2, _⟩ := i1.all) | ((with_reducible refine (right_val _ _ _ _ Hv.out _).mono ?_); rintro e w2 ⟨rfl, h2⟩; have i2 := i1.next h2; obtain ⟨a0, a1, a2, _⟩ := i2.all) | ((with_reducible refine (put_val _ _ _ _ Hv.out _ rfl hn' _).mono ?_); rintro e w3 ⟨rfl, h3⟩; have i3 := i2.next h3) | ((with_reducible refine (get3_val _ _ _ _ _ Hg.out _).mono ?_); rintro e w4 ⟨rfl, h4⟩; have i4 := i3.next h4; obtain ⟨a0, a1, a2⟩ := box3 i4) | ((with_reducible refine (get3_val _ _ _ _ _ Hs.out _).mono ?_); rintro e w5 ⟨rfl, h5⟩; have b5 := bnext i4.below h5) | ((with_reducible refine (right_val _ _ _ _ Hr.out _).mono ?_); rintro e w6 ⟨rfl, h6⟩; have b6 := bnext b5 h6; obtain ⟨c0, c1, c2, _⟩ := box6 h6) | ((with_reducible refine (put_val _ _ _ _ Hr.out _ Hp.out hk _).mono ?_); rintro e w7 ⟨rfl, h7⟩; have b7 := bthen b6 h7))
      go_ret
      exact ⟨rfl, b7⟩

end Go.Proofs.Ytafigegbjcbdoaa
