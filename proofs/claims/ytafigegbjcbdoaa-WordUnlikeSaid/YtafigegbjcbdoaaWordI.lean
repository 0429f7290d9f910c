/- The walks of words: Get of the reference. -/
import Derived.Test.YtafigegbjcbdoaaWordH
import Derived.Test.YtafigegbjcbdoaaNumRG
import Derived.Test.YtafigegbjcbdoaaFloRG
namespace Go.Proofs.Ytafigegbjcbdoaa
open Go.RowKit Word Num Flo

theorem irput_zero (w : World) : Calls Try.prog 28 #[.int .i64 0] w fun e w' => e = .returned (.string { data := #[48] }) ∧ Below w.heap.size w w' := by
  refine (nrput_any 0 (by show _ ∧ _; decide) w).mono fun e w' ⟨he, hb⟩ => ⟨?_, hb⟩
  rw [he]
  exact str_of (by decide +kernel)
set_option maxHeartbeats 400000 in
theorem irget_empty (w : World) : Calls Try.prog 22 #[.string ByteArray.empty] w fun e w' => e = .returned (.tuple #[.int .i64 0, .bool false]) ∧ Below w.heap.size w w' := by
  have hb := Below.refl w.heap.size w
  have hz : wrap64 0 = 0 := by decide +kernel
  go_enter Try.func22, Try.ntmps22
  go_wp2
  refine wp_loop_rounds 1 ?_
  rw [rounds_succ]
  go_wp2_with (first | ((with_reducible refine (half_any _ _).mono ?_); rintro e w' ⟨rfl, rfl⟩) | ((with_reducible refine (irput_zero _).mono ?_); rintro e w1 ⟨rfl, h⟩; replace hb := bthen hb h; clear h))
  go_ret2
  exact ⟨rfl, hb⟩
theorem getN_nil : getN [] = (0, false) := getN_size (.inl rfl)
theorem irget_val (s : ByteArray) (hs : Hid (s.size ≤ 9223372036854775807)) (k : Int) (b : Bool) (h : getN s.data.toList = (k, b)) (w : World) :
    Calls Try.prog 22 #[.string s] w fun e w' => e = .returned (.tuple #[.int .i64 k, .bool b]) ∧ Below w.heap.size w w' := by
  by_cases h1 : 1 ≤ s.size
  · refine (nrget_some s w hs.out h1).mono fun e w' ⟨he, hb⟩ => ⟨?_, hb⟩
    rw [NGetIs, h] at he
    exact he
  · have h0 : s = ByteArray.empty := by have : s.size = 0 := by omega
                                        simpa using this
    subst h0
    have : (k, b) = (0, false) := by rw [← h]; exact getN_nil
    cases this
    exact irget_empty w
theorem ifget_val (s : ByteArray) (k : Int) (b : Bool) (h : getV s.data.toList = (k, b)) (w : World) :
    Calls Try.prog 23 #[.string s] w fun e w' => e = .returned (.tuple #[.int .i64 k, .bool b]) ∧ Below w.heap.size w w' := by
  refine (rget_any s w).mono fun e w' ⟨he, hb⟩ => ⟨?_, hb⟩
  rw [GetIs, h] at he
  exact he

theorem irget_nil (w : World) : Calls Try.prog 22 #[.string { data := #[] }] w fun e w' => e = .returned (.tuple #[.int .i64 0, .bool false]) ∧ Below w.heap.size w w' := irget_empty w

theorem getN_range (l : List UInt8) : -9223372036854775808 ≤ (getN l).1 ∧ (getN l).1 ≤ 9223372036854775807 := by
  unfold getN
  split
  · exact Num.wrap64_range _
  · decide
theorem getV_range (l : List UInt8) : -9223372036854775808 ≤ (getV l).1 ∧ (getV l).1 ≤ 9223372036854775807 := by
  unfold getV
  split
  · exact Num.wrap64_range _
  · decide
/-! what the reference tries -/
def cand (l : List UInt8) (j : Nat) : Int × List UInt8 × Int :=
  if j = 0 then (1, l, 0) else if j = 1 then (2, [], (getN l).1) else if j = 2 then (3, [], (getV l).1) else if j = 3 then (4, [], 0) else (5, [], (getN l.tail).1)
def hit (l : List UInt8) (j : Nat) : Bool := rightV (cand l j).1 (cand l j).2.1 (cand l j).2.2 && (putV (cand l j).1 (cand l j).2.1 (cand l j).2.2 == l)
def refA (l : List UInt8) : Int × List UInt8 × Int × Bool :=
  match (List.range 5).find? (hit l) with
  | some j => ((cand l j).1, (cand l j).2.1, (cand l j).2.2, true)
  | none => (0, [], 0, false)
theorem refA_at {l : List UInt8} {k : Nat} (hk : k < 5) (h : hit l k = true) (hb : ∀ j, j < k → hit l j = false) : refA l = ((cand l k).1, (cand l k).2.1, (cand l k).2.2, true) := by
  have : (List.range 5).find? (hit l) = some k := by
    rw [List.find?_range_eq_some]
    exact ⟨h, by simpa using hk, fun j hj => by simp [hb j hj]⟩
  unfold refA
  rw [this]
theorem refA_none {l : List UInt8} (hb : ∀ j, j < 5 → hit l j = false) : refA l = (0, [], 0, false) := by
  have : (List.range 5).find? (hit l) = none := by
    rw [List.find?_range_eq_none]
    exact fun j hj => by simp [hb j hj]
  unfold refA
  rw [this]
def argV (r : Int × List UInt8 × Int × Bool) : Value := .tuple #[.agg #[.int .i64 r.1, .string ⟨r.2.1.toArray⟩, .int .i64 r.2.2.1], .bool r.2.2.2]

def rowOf (s : ByteArray) (k1 k2 k3 : Int) : Array Value :=
  #[.int .i64 1, .string s, .int .i64 0, .int .i64 2, .string { data := #[] }, .int .i64 k1, .int .i64 3, .string { data := #[] }, .int .i64 k2, .int .i64 4, .string { data := #[] }, .int .i64 0, .int .i64 5, .string { data := #[] }, .int .i64 k3]
structure Tab (w wr : World) (B : Nat) (s : ByteArray) (k1 k2 k3 : Int) : Prop where
  c : ∀ j, j < 15 → wr.cell? ⟨B, j, none⟩ = (rowOf s k1 k2 k3)[j]?
  r0 : wr.cell? ⟨w.heap.size, 0, none⟩ = some (.int .i64 0)
  r1 : wr.cell? ⟨w.heap.size, 1, none⟩ = some (.string { data := #[] })
  r2 : wr.cell? ⟨w.heap.size, 2, none⟩ = some (.int .i64 0)
  f0 : wr.frozen? ⟨w.heap.size, 0, none⟩ = false
  f1 : wr.frozen? ⟨w.heap.size, 1, none⟩ = false
  f2 : wr.frozen? ⟨w.heap.size, 2, none⟩ = false
  b : Below w.heap.size w wr
  l1 : B < wr.heap.size
  l0 : w.heap.size < wr.heap.size
theorem Tab.next {w wr w1 : World} {B : Nat} {s : ByteArray} {k1 k2 k3 : Int} (h : Tab w wr B s k1 k2 k3) (hb : Below wr.heap.size wr w1) : Tab w w1 B s k1 k2 k3 :=
  { c := fun j hj => by rw [hb.cell h.l1]; exact h.c j hj
    r0 := by rw [hb.cell h.l0]; exact h.r0
    r1 := by rw [hb.cell h.l0]; exact h.r1
    r2 := by rw [hb.cell h.l0]; exact h.r2
    f0 := by rw [hb.frozen h.l0]; exact h.f0
    f1 := by rw [hb.frozen h.l0]; exact h.f1
    f2 := by rw [hb.frozen h.l0]; exact h.f2
    b := bthen h.b hb
    l1 := Nat.lt_of_lt_of_le h.l1 hb.size
    l0 := Nat.lt_of_lt_of_le h.l0 hb.size }
theorem Tab.start {w w3 : World} {s : ByteArray} {k1 k2 k3 : Int} (h : Below (w.alloc (Obj.cells #[.int .i64 0, .string { data := #[] }, .int .i64 0] 25)).heap.size (w.alloc (Obj.cells #[.int .i64 0, .string { data := #[] }, .int .i64 0] 25)) w3) :
    Tab w (w3.alloc (Obj.cells (rowOf s k1 k2 k3) 35)) w3.heap.size s k1 k2 k3 := by
  have hz := (Below.refl w.heap.size w).alloc (Nat.le_refl _) (Obj.cells #[.int .i64 0, .string { data := #[] }, .int .i64 0] 25)
  have hB : Below w.heap.size w w3 := hz.trans (h.mono hz.size)
  have hlt : w.heap.size < w3.heap.size := Nat.lt_of_lt_of_le (by simp) h.size
  have ha := (Below.refl w3.heap.size w3).alloc (Nat.le_refl _) (Obj.cells (rowOf s k1 k2 k3) 35)
  obtain ⟨c0, c1, c2, f0, f1, f2⟩ := box6 h
  exact
  { c := fun j hj => World.cell?_alloc_mark _ _ _ _ _
    r0 := by rw [ha.cell hlt]; exact c0
    r1 := by rw [ha.cell hlt]; exact c1
    r2 := by rw [ha.cell hlt]; exact c2
    f0 := by rw [ha.frozen hlt]; exact f0
    f1 := by rw [ha.frozen hlt]; exact f1
    f2 := by rw [ha.frozen hlt]; exact f2
    b := bthen hB ha
    l1 := by simp
    l0 := by simp; omega }
theorem Tab.cells {w wr : World} {B : Nat} {s : ByteArray} {k1 k2 k3 : Int} (h : Tab w wr B s k1 k2 k3) {j : Nat} (hj : j < 15) {v : Value} (hv : (rowOf s k1 k2 k3)[j]? = some v) : wr.cell? ⟨B, j, none⟩ = some v := (h.c j hj).trans hv

theorem Tab.nine {w wr : World} {B : Nat} {s : ByteArray} {k1 k2 k3 : Int} (h : Tab w wr B s k1 k2 k3) {j : Nat} {a b c : Value} (hj : j < 5) (ha : (rowOf s k1 k2 k3)[3 * j]? = some a) (hb : (rowOf s k1 k2 k3)[3 * j + 1]? = some b) (hc : (rowOf s k1 k2 k3)[3 * j + 2]? = some c) :
    wr.cell? ⟨B, 3 * j, none⟩ = some a ∧ wr.cell? ⟨B, 3 * j + 1, none⟩ = some b ∧ wr.cell? ⟨B, 3 * j + 2, none⟩ = some c ∧ wr.cell? ⟨w.heap.size, 0, none⟩ = some (.int .i64 0) ∧ wr.cell? ⟨w.heap.size, 1, none⟩ = some (.string { data := #[] }) ∧ wr.cell? ⟨w.heap.size, 2, none⟩ = some (.int .i64 0) ∧
      wr.frozen? ⟨w.heap.size, 0, none⟩ = false ∧ wr.frozen? ⟨w.heap.size, 1, none⟩ = false ∧ wr.frozen? ⟨w.heap.size, 2, none⟩ = false :=
  ⟨h.cells (by omega) ha, h.cells (by omega) hb, h.cells (by omega) hc, h.r0, h.r1, h.r2, h.f0, h.f1, h.f2⟩
theorem hits_succ {l : List UInt8} {k : Nat} (hh : ∀ j, j < k → Hid (hit l j = false)) (hno : Hid (hit l k = false)) : ∀ j, j < k + 1 → Hid (hit l j = false) := fun j hj => by
  by_cases e : j = k
  · subst e; exact hno
  · exact hh j (by omega)
theorem refA_hit {l : List UInt8} {k : Nat} {a n : Int} {t : List UInt8} (hk : k < 5) (h : Hid (hit l k = true)) (hb : ∀ j, j < k → Hid (hit l j = false)) (hc : cand l k = (a, t, n)) : refA l = (a, t, n, true) := by
  rw [refA_at hk h.out (fun j hj => (hb j hj).out), hc]
theorem argV_of {l : List UInt8} {a n : Int} {t : ByteArray} {b : Bool} (h : refA l = (a, t.data.toList, n, b)) : Ending.returned (.tuple #[.agg #[.int .i64 a, .string t, .int .i64 n], .bool b]) = .returned (argV (refA l)) := by
  rw [h]; rfl

set_option maxHeartbeats 1000000 in
theorem rget3_some (s : ByteArray) (hs : Hid (s.size ≤ 9223372036854775807)) (hpos : 1 ≤ s.size) (w : World) :
    Calls Try.prog 12 #[.string s] w fun e w' => e = .returned (argV (refA s.data.toList)) ∧ Below w.heap.size w w' := by
  rcases hv : getV s.data.toList with ⟨k2, b2⟩
  rcases hn : getN s.data.toList with ⟨k1, b1⟩
  rcases hm : getN (s.extract 1 s.size).data.toList with ⟨k3, b3⟩
  have Hv := Lib.hid hv
  have Hn := Lib.hid hn
  have Hm := Lib.hid hm
  have HC0 : Hid (cand s.data.toList 0 = (1, s.data.toList, 0)) := rfl
  have HC1 : Hid (cand s.data.toList 1 = (2, ({ data := #[] } : ByteArray).data.toList, k1)) := by show _ = _; unfold cand; rw [hn]; rfl
  have HC2 : Hid (cand s.data.toList 2 = (3, ({ data := #[] } : ByteArray).data.toList, k2)) := by show _ = _; unfold cand; rw [hv]; rfl
  have HC3 : Hid (cand s.data.toList 3 = (4, ({ data := #[] } : ByteArray).data.toList, 0)) := rfl
  have HC4 : Hid (cand s.data.toList 4 = (5, ({ data := #[] } : ByteArray).data.toList, k3)) := by show _ = _; unfold cand; rw [← extract_tail, hm]; rfl
  have he : Hid (({ data := #[] } : ByteArray).size ≤ 9223372036854775807) := by show _ ≤ _; decide
  have hz0 : Hid (-9223372036854775808 ≤ (0 : Int) ∧ (0 : Int) ≤ 9223372036854775807) := by show _ ∧ _; decide
  have hn1 : Hid (-9223372036854775808 ≤ k1 ∧ k1 ≤ 9223372036854775807) := by show _ ∧ _; have := getN_range s.data.toList; rw [hn] at this; exact this
  have hn2 : Hid (-9223372036854775808 ≤ k2 ∧ k2 ≤ 9223372036854775807) := by show _ ∧ _; have := getV_range s.data.toList; rw [hv] at this; exact this
  have hn3 : Hid (-9223372036854775808 ≤ k3 ∧ k3 ≤ 9223372036854775807) := by show _ ∧ _; have := getN_range (s.extract 1 s.size).data.toList; rw [hm] at this; exact this
  clear hv hn hm
  have hs1 : Hid ((s.extract 1 s.size).size ≤ 9223372036854775807) := by
    show _ ≤ _
    have := hs.out
    simp; omega
  have hz := (Below.refl w.heap.size w).alloc (Nat.le_refl _) (Obj.cells #[.int .i64 0, .string { data := #[] }, .int .i64 0] 25)
  have hzs : w.heap.size ≤ (w.alloc (Obj.cells #[.int .i64 0, .string { data := #[] }, .int .i64 0] 25)).heap.size := hz.size
  go_enter Try.func12, Try.ntmps12
  go_wp2_with (first | ((with_reducible refine (irget_val _ hs _ _ Hn.out _).mono ?_); rintro e w1 ⟨rfl, h1⟩) | ((with_reducible refine (ifget_val _ _ _ Hv.out _).mono ?_); rintro e w2 ⟨rfl, h2⟩) | ((with_reducible refine (irget_val _ hs1 _ _ Hm.out _).mono ?_); rintro e w3 ⟨rfl, h3⟩))
  have h4 := h1.trans ((bthen h2 h3).mono h1.size)
  have H4 := Tab.start (s := s) (k1 := k1) (k2 := k2) (k3 := k3) h4
  go_loopw [12] (fun i wr => ∃ k : Nat, k ≤ 5 ∧ i = .int .i64 (k : Int) ∧ (∀ j, j < k → Hid (hit s.data.toList j = false)) ∧ Tab w wr w3.heap.size s k1 k2 k3) (fun i _ => 5 - (intOf i).toNat)
  case atStart => exact ⟨0, by omega, rfl, fun j hj => absurd hj (Nat.not_lt_zero j), H4⟩
  case round =>
    obtain ⟨k, hk, rfl, hh, hT⟩ := hrel
    by_cases h5 : k = 5
    · subst h5
      have hbx := hT.b
      obtain ⟨-, r0, r1, r2, f0, f1, f2, -, -, -⟩ := hT
      have hA := Lib.hid (refA_none (fun j hj => (hh j hj).out))
      go_wp2
      ((try simp only [Exit.inBlock, Exit.then]); refine bodyPost_ret_by (v := (.tuple #[.agg #[.int .i64 0, .string .empty, .int .i64 0], .bool false])) ((results_cell_tmp rfl _ _ _).trans (by go_simp; try rfl)) rfl ⟨?_, ?_⟩)
      · exact argV_of (t := .empty) hA.out
      · (repeat (first | with_reducible assumption | exact (Below.refl _ _).alloc (Nat.le_refl _) _ | exact Below.refl _ _ | (refine Below.drew ?_) | (refine Below.setCell ?_ ?_ _; rotate_left; first | exact Nat.le_refl _ | (dsimp only; omega)) | (refine Below.alloc ?_ ?_ _; rotate_left; first | exact Nat.le_refl _ | (simp; omega) | simp)))
    · have h6 : k = 0 ∨ k = 1 ∨ k = 2 ∨ k = 3 ∨ k = 4 := by omega
      clear h5 hk
      rcases h6 with rfl | rfl | rfl | rfl | rfl
      · obtain ⟨c0, c1, c2, r0, r1, r2, f0, f1, f2⟩ := hT.nine (j := 0) (a := .int .i64 1) (b := .string s) (c := .int .i64 0) (by decide) rfl rfl rfl
        have hc : cand s.data.toList 0 = (1, s.data.toList, 0) := HC0.out
        rcases hr : rightV 1 s.data.toList 0 with _ | _
        · have hno : Hid (hit s.data.toList 0 = false) := by
            show _ = _
            unfold hit; rw [hc]; show (rightV 1 s.data.toList 0 && _) = false; rw [hr]; rfl
          have Hr := Lib.hid hr
          clear hr hc
          go_wp2_with (first | ((with_reducible refine (rright_val _ _ hs _ _ Hr.out _).mono ?_); rintro e w4 ⟨rfl, h0⟩; clear c0 c1 c2 r0 r1 r2 f0 f1 f2; have hT4 := hT.next h0; obtain ⟨c0, c1, c2, r0, r1, r2, f0, f1, f2⟩ := hT4.nine (j := 0) (a := .int .i64 1) (b := .string s) (c := .int .i64 0) (by decide) rfl rfl rfl) | ((with_reducible refine (rput_val3 _ _ hs _ _ Hr.out _ rfl hz0 _).mono ?_); rintro e w5 ⟨rfl, h5⟩; clear c0 c1 c2 r0 r1 r2 f0 f1 f2; have hT5 := hT4.next h5; have hbx := hT5.b; obtain ⟨c0, c1, c2, r0, r1, r2, f0, f1, f2⟩ := hT5.nine (j := 0) (a := .int .i64 1) (b := .string s) (c := .int .i64 0) (by decide) rfl rfl rfl))
          go_roundw
          case rel => exact ⟨1, by omega, by go_num, hits_succ hh hno, hT4⟩
          case measure => simp [intOf]
        · rcases ht : putV 1 s.data.toList 0 == s.data.toList with _ | _
          · have hno : Hid (hit s.data.toList 0 = false) := by
              show _ = _
              unfold hit; rw [hc]; show (rightV 1 s.data.toList 0 && (putV 1 s.data.toList 0 == s.data.toList)) = false; rw [hr, ht]; rfl
            have hq : (putV 1 s.data.toList 0 == s.toList) = false := by rw [ByteArray.toList_eq]; exact ht
            have Hr := Lib.hid hr
            clear hr hc ht
            go_wp2_with (first | ((with_reducible refine (rright_val _ _ hs _ _ Hr.out _).mono ?_); rintro e w4 ⟨rfl, h0⟩; clear c0 c1 c2 r0 r1 r2 f0 f1 f2; have hT4 := hT.next h0; obtain ⟨c0, c1, c2, r0, r1, r2, f0, f1, f2⟩ := hT4.nine (j := 0) (a := .int .i64 1) (b := .string s) (c := .int .i64 0) (by decide) rfl rfl rfl) | ((with_reducible refine (rput_val3 _ _ hs _ _ Hr.out _ rfl hz0 _).mono ?_); rintro e w5 ⟨rfl, h5⟩; clear c0 c1 c2 r0 r1 r2 f0 f1 f2; have hT5 := hT4.next h5; have hbx := hT5.b; obtain ⟨c0, c1, c2, r0, r1, r2, f0, f1, f2⟩ := hT5.nine (j := 0) (a := .int .i64 1) (b := .string s) (c := .int .i64 0) (by decide) rfl rfl rfl))
            go_roundw
            case rel => exact ⟨1, by omega, by go_num, hits_succ hh hno, hT5⟩
            case measure => simp [intOf]
          · have hyes : Hid (hit s.data.toList 0 = true) := by
              show _ = _
              unfold hit; rw [hc]; show (rightV 1 s.data.toList 0 && (putV 1 s.data.toList 0 == s.data.toList)) = true; rw [hr, ht]; rfl
            have hA := Lib.hid (refA_hit (by decide) hyes hh hc)
            have hq : (putV 1 s.data.toList 0 == s.toList) = true := by rw [ByteArray.toList_eq]; exact ht
            have Hr := Lib.hid hr
            clear hr hc ht
            go_wp2_with (first | ((with_reducible refine (rright_val _ _ hs _ _ Hr.out _).mono ?_); rintro e w4 ⟨rfl, h0⟩; clear c0 c1 c2 r0 r1 r2 f0 f1 f2; have hT4 := hT.next h0; obtain ⟨c0, c1, c2, r0, r1, r2, f0, f1, f2⟩ := hT4.nine (j := 0) (a := .int .i64 1) (b := .string s) (c := .int .i64 0) (by decide) rfl rfl rfl) | ((with_reducible refine (rput_val3 _ _ hs _ _ Hr.out _ rfl hz0 _).mono ?_); rintro e w5 ⟨rfl, h5⟩; clear c0 c1 c2 r0 r1 r2 f0 f1 f2; have hT5 := hT4.next h5; have hbx := hT5.b; obtain ⟨c0, c1, c2, r0, r1, r2, f0, f1, f2⟩ := hT5.nine (j := 0) (a := .int .i64 1) (b := .string s) (c := .int .i64 0) (by decide) rfl rfl rfl))
            ((try simp only [Exit.inBlock, Exit.then]); refine bodyPost_ret_by (v := (.tuple #[.agg #[.int .i64 1, .string s, .int .i64 0], .bool true])) ((results_cell_tmp rfl _ _ _).trans (by go_simp; try rfl)) rfl ⟨?_, ?_⟩)
            · exact argV_of hA.out
            · (repeat (first | with_reducible assumption | exact (Below.refl _ _).alloc (Nat.le_refl _) _ | exact Below.refl _ _ | (refine Below.drew ?_) | (refine Below.setCell ?_ ?_ _; rotate_left; first | exact Nat.le_refl _ | (dsimp only; omega)) | (refine Below.alloc ?_ ?_ _; rotate_left; first | exact Nat.le_refl _ | (simp; omega) | simp)))
      · obtain ⟨c0, c1, c2, r0, r1, r2, f0, f1, f2⟩ := hT.nine (j := 1) (a := .int .i64 2) (b := .string { data := #[] }) (c := .int .i64 k1) (by decide) rfl rfl rfl
        have hc : cand s.data.toList 1 = (2, ({ data := #[] } : ByteArray).data.toList, k1) := HC1.out
        rcases hr : rightV 2 ({ data := #[] } : ByteArray).data.toList k1 with _ | _
        · have hno : Hid (hit s.data.toList 1 = false) := by
            show _ = _
            unfold hit; rw [hc]; show (rightV 2 ({ data := #[] } : ByteArray).data.toList k1 && _) = false; rw [hr]; rfl
          have Hr := Lib.hid hr
          clear hr hc
          go_wp2_with (first | ((with_reducible refine (rright_val _ _ he _ _ Hr.out _).mono ?_); rintro e w4 ⟨rfl, h0⟩; clear c0 c1 c2 r0 r1 r2 f0 f1 f2; have hT4 := hT.next h0; obtain ⟨c0, c1, c2, r0, r1, r2, f0, f1, f2⟩ := hT4.nine (j := 1) (a := .int .i64 2) (b := .string { data := #[] }) (c := .int .i64 k1) (by decide) rfl rfl rfl) | ((with_reducible refine (rput_val3 _ _ he _ _ Hr.out _ rfl hn1 _).mono ?_); rintro e w5 ⟨rfl, h5⟩; clear c0 c1 c2 r0 r1 r2 f0 f1 f2; have hT5 := hT4.next h5; have hbx := hT5.b; obtain ⟨c0, c1, c2, r0, r1, r2, f0, f1, f2⟩ := hT5.nine (j := 1) (a := .int .i64 2) (b := .string { data := #[] }) (c := .int .i64 k1) (by decide) rfl rfl rfl))
          go_roundw
          case rel => exact ⟨2, by omega, by go_num, hits_succ hh hno, hT4⟩
          case measure => simp [intOf]
        · rcases ht : putV 2 ({ data := #[] } : ByteArray).data.toList k1 == s.data.toList with _ | _
          · have hno : Hid (hit s.data.toList 1 = false) := by
              show _ = _
              unfold hit; rw [hc]; show (rightV 2 ({ data := #[] } : ByteArray).data.toList k1 && (putV 2 ({ data := #[] } : ByteArray).data.toList k1 == s.data.toList)) = false; rw [hr, ht]; rfl
            have hq : (putV 2 ({ data := #[] } : ByteArray).data.toList k1 == s.toList) = false := by rw [ByteArray.toList_eq]; exact ht
            have Hr := Lib.hid hr
            clear hr hc ht
            go_wp2_with (first | ((with_reducible refine (rright_val _ _ he _ _ Hr.out _).mono ?_); rintro e w4 ⟨rfl, h0⟩; clear c0 c1 c2 r0 r1 r2 f0 f1 f2; have hT4 := hT.next h0; obtain ⟨c0, c1, c2, r0, r1, r2, f0, f1, f2⟩ := hT4.nine (j := 1) (a := .int .i64 2) (b := .string { data := #[] }) (c := .int .i64 k1) (by decide) rfl rfl rfl) | ((with_reducible refine (rput_val3 _ _ he _ _ Hr.out _ rfl hn1 _).mono ?_); rintro e w5 ⟨rfl, h5⟩; clear c0 c1 c2 r0 r1 r2 f0 f1 f2; have hT5 := hT4.next h5; have hbx := hT5.b; obtain ⟨c0, c1, c2, r0, r1, r2, f0, f1, f2⟩ := hT5.nine (j := 1) (a := .int .i64 2) (b := .string { data := #[] }) (c := .int .i64 k1) (by decide) rfl rfl rfl))
            go_roundw
            case rel => exact ⟨2, by omega, by go_num, hits_succ hh hno, hT5⟩
            case measure => simp [intOf]
          · have hyes : Hid (hit s.data.toList 1 = true) := by
              show _ = _
              unfold hit; rw [hc]; show (rightV 2 ({ data := #[] } : ByteArray).data.toList k1 && (putV 2 ({ data := #[] } : ByteArray).data.toList k1 == s.data.toList)) = true; rw [hr, ht]; rfl
            have hA := Lib.hid (refA_hit (by decide) hyes hh hc)
            have hq : (putV 2 ({ data := #[] } : ByteArray).data.toList k1 == s.toList) = true := by rw [ByteArray.toList_eq]; exact ht
            have Hr := Lib.hid hr
            clear hr hc ht
            go_wp2_with (first | ((with_reducible refine (rright_val _ _ he _ _ Hr.out _).mono ?_); rintro e w4 ⟨rfl, h0⟩; clear c0 c1 c2 r0 r1 r2 f0 f1 f2; have hT4 := hT.next h0; obtain ⟨c0, c1, c2, r0, r1, r2, f0, f1, f2⟩ := hT4.nine (j := 1) (a := .int .i64 2) (b := .string { data := #[] }) (c := .int .i64 k1) (by decide) rfl rfl rfl) | ((with_reducible refine (rput_val3 _ _ he _ _ Hr.out _ rfl hn1 _).mono ?_); rintro e w5 ⟨rfl, h5⟩; clear c0 c1 c2 r0 r1 r2 f0 f1 f2; have hT5 := hT4.next h5; have hbx := hT5.b; obtain ⟨c0, c1, c2, r0, r1, r2, f0, f1, f2⟩ := hT5.nine (j := 1) (a := .int .i64 2) (b := .string { data := #[] }) (c := .int .i64 k1) (by decide) rfl rfl rfl))
            ((try simp only [Exit.inBlock, Exit.then]); refine bodyPost_ret_by (v := (.tuple #[.agg #[.int .i64 2, .string .empty, .int .i64 k1], .bool true])) ((results_cell_tmp rfl _ _ _).trans (by go_simp; try rfl)) rfl ⟨?_, ?_⟩)
            · exact argV_of hA.out
            · (repeat (first | with_reducible assumption | exact (Below.refl _ _).alloc (Nat.le_refl _) _ | exact Below.refl _ _ | (refine Below.drew ?_) | (refine Below.setCell ?_ ?_ _; rotate_left; first | exact Nat.le_refl _ | (dsimp only; omega)) | (refine Below.alloc ?_ ?_ _; rotate_left; first | exact Nat.le_refl _ | (simp; omega) | simp)))
      · obtain ⟨c0, c1, c2, r0, r1, r2, f0, f1, f2⟩ := hT.nine (j := 2) (a := .int .i64 3) (b := .string { data := #[] }) (c := .int .i64 k2) (by decide) rfl rfl rfl
        have hc : cand s.data.toList 2 = (3, ({ data := #[] } : ByteArray).data.toList, k2) := HC2.out
        rcases hr : rightV 3 ({ data := #[] } : ByteArray).data.toList k2 with _ | _
        · have hno : Hid (hit s.data.toList 2 = false) := by
            show _ = _
            unfold hit; rw [hc]; show (rightV 3 ({ data := #[] } : ByteArray).data.toList k2 && _) = false; rw [hr]; rfl
          have Hr := Lib.hid hr
          clear hr hc
          go_wp2_with (first | ((with_reducible refine (rright_val _ _ he _ _ Hr.out _).mono ?_); rintro e w4 ⟨rfl, h0⟩; clear c0 c1 c2 r0 r1 r2 f0 f1 f2; have hT4 := hT.next h0; obtain ⟨c0, c1, c2, r0, r1, r2, f0, f1, f2⟩ := hT4.nine (j := 2) (a := .int .i64 3) (b := .string { data := #[] }) (c := .int .i64 k2) (by decide) rfl rfl rfl) | ((with_reducible refine (rput_val3 _ _ he _ _ Hr.out _ rfl hn2 _).mono ?_); rintro e w5 ⟨rfl, h5⟩; clear c0 c1 c2 r0 r1 r2 f0 f1 f2; have hT5 := hT4.next h5; have hbx := hT5.b; obtain ⟨c0, c1, c2, r0, r1, r2, f0, f1, f2⟩ := hT5.nine (j := 2) (a := .int .i64 3) (b := .string { data := #[] }) (c := .int .i64 k2) (by decide) rfl rfl rfl))
          go_roundw
          case rel => exact ⟨3, by omega, by go_num, hits_succ hh hno, hT4⟩
          case measure => simp [intOf]
        · rcases ht : putV 3 ({ data := #[] } : ByteArray).data.toList k2 == s.data.toList with _ | _
          · have hno : Hid (hit s.data.toList 2 = false) := by
              show _ = _
              unfold hit; rw [hc]; show (rightV 3 ({ data := #[] } : ByteArray).data.toList k2 && (putV 3 ({ data := #[] } : ByteArray).data.toList k2 == s.data.toList)) = false; rw [hr, ht]; rfl
            have hq : (putV 3 ({ data := #[] } : ByteArray).data.toList k2 == s.toList) = false := by rw [ByteArray.toList_eq]; exact ht
            have Hr := Lib.hid hr
            clear hr hc ht
            go_wp2_with (first | ((with_reducible refine (rright_val _ _ he _ _ Hr.out _).mono ?_); rintro e w4 ⟨rfl, h0⟩; clear c0 c1 c2 r0 r1 r2 f0 f1 f2; have hT4 := hT.next h0; obtain ⟨c0, c1, c2, r0, r1, r2, f0, f1, f2⟩ := hT4.nine (j := 2) (a := .int .i64 3) (b := .string { data := #[] }) (c := .int .i64 k2) (by decide) rfl rfl rfl) | ((with_reducible refine (rput_val3 _ _ he _ _ Hr.out _ rfl hn2 _).mono ?_); rintro e w5 ⟨rfl, h5⟩; clear c0 c1 c2 r0 r1 r2 f0 f1 f2; have hT5 := hT4.next h5; have hbx := hT5.b; obtain ⟨c0, c1, c2, r0, r1, r2, f0, f1, f2⟩ := hT5.nine (j := 2) (a := .int .i64 3) (b := .string { data := #[] }) (c := .int .i64 k2) (by decide) rfl rfl rfl))
            go_roundw
            case rel => exact ⟨3, by omega, by go_num, hits_succ hh hno, hT5⟩
            case measure => simp [intOf]
          · have hyes : Hid (hit s.data.toList 2 = true) := by
              show _ = _
              unfold hit; rw [hc]; show (rightV 3 ({ data := #[] } : ByteArray).data.toList k2 && (putV 3 ({ data := #[] } : ByteArray).data.toList k2 == s.data.toList)) = true; rw [hr, ht]; rfl
            have hA := Lib.hid (refA_hit (by decide) hyes hh hc)
            have hq : (putV 3 ({ data := #[] } : ByteArray).data.toList k2 == s.toList) = true := by rw [ByteArray.toList_eq]; exact ht
            have Hr := Lib.hid hr
            clear hr hc ht
            go_wp2_with (first | ((with_reducible refine (rright_val _ _ he _ _ Hr.out _).mono ?_); rintro e w4 ⟨rfl, h0⟩; clear c0 c1 c2 r0 r1 r2 f0 f1 f2; have hT4 := hT.next h0; obtain ⟨c0, c1, c2, r0, r1, r2, f0, f1, f2⟩ := hT4.nine (j := 2) (a := .int .i64 3) (b := .string { data := #[] }) (c := .int .i64 k2) (by decide) rfl rfl rfl) | ((with_reducible refine (rput_val3 _ _ he _ _ Hr.out _ rfl hn2 _).mono ?_); rintro e w5 ⟨rfl, h5⟩; clear c0 c1 c2 r0 r1 r2 f0 f1 f2; have hT5 := hT4.next h5; have hbx := hT5.b; obtain ⟨c0, c1, c2, r0, r1, r2, f0, f1, f2⟩ := hT5.nine (j := 2) (a := .int .i64 3) (b := .string { data := #[] }) (c := .int .i64 k2) (by decide) rfl rfl rfl))
            ((try simp only [Exit.inBlock, Exit.then]); refine bodyPost_ret_by (v := (.tuple #[.agg #[.int .i64 3, .string .empty, .int .i64 k2], .bool true])) ((results_cell_tmp rfl _ _ _).trans (by go_simp; try rfl)) rfl ⟨?_, ?_⟩)
            · exact argV_of hA.out
            · (repeat (first | with_reducible assumption | exact (Below.refl _ _).alloc (Nat.le_refl _) _ | exact Below.refl _ _ | (refine Below.drew ?_) | (refine Below.setCell ?_ ?_ _; rotate_left; first | exact Nat.le_refl _ | (dsimp only; omega)) | (refine Below.alloc ?_ ?_ _; rotate_left; first | exact Nat.le_refl _ | (simp; omega) | simp)))
      · obtain ⟨c0, c1, c2, r0, r1, r2, f0, f1, f2⟩ := hT.nine (j := 3) (a := .int .i64 4) (b := .string { data := #[] }) (c := .int .i64 0) (by decide) rfl rfl rfl
        have hc : cand s.data.toList 3 = (4, ({ data := #[] } : ByteArray).data.toList, 0) := HC3.out
        rcases hr : rightV 4 ({ data := #[] } : ByteArray).data.toList 0 with _ | _
        · have hno : Hid (hit s.data.toList 3 = false) := by
            show _ = _
            unfold hit; rw [hc]; show (rightV 4 ({ data := #[] } : ByteArray).data.toList 0 && _) = false; rw [hr]; rfl
          have Hr := Lib.hid hr
          clear hr hc
          go_wp2_with (first | ((with_reducible refine (rright_val _ _ he _ _ Hr.out _).mono ?_); rintro e w4 ⟨rfl, h0⟩; clear c0 c1 c2 r0 r1 r2 f0 f1 f2; have hT4 := hT.next h0; obtain ⟨c0, c1, c2, r0, r1, r2, f0, f1, f2⟩ := hT4.nine (j := 3) (a := .int .i64 4) (b := .string { data := #[] }) (c := .int .i64 0) (by decide) rfl rfl rfl) | ((with_reducible refine (rput_val3 _ _ he _ _ Hr.out _ rfl hz0 _).mono ?_); rintro e w5 ⟨rfl, h5⟩; clear c0 c1 c2 r0 r1 r2 f0 f1 f2; have hT5 := hT4.next h5; have hbx := hT5.b; obtain ⟨c0, c1, c2, r0, r1, r2, f0, f1, f2⟩ := hT5.nine (j := 3) (a := .int .i64 4) (b := .string { data := #[] }) (c := .int .i64 0) (by decide) rfl rfl rfl))
          go_roundw
          case rel => exact ⟨4, by omega, by go_num, hits_succ hh hno, hT4⟩
          case measure => simp [intOf]
        · rcases ht : putV 4 ({ data := #[] } : ByteArray).data.toList 0 == s.data.toList with _ | _
          · have hno : Hid (hit s.data.toList 3 = false) := by
              show _ = _
              unfold hit; rw [hc]; show (rightV 4 ({ data := #[] } : ByteArray).data.toList 0 && (putV 4 ({ data := #[] } : ByteArray).data.toList 0 == s.data.toList)) = false; rw [hr, ht]; rfl
            have hq : (putV 4 ({ data := #[] } : ByteArray).data.toList 0 == s.toList) = false := by rw [ByteArray.toList_eq]; exact ht
            have Hr := Lib.hid hr
            clear hr hc ht
            go_wp2_with (first | ((with_reducible refine (rright_val _ _ he _ _ Hr.out _).mono ?_); rintro e w4 ⟨rfl, h0⟩; clear c0 c1 c2 r0 r1 r2 f0 f1 f2; have hT4 := hT.next h0; obtain ⟨c0, c1, c2, r0, r1, r2, f0, f1, f2⟩ := hT4.nine (j := 3) (a := .int .i64 4) (b := .string { data := #[] }) (c := .int .i64 0) (by decide) rfl rfl rfl) | ((with_reducible refine (rput_val3 _ _ he _ _ Hr.out _ rfl hz0 _).mono ?_); rintro e w5 ⟨rfl, h5⟩; clear c0 c1 c2 r0 r1 r2 f0 f1 f2; have hT5 := hT4.next h5; have hbx := hT5.b; obtain ⟨c0, c1, c2, r0, r1, r2, f0, f1, f2⟩ := hT5.nine (j := 3) (a := .int .i64 4) (b := .string { data := #[] }) (c := .int .i64 0) (by decide) rfl rfl rfl))
            go_roundw
            case rel => exact ⟨4, by omega, by go_num, hits_succ hh hno, hT5⟩
            case measure => simp [intOf]
          · have hyes : Hid (hit s.data.toList 3 = true) := by
              show _ = _
              unfold hit; rw [hc]; show (rightV 4 ({ data := #[] } : ByteArray).data.toList 0 && (putV 4 ({ data := #[] } : ByteArray).data.toList 0 == s.data.toList)) = true; rw [hr, ht]; rfl
            have hA := Lib.hid (refA_hit (by decide) hyes hh hc)
            have hq : (putV 4 ({ data := #[] } : ByteArray).data.toList 0 == s.toList) = true := by rw [ByteArray.toList_eq]; exact ht
            have Hr := Lib.hid hr
            clear hr hc ht
            go_wp2_with (first | ((with_reducible refine (rright_val _ _ he _ _ Hr.out _).mono ?_); rintro e w4 ⟨rfl, h0⟩; clear c0 c1 c2 r0 r1 r2 f0 f1 f2; have hT4 := hT.next h0; obtain ⟨c0, c1, c2, r0, r1, r2, f0, f1, f2⟩ := hT4.nine (j := 3) (a := .int .i64 4) (b := .string { data := #[] }) (c := .int .i64 0) (by decide) rfl rfl rfl) | ((with_reducible refine (rput_val3 _ _ he _ _ Hr.out _ rfl hz0 _).mono ?_); rintro e w5 ⟨rfl, h5⟩; clear c0 c1 c2 r0 r1 r2 f0 f1 f2; have hT5 := hT4.next h5; have hbx := hT5.b; obtain ⟨c0, c1, c2, r0, r1, r2, f0, f1, f2⟩ := hT5.nine (j := 3) (a := .int .i64 4) (b := .string { data := #[] }) (c := .int .i64 0) (by decide) rfl rfl rfl))
            ((try simp only [Exit.inBlock, Exit.then]); refine bodyPost_ret_by (v := (.tuple #[.agg #[.int .i64 4, .string .empty, .int .i64 0], .bool true])) ((results_cell_tmp rfl _ _ _).trans (by go_simp; try rfl)) rfl ⟨?_, ?_⟩)
            · exact argV_of hA.out
            · (repeat (first | with_reducible assumption | exact (Below.refl _ _).alloc (Nat.le_refl _) _ | exact Below.refl _ _ | (refine Below.drew ?_) | (refine Below.setCell ?_ ?_ _; rotate_left; first | exact Nat.le_refl _ | (dsimp only; omega)) | (refine Below.alloc ?_ ?_ _; rotate_left; first | exact Nat.le_refl _ | (simp; omega) | simp)))
      · obtain ⟨c0, c1, c2, r0, r1, r2, f0, f1, f2⟩ := hT.nine (j := 4) (a := .int .i64 5) (b := .string { data := #[] }) (c := .int .i64 k3) (by decide) rfl rfl rfl
        have hc : cand s.data.toList 4 = (5, ({ data := #[] } : ByteArray).data.toList, k3) := HC4.out
        rcases hr : rightV 5 ({ data := #[] } : ByteArray).data.toList k3 with _ | _
        · have hno : Hid (hit s.data.toList 4 = false) := by
            show _ = _
            unfold hit; rw [hc]; show (rightV 5 ({ data := #[] } : ByteArray).data.toList k3 && _) = false; rw [hr]; rfl
          have Hr := Lib.hid hr
          clear hr hc
          go_wp2_with (first | ((with_reducible refine (rright_val _ _ he _ _ Hr.out _).mono ?_); rintro e w4 ⟨rfl, h0⟩; clear c0 c1 c2 r0 r1 r2 f0 f1 f2; have hT4 := hT.next h0; obtain ⟨c0, c1, c2, r0, r1, r2, f0, f1, f2⟩ := hT4.nine (j := 4) (a := .int .i64 5) (b := .string { data := #[] }) (c := .int .i64 k3) (by decide) rfl rfl rfl) | ((with_reducible refine (rput_val3 _ _ he _ _ Hr.out _ rfl hn3 _).mono ?_); rintro e w5 ⟨rfl, h5⟩; clear c0 c1 c2 r0 r1 r2 f0 f1 f2; have hT5 := hT4.next h5; have hbx := hT5.b; obtain ⟨c0, c1, c2, r0, r1, r2, f0, f1, f2⟩ := hT5.nine (j := 4) (a := .int .i64 5) (b := .string { data := #[] }) (c := .int .i64 k3) (by decide) rfl rfl rfl))
          go_roundw
          case rel => exact ⟨5, by omega, by go_num, hits_succ hh hno, hT4⟩
          case measure => simp [intOf]
        · rcases ht : putV 5 ({ data := #[] } : ByteArray).data.toList k3 == s.data.toList with _ | _
          · have hno : Hid (hit s.data.toList 4 = false) := by
              show _ = _
              unfold hit; rw [hc]; show (rightV 5 ({ data := #[] } : ByteArray).data.toList k3 && (putV 5 ({ data := #[] } : ByteArray).data.toList k3 == s.data.toList)) = false; rw [hr, ht]; rfl
            have hq : (putV 5 ({ data := #[] } : ByteArray).data.toList k3 == s.toList) = false := by rw [ByteArray.toList_eq]; exact ht
            have Hr := Lib.hid hr
            clear hr hc ht
            go_wp2_with (first | ((with_reducible refine (rright_val _ _ he _ _ Hr.out _).mono ?_); rintro e w4 ⟨rfl, h0⟩; clear c0 c1 c2 r0 r1 r2 f0 f1 f2; have hT4 := hT.next h0; obtain ⟨c0, c1, c2, r0, r1, r2, f0, f1, f2⟩ := hT4.nine (j := 4) (a := .int .i64 5) (b := .string { data := #[] }) (c := .int .i64 k3) (by decide) rfl rfl rfl) | ((with_reducible refine (rput_val3 _ _ he _ _ Hr.out _ rfl hn3 _).mono ?_); rintro e w5 ⟨rfl, h5⟩; clear c0 c1 c2 r0 r1 r2 f0 f1 f2; have hT5 := hT4.next h5; have hbx := hT5.b; obtain ⟨c0, c1, c2, r0, r1, r2, f0, f1, f2⟩ := hT5.nine (j := 4) (a := .int .i64 5) (b := .string { data := #[] }) (c := .int .i64 k3) (by decide) rfl rfl rfl))
            go_roundw
            case rel => exact ⟨5, by omega, by go_num, hits_succ hh hno, hT5⟩
            case measure => simp [intOf]
          · have hyes : Hid (hit s.data.toList 4 = true) := by
              show _ = _
              unfold hit; rw [hc]; show (rightV 5 ({ data := #[] } : ByteArray).data.toList k3 && (putV 5 ({ data := #[] } : ByteArray).data.toList k3 == s.data.toList)) = true; rw [hr, ht]; rfl
            have hA := Lib.hid (refA_hit (by decide) hyes hh hc)
            have hq : (putV 5 ({ data := #[] } : ByteArray).data.toList k3 == s.toList) = true := by rw [ByteArray.toList_eq]; exact ht
            have Hr := Lib.hid hr
            clear hr hc ht
            go_wp2_with (first | ((with_reducible refine (rright_val _ _ he _ _ Hr.out _).mono ?_); rintro e w4 ⟨rfl, h0⟩; clear c0 c1 c2 r0 r1 r2 f0 f1 f2; have hT4 := hT.next h0; obtain ⟨c0, c1, c2, r0, r1, r2, f0, f1, f2⟩ := hT4.nine (j := 4) (a := .int .i64 5) (b := .string { data := #[] }) (c := .int .i64 k3) (by decide) rfl rfl rfl) | ((with_reducible refine (rput_val3 _ _ he _ _ Hr.out _ rfl hn3 _).mono ?_); rintro e w5 ⟨rfl, h5⟩; clear c0 c1 c2 r0 r1 r2 f0 f1 f2; have hT5 := hT4.next h5; have hbx := hT5.b; obtain ⟨c0, c1, c2, r0, r1, r2, f0, f1, f2⟩ := hT5.nine (j := 4) (a := .int .i64 5) (b := .string { data := #[] }) (c := .int .i64 k3) (by decide) rfl rfl rfl))
            ((try simp only [Exit.inBlock, Exit.then]); refine bodyPost_ret_by (v := (.tuple #[.agg #[.int .i64 5, .string .empty, .int .i64 k3], .bool true])) ((results_cell_tmp rfl _ _ _).trans (by go_simp; try rfl)) rfl ⟨?_, ?_⟩)
            · exact argV_of hA.out
            · (repeat (first | with_reducible assumption | exact (Below.refl _ _).alloc (Nat.le_refl _) _ | exact Below.refl _ _ | (refine Below.drew ?_) | (refine Below.setCell ?_ ?_ _; rotate_left; first | exact Nat.le_refl _ | (dsimp only; omega)) | (refine Below.alloc ?_ ?_ _; rotate_left; first | exact Nat.le_refl _ | (simp; omega) | simp)))

set_option maxHeartbeats 1000000 in
theorem rget3_empty (s : ByteArray) (hs : Hid (s.size ≤ 9223372036854775807)) (hpos : s.size = 0) (w : World) :
    Calls Try.prog 12 #[.string s] w fun e w' => e = .returned (argV (refA s.data.toList)) ∧ Below w.heap.size w w' := by
  rcases hv : getV s.data.toList with ⟨k2, b2⟩
  rcases hn : getN s.data.toList with ⟨k1, b1⟩
  have hnil : s.data.toList = [] := by
    have := size_data s
    rw [hpos] at this
    exact List.eq_nil_of_length_eq_zero this
  have Hv := Lib.hid hv
  have Hn := Lib.hid hn
  have HC0 : Hid (cand s.data.toList 0 = (1, s.data.toList, 0)) := rfl
  have HC1 : Hid (cand s.data.toList 1 = (2, ({ data := #[] } : ByteArray).data.toList, k1)) := by show _ = _; unfold cand; rw [hn]; rfl
  have HC2 : Hid (cand s.data.toList 2 = (3, ({ data := #[] } : ByteArray).data.toList, k2)) := by show _ = _; unfold cand; rw [hv]; rfl
  have HC3 : Hid (cand s.data.toList 3 = (4, ({ data := #[] } : ByteArray).data.toList, 0)) := rfl
  have HC4 : Hid (cand s.data.toList 4 = (5, ({ data := #[] } : ByteArray).data.toList, 0)) := by show _ = _; unfold cand; rw [hnil]; show (5, [], (getN []).1) = _; rw [getN_nil]
  have he : Hid (({ data := #[] } : ByteArray).size ≤ 9223372036854775807) := by show _ ≤ _; decide
  have hz0 : Hid (-9223372036854775808 ≤ (0 : Int) ∧ (0 : Int) ≤ 9223372036854775807) := by show _ ∧ _; decide
  have hn1 : Hid (-9223372036854775808 ≤ k1 ∧ k1 ≤ 9223372036854775807) := by show _ ∧ _; have := getN_range s.data.toList; rw [hn] at this; exact this
  have hn2 : Hid (-9223372036854775808 ≤ k2 ∧ k2 ≤ 9223372036854775807) := by show _ ∧ _; have := getV_range s.data.toList; rw [hv] at this; exact this
  clear hv hn hnil
  have hz := (Below.refl w.heap.size w).alloc (Nat.le_refl _) (Obj.cells #[.int .i64 0, .string { data := #[] }, .int .i64 0] 25)
  have hzs : w.heap.size ≤ (w.alloc (Obj.cells #[.int .i64 0, .string { data := #[] }, .int .i64 0] 25)).heap.size := hz.size
  go_enter Try.func12, Try.ntmps12
  go_wp2_with (first | ((with_reducible refine (irget_val _ hs _ _ Hn.out _).mono ?_); rintro e w1 ⟨rfl, h1⟩) | ((with_reducible refine (ifget_val _ _ _ Hv.out _).mono ?_); rintro e w2 ⟨rfl, h2⟩) | ((with_reducible refine (irget_nil _).mono ?_); rintro e w3 ⟨rfl, h3⟩))
  have h4 := h1.trans ((bthen h2 h3).mono h1.size)
  have H4 := Tab.start (s := s) (k1 := k1) (k2 := k2) (k3 := 0) h4
  go_loopw [12] (fun i wr => ∃ k : Nat, k ≤ 5 ∧ i = .int .i64 (k : Int) ∧ (∀ j, j < k → Hid (hit s.data.toList j = false)) ∧ Tab w wr w3.heap.size s k1 k2 0) (fun i _ => 5 - (intOf i).toNat)
  case atStart => exact ⟨0, by omega, rfl, fun j hj => absurd hj (Nat.not_lt_zero j), H4⟩
  case round =>
    obtain ⟨k, hk, rfl, hh, hT⟩ := hrel
    by_cases h5 : k = 5
    · subst h5
      have hbx := hT.b
      obtain ⟨-, r0, r1, r2, f0, f1, f2, -, -, -⟩ := hT
      have hA := Lib.hid (refA_none (fun j hj => (hh j hj).out))
      go_wp2
      ((try simp only [Exit.inBlock, Exit.then]); refine bodyPost_ret_by (v := (.tuple #[.agg #[.int .i64 0, .string .empty, .int .i64 0], .bool false])) ((results_cell_tmp rfl _ _ _).trans (by go_simp; try rfl)) rfl ⟨?_, ?_⟩)
      · exact argV_of (t := .empty) hA.out
      · (repeat (first | with_reducible assumption | exact (Below.refl _ _).alloc (Nat.le_refl _) _ | exact Below.refl _ _ | (refine Below.drew ?_) | (refine Below.setCell ?_ ?_ _; rotate_left; first | exact Nat.le_refl _ | (dsimp only; omega)) | (refine Below.alloc ?_ ?_ _; rotate_left; first | exact Nat.le_refl _ | (simp; omega) | simp)))
    · have h6 : k = 0 ∨ k = 1 ∨ k = 2 ∨ k = 3 ∨ k = 4 := by omega
      clear h5 hk
      rcases h6 with rfl | rfl | rfl | rfl | rfl
      · obtain ⟨c0, c1, c2, r0, r1, r2, f0, f1, f2⟩ := hT.nine (j := 0) (a := .int .i64 1) (b := .string s) (c := .int .i64 0) (by decide) rfl rfl rfl
        have hc : cand s.data.toList 0 = (1, s.data.toList, 0) := HC0.out
        rcases hr : rightV 1 s.data.toList 0 with _ | _
        · have hno : Hid (hit s.data.toList 0 = false) := by
            show _ = _
            unfold hit; rw [hc]; show (rightV 1 s.data.toList 0 && _) = false; rw [hr]; rfl
          have Hr := Lib.hid hr
          clear hr hc
          go_wp2_with (first | ((with_reducible refine (rright_val _ _ hs _ _ Hr.out _).mono ?_); rintro e w4 ⟨rfl, h0⟩; clear c0 c1 c2 r0 r1 r2 f0 f1 f2; have hT4 := hT.next h0; obtain ⟨c0, c1, c2, r0, r1, r2, f0, f1, f2⟩ := hT4.nine (j := 0) (a := .int .i64 1) (b := .string s) (c := .int .i64 0) (by decide) rfl rfl rfl) | ((with_reducible refine (rput_val3 _ _ hs _ _ Hr.out _ rfl hz0 _).mono ?_); rintro e w5 ⟨rfl, h5⟩; clear c0 c1 c2 r0 r1 r2 f0 f1 f2; have hT5 := hT4.next h5; have hbx := hT5.b; obtain ⟨c0, c1, c2, r0, r1, r2, f0, f1, f2⟩ := hT5.nine (j := 0) (a := .int .i64 1) (b := .string s) (c := .int .i64 0) (by decide) rfl rfl rfl))
          go_roundw
          case rel => exact ⟨1, by omega, by go_num, hits_succ hh hno, hT4⟩
          case measure => simp [intOf]
        · rcases ht : putV 1 s.data.toList 0 == s.data.toList with _ | _
          · have hno : Hid (hit s.data.toList 0 = false) := by
              show _ = _
              unfold hit; rw [hc]; show (rightV 1 s.data.toList 0 && (putV 1 s.data.toList 0 == s.data.toList)) = false; rw [hr, ht]; rfl
            have hq : (putV 1 s.data.toList 0 == s.toList) = false := by rw [ByteArray.toList_eq]; exact ht
            have Hr := Lib.hid hr
            clear hr hc ht
            go_wp2_with (first | ((with_reducible refine (rright_val _ _ hs _ _ Hr.out _).mono ?_); rintro e w4 ⟨rfl, h0⟩; clear c0 c1 c2 r0 r1 r2 f0 f1 f2; have hT4 := hT.next h0; obtain ⟨c0, c1, c2, r0, r1, r2, f0, f1, f2⟩ := hT4.nine (j := 0) (a := .int .i64 1) (b := .string s) (c := .int .i64 0) (by decide) rfl rfl rfl) | ((with_reducible refine (rput_val3 _ _ hs _ _ Hr.out _ rfl hz0 _).mono ?_); rintro e w5 ⟨rfl, h5⟩; clear c0 c1 c2 r0 r1 r2 f0 f1 f2; have hT5 := hT4.next h5; have hbx := hT5.b; obtain ⟨c0, c1, c2, r0, r1, r2, f0, f1, f2⟩ := hT5.nine (j := 0) (a := .int .i64 1) (b := .string s) (c := .int .i64 0) (by decide) rfl rfl rfl))
            go_roundw
            case rel => exact ⟨1, by omega, by go_num, hits_succ hh hno, hT5⟩
            case measure => simp [intOf]
          · have hyes : Hid (hit s.data.toList 0 = true) := by
              show _ = _
              unfold hit; rw [hc]; show (rightV 1 s.data.toList 0 && (putV 1 s.data.toList 0 == s.data.toList)) = true; rw [hr, ht]; rfl
            have hA := Lib.hid (refA_hit (by decide) hyes hh hc)
            have hq : (putV 1 s.data.toList 0 == s.toList) = true := by rw [ByteArray.toList_eq]; exact ht
            have Hr := Lib.hid hr
            clear hr hc ht
            go_wp2_with (first | ((with_reducible refine (rright_val _ _ hs _ _ Hr.out _).mono ?_); rintro e w4 ⟨rfl, h0⟩; clear c0 c1 c2 r0 r1 r2 f0 f1 f2; have hT4 := hT.next h0; obtain ⟨c0, c1, c2, r0, r1, r2, f0, f1, f2⟩ := hT4.nine (j := 0) (a := .int .i64 1) (b := .string s) (c := .int .i64 0) (by decide) rfl rfl rfl) | ((with_reducible refine (rput_val3 _ _ hs _ _ Hr.out _ rfl hz0 _).mono ?_); rintro e w5 ⟨rfl, h5⟩; clear c0 c1 c2 r0 r1 r2 f0 f1 f2; have hT5 := hT4.next h5; have hbx := hT5.b; obtain ⟨c0, c1, c2, r0, r1, r2, f0, f1, f2⟩ := hT5.nine (j := 0) (a := .int .i64 1) (b := .string s) (c := .int .i64 0) (by decide) rfl rfl rfl))
            ((try simp only [Exit.inBlock, Exit.then]); refine bodyPost_ret_by (v := (.tuple #[.agg #[.int .i64 1, .string s, .int .i64 0], .bool true])) ((results_cell_tmp rfl _ _ _).trans (by go_simp; try rfl)) rfl ⟨?_, ?_⟩)
            · exact argV_of hA.out
            · (repeat (first | with_reducible assumption | exact (Below.refl _ _).alloc (Nat.le_refl _) _ | exact Below.refl _ _ | (refine Below.drew ?_) | (refine Below.setCell ?_ ?_ _; rotate_left; first | exact Nat.le_refl _ | (dsimp only; omega)) | (refine Below.alloc ?_ ?_ _; rotate_left; first | exact Nat.le_refl _ | (simp; omega) | simp)))
      · obtain ⟨c0, c1, c2, r0, r1, r2, f0, f1, f2⟩ := hT.nine (j := 1) (a := .int .i64 2) (b := .string { data := #[] }) (c := .int .i64 k1) (by decide) rfl rfl rfl
        have hc : cand s.data.toList 1 = (2, ({ data := #[] } : ByteArray).data.toList, k1) := HC1.out
        rcases hr : rightV 2 ({ data := #[] } : ByteArray).data.toList k1 with _ | _
        · have hno : Hid (hit s.data.toList 1 = false) := by
            show _ = _
            unfold hit; rw [hc]; show (rightV 2 ({ data := #[] } : ByteArray).data.toList k1 && _) = false; rw [hr]; rfl
          have Hr := Lib.hid hr
          clear hr hc
          go_wp2_with (first | ((with_reducible refine (rright_val _ _ he _ _ Hr.out _).mono ?_); rintro e w4 ⟨rfl, h0⟩; clear c0 c1 c2 r0 r1 r2 f0 f1 f2; have hT4 := hT.next h0; obtain ⟨c0, c1, c2, r0, r1, r2, f0, f1, f2⟩ := hT4.nine (j := 1) (a := .int .i64 2) (b := .string { data := #[] }) (c := .int .i64 k1) (by decide) rfl rfl rfl) | ((with_reducible refine (rput_val3 _ _ he _ _ Hr.out _ rfl hn1 _).mono ?_); rintro e w5 ⟨rfl, h5⟩; clear c0 c1 c2 r0 r1 r2 f0 f1 f2; have hT5 := hT4.next h5; have hbx := hT5.b; obtain ⟨c0, c1, c2, r0, r1, r2, f0, f1, f2⟩ := hT5.nine (j := 1) (a := .int .i64 2) (b := .string { data := #[] }) (c := .int .i64 k1) (by decide) rfl rfl rfl))
          go_roundw
          case rel => exact ⟨2, by omega, by go_num, hits_succ hh hno, hT4⟩
          case measure => simp [intOf]
        · rcases ht : putV 2 ({ data := #[] } : ByteArray).data.toList k1 == s.data.toList with _ | _
          · have hno : Hid (hit s.data.toList 1 = false) := by
              show _ = _
              unfold hit; rw [hc]; show (rightV 2 ({ data := #[] } : ByteArray).data.toList k1 && (putV 2 ({ data := #[] } : ByteArray).data.toList k1 == s.data.toList)) = false; rw [hr, ht]; rfl
            have hq : (putV 2 ({ data := #[] } : ByteArray).data.toList k1 == s.toList) = false := by rw [ByteArray.toList_eq]; exact ht
            have Hr := Lib.hid hr
            clear hr hc ht
            go_wp2_with (first | ((with_reducible refine (rright_val _ _ he _ _ Hr.out _).mono ?_); rintro e w4 ⟨rfl, h0⟩; clear c0 c1 c2 r0 r1 r2 f0 f1 f2; have hT4 := hT.next h0; obtain ⟨c0, c1, c2, r0, r1, r2, f0, f1, f2⟩ := hT4.nine (j := 1) (a := .int .i64 2) (b := .string { data := #[] }) (c := .int .i64 k1) (by decide) rfl rfl rfl) | ((with_reducible refine (rput_val3 _ _ he _ _ Hr.out _ rfl hn1 _).mono ?_); rintro e w5 ⟨rfl, h5⟩; clear c0 c1 c2 r0 r1 r2 f0 f1 f2; have hT5 := hT4.next h5; have hbx := hT5.b; obtain ⟨c0, c1, c2, r0, r1, r2, f0, f1, f2⟩ := hT5.nine (j := 1) (a := .int .i64 2) (b := .string { data := #[] }) (c := .int .i64 k1) (by decide) rfl rfl rfl))
            go_roundw
            case rel => exact ⟨2, by omega, by go_num, hits_succ hh hno, hT5⟩
            case measure => simp [intOf]
          · have hyes : Hid (hit s.data.toList 1 = true) := by
              show _ = _
              unfold hit; rw [hc]; show (rightV 2 ({ data := #[] } : ByteArray).data.toList k1 && (putV 2 ({ data := #[] } : ByteArray).data.toList k1 == s.data.toList)) = true; rw [hr, ht]; rfl
            have hA := Lib.hid (refA_hit (by decide) hyes hh hc)
            have hq : (putV 2 ({ data := #[] } : ByteArray).data.toList k1 == s.toList) = true := by rw [ByteArray.toList_eq]; exact ht
            have Hr := Lib.hid hr
            clear hr hc ht
            go_wp2_with (first | ((with_reducible refine (rright_val _ _ he _ _ Hr.out _).mono ?_); rintro e w4 ⟨rfl, h0⟩; clear c0 c1 c2 r0 r1 r2 f0 f1 f2; have hT4 := hT.next h0; obtain ⟨c0, c1, c2, r0, r1, r2, f0, f1, f2⟩ := hT4.nine (j := 1) (a := .int .i64 2) (b := .string { data := #[] }) (c := .int .i64 k1) (by decide) rfl rfl rfl) | ((with_reducible refine (rput_val3 _ _ he _ _ Hr.out _ rfl hn1 _).mono ?_); rintro e w5 ⟨rfl, h5⟩; clear c0 c1 c2 r0 r1 r2 f0 f1 f2; have hT5 := hT4.next h5; have hbx := hT5.b; obtain ⟨c0, c1, c2, r0, r1, r2, f0, f1, f2⟩ := hT5.nine (j := 1) (a := .int .i64 2) (b := .string { data := #[] }) (c := .int .i64 k1) (by decide) rfl rfl rfl))
            ((try simp only [Exit.inBlock, Exit.then]); refine bodyPost_ret_by (v := (.tuple #[.agg #[.int .i64 2, .string .empty, .int .i64 k1], .bool true])) ((results_cell_tmp rfl _ _ _).trans (by go_simp; try rfl)) rfl ⟨?_, ?_⟩)
            · exact argV_of hA.out
            · (repeat (first | with_reducible assumption | exact (Below.refl _ _).alloc (Nat.le_refl _) _ | exact Below.refl _ _ | (refine Below.drew ?_) | (refine Below.setCell ?_ ?_ _; rotate_left; first | exact Nat.le_refl _ | (dsimp only; omega)) | (refine Below.alloc ?_ ?_ _; rotate_left; first | exact Nat.le_refl _ | (simp; omega) | simp)))
      · obtain ⟨c0, c1, c2, r0, r1, r2, f0, f1, f2⟩ := hT.nine (j := 2) (a := .int .i64 3) (b := .string { data := #[] }) (c := .int .i64 k2) (by decide) rfl rfl rfl
        have hc : cand s.data.toList 2 = (3, ({ data := #[] } : ByteArray).data.toList, k2) := HC2.out
        rcases hr : rightV 3 ({ data := #[] } : ByteArray).data.toList k2 with _ | _
        · have hno : Hid (hit s.data.toList 2 = false) := by
            show _ = _
            unfold hit; rw [hc]; show (rightV 3 ({ data := #[] } : ByteArray).data.toList k2 && _) = false; rw [hr]; rfl
          have Hr := Lib.hid hr
          clear hr hc
          go_wp2_with (first | ((with_reducible refine (rright_val _ _ he _ _ Hr.out _).mono ?_); rintro e w4 ⟨rfl, h0⟩; clear c0 c1 c2 r0 r1 r2 f0 f1 f2; have hT4 := hT.next h0; obtain ⟨c0, c1, c2, r0, r1, r2, f0, f1, f2⟩ := hT4.nine (j := 2) (a := .int .i64 3) (b := .string { data := #[] }) (c := .int .i64 k2) (by decide) rfl rfl rfl) | ((with_reducible refine (rput_val3 _ _ he _ _ Hr.out _ rfl hn2 _).mono ?_); rintro e w5 ⟨rfl, h5⟩; clear c0 c1 c2 r0 r1 r2 f0 f1 f2; have hT5 := hT4.next h5; have hbx := hT5.b; obtain ⟨c0, c1, c2, r0, r1, r2, f0, f1, f2⟩ := hT5.nine (j := 2) (a := .int .i64 3) (b := .string { data := #[] }) (c := .int .i64 k2) (by decide) rfl rfl rfl))
          go_roundw
          case rel => exact ⟨3, by omega, by go_num, hits_succ hh hno, hT4⟩
          case measure => simp [intOf]
        · rcases ht : putV 3 ({ data := #[] } : ByteArray).data.toList k2 == s.data.toList with _ | _
          · have hno : Hid (hit s.data.toList 2 = false) := by
              show _ = _
              unfold hit; rw [hc]; show (rightV 3 ({ data := #[] } : ByteArray).data.toList k2 && (putV 3 ({ data := #[] } : ByteArray).data.toList k2 == s.data.toList)) = false; rw [hr, ht]; rfl
            have hq : (putV 3 ({ data := #[] } : ByteArray).data.toList k2 == s.toList) = false := by rw [ByteArray.toList_eq]; exact ht
            have Hr := Lib.hid hr
            clear hr hc ht
            go_wp2_with (first | ((with_reducible refine (rright_val _ _ he _ _ Hr.out _).mono ?_); rintro e w4 ⟨rfl, h0⟩; clear c0 c1 c2 r0 r1 r2 f0 f1 f2; have hT4 := hT.next h0; obtain ⟨c0, c1, c2, r0, r1, r2, f0, f1, f2⟩ := hT4.nine (j := 2) (a := .int .i64 3) (b := .string { data := #[] }) (c := .int .i64 k2) (by decide) rfl rfl rfl) | ((with_reducible refine (rput_val3 _ _ he _ _ Hr.out _ rfl hn2 _).mono ?_); rintro e w5 ⟨rfl, h5⟩; clear c0 c1 c2 r0 r1 r2 f0 f1 f2; have hT5 := hT4.next h5; have hbx := hT5.b; obtain ⟨c0, c1, c2, r0, r1, r2, f0, f1, f2⟩ := hT5.nine (j := 2) (a := .int .i64 3) (b := .string { data := #[] }) (c := .int .i64 k2) (by decide) rfl rfl rfl))
            go_roundw
            case rel => exact ⟨3, by omega, by go_num, hits_succ hh hno, hT5⟩
            case measure => simp [intOf]
          · have hyes : Hid (hit s.data.toList 2 = true) := by
              show _ = _
              unfold hit; rw [hc]; show (rightV 3 ({ data := #[] } : ByteArray).data.toList k2 && (putV 3 ({ data := #[] } : ByteArray).data.toList k2 == s.data.toList)) = true; rw [hr, ht]; rfl
            have hA := Lib.hid (refA_hit (by decide) hyes hh hc)
            have hq : (putV 3 ({ data := #[] } : ByteArray).data.toList k2 == s.toList) = true := by rw [ByteArray.toList_eq]; exact ht
            have Hr := Lib.hid hr
            clear hr hc ht
            go_wp2_with (first | ((with_reducible refine (rright_val _ _ he _ _ Hr.out _).mono ?_); rintro e w4 ⟨rfl, h0⟩; clear c0 c1 c2 r0 r1 r2 f0 f1 f2; have hT4 := hT.next h0; obtain ⟨c0, c1, c2, r0, r1, r2, f0, f1, f2⟩ := hT4.nine (j := 2) (a := .int .i64 3) (b := .string { data := #[] }) (c := .int .i64 k2) (by decide) rfl rfl rfl) | ((with_reducible refine (rput_val3 _ _ he _ _ Hr.out _ rfl hn2 _).mono ?_); rintro e w5 ⟨rfl, h5⟩; clear c0 c1 c2 r0 r1 r2 f0 f1 f2; have hT5 := hT4.next h5; have hbx := hT5.b; obtain ⟨c0, c1, c2, r0, r1, r2, f0, f1, f2⟩ := hT5.nine (j := 2) (a := .int .i64 3) (b := .string { data := #[] }) (c := .int .i64 k2) (by decide) rfl rfl rfl))
            ((try simp only [Exit.inBlock, Exit.then]); refine bodyPost_ret_by (v := (.tuple #[.agg #[.int .i64 3, .string .empty, .int .i64 k2], .bool true])) ((results_cell_tmp rfl _ _ _).trans (by go_simp; try rfl)) rfl ⟨?_, ?_⟩)
            · exact argV_of hA.out
            · (repeat (first | with_reducible assumption | exact (Below.refl _ _).alloc (Nat.le_refl _) _ | exact Below.refl _ _ | (refine Below.drew ?_) | (refine Below.setCell ?_ ?_ _; rotate_left; first | exact Nat.le_refl _ | (dsimp only; omega)) | (refine Below.alloc ?_ ?_ _; rotate_left; first | exact Nat.le_refl _ | (simp; omega) | simp)))
      · obtain ⟨c0, c1, c2, r0, r1, r2, f0, f1, f2⟩ := hT.nine (j := 3) (a := .int .i64 4) (b := .string { data := #[] }) (c := .int .i64 0) (by decide) rfl rfl rfl
        have hc : cand s.data.toList 3 = (4, ({ data := #[] } : ByteArray).data.toList, 0) := HC3.out
        rcases hr : rightV 4 ({ data := #[] } : ByteArray).data.toList 0 with _ | _
        · have hno : Hid (hit s.data.toList 3 = false) := by
            show _ = _
            unfold hit; rw [hc]; show (rightV 4 ({ data := #[] } : ByteArray).data.toList 0 && _) = false; rw [hr]; rfl
          have Hr := Lib.hid hr
          clear hr hc
          go_wp2_with (first | ((with_reducible refine (rright_val _ _ he _ _ Hr.out _).mono ?_); rintro e w4 ⟨rfl, h0⟩; clear c0 c1 c2 r0 r1 r2 f0 f1 f2; have hT4 := hT.next h0; obtain ⟨c0, c1, c2, r0, r1, r2, f0, f1, f2⟩ := hT4.nine (j := 3) (a := .int .i64 4) (b := .string { data := #[] }) (c := .int .i64 0) (by decide) rfl rfl rfl) | ((with_reducible refine (rput_val3 _ _ he _ _ Hr.out _ rfl hz0 _).mono ?_); rintro e w5 ⟨rfl, h5⟩; clear c0 c1 c2 r0 r1 r2 f0 f1 f2; have hT5 := hT4.next h5; have hbx := hT5.b; obtain ⟨c0, c1, c2, r0, r1, r2, f0, f1, f2⟩ := hT5.nine (j := 3) (a := .int .i64 4) (b := .string { data := #[] }) (c := .int .i64 0) (by decide) rfl rfl rfl))
          go_roundw
          case rel => exact ⟨4, by omega, by go_num, hits_succ hh hno, hT4⟩
          case measure => simp [intOf]
        · rcases ht : putV 4 ({ data := #[] } : ByteArray).data.toList 0 == s.data.toList with _ | _
          · have hno : Hid (hit s.data.toList 3 = false) := by
              show _ = _
              unfold hit; rw [hc]; show (rightV 4 ({ data := #[] } : ByteArray).data.toList 0 && (putV 4 ({ data := #[] } : ByteArray).data.toList 0 == s.data.toList)) = false; rw [hr, ht]; rfl
            have hq : (putV 4 ({ data := #[] } : ByteArray).data.toList 0 == s.toList) = false := by rw [ByteArray.toList_eq]; exact ht
            have Hr := Lib.hid hr
            clear hr hc ht
            go_wp2_with (first | ((with_reducible refine (rright_val _ _ he _ _ Hr.out _).mono ?_); rintro e w4 ⟨rfl, h0⟩; clear c0 c1 c2 r0 r1 r2 f0 f1 f2; have hT4 := hT.next h0; obtain ⟨c0, c1, c2, r0, r1, r2, f0, f1, f2⟩ := hT4.nine (j := 3) (a := .int .i64 4) (b := .string { data := #[] }) (c := .int .i64 0) (by decide) rfl rfl rfl) | ((with_reducible refine (rput_val3 _ _ he _ _ Hr.out _ rfl hz0 _).mono ?_); rintro e w5 ⟨rfl, h5⟩; clear c0 c1 c2 r0 r1 r2 f0 f1 f2; have hT5 := hT4.next h5; have hbx := hT5.b; obtain ⟨c0, c1, c2, r0, r1, r2, f0, f1, f2⟩ := hT5.nine (j := 3) (a := .int .i64 4) (b := .string { data := #[] }) (c := .int .i64 0) (by decide) rfl rfl rfl))
            go_roundw
            case rel => exact ⟨4, by omega, by go_num, hits_succ hh hno, hT5⟩
            case measure => simp [intOf]
          · have hyes : Hid (hit s.data.toList 3 = true) := by
              show _ = _
              unfold hit; rw [hc]; show (rightV 4 ({ data := #[] } : ByteArray).data.toList 0 && (putV 4 ({ data := #[] } : ByteArray).data.toList 0 == s.data.toList)) = true; rw [hr, ht]; rfl
            have hA := Lib.hid (refA_hit (by decide) hyes hh hc)
            have hq : (putV 4 ({ data := #[] } : ByteArray).data.toList 0 == s.toList) = true := by rw [ByteArray.toList_eq]; exact ht
            have Hr := Lib.hid hr
            clear hr hc ht
            go_wp2_with (first | ((with_reducible refine (rright_val _ _ he _ _ Hr.out _).mono ?_); rintro e w4 ⟨rfl, h0⟩; clear c0 c1 c2 r0 r1 r2 f0 f1 f2; have hT4 := hT.next h0; obtain ⟨c0, c1, c2, r0, r1, r2, f0, f1, f2⟩ := hT4.nine (j := 3) (a := .int .i64 4) (b := .string { data := #[] }) (c := .int .i64 0) (by decide) rfl rfl rfl) | ((with_reducible refine (rput_val3 _ _ he _ _ Hr.out _ rfl hz0 _).mono ?_); rintro e w5 ⟨rfl, h5⟩; clear c0 c1 c2 r0 r1 r2 f0 f1 f2; have hT5 := hT4.next h5; have hbx := hT5.b; obtain ⟨c0, c1, c2, r0, r1, r2, f0, f1, f2⟩ := hT5.nine (j := 3) (a := .int .i64 4) (b := .string { data := #[] }) (c := .int .i64 0) (by decide) rfl rfl rfl))
            ((try simp only [Exit.inBlock, Exit.then]); refine bodyPost_ret_by (v := (.tuple #[.agg #[.int .i64 4, .string .empty, .int .i64 0], .bool true])) ((results_cell_tmp rfl _ _ _).trans (by go_simp; try rfl)) rfl ⟨?_, ?_⟩)
            · exact argV_of hA.out
            · (repeat (first | with_reducible assumption | exact (Below.refl _ _).alloc (Nat.le_refl _) _ | exact Below.refl _ _ | (refine Below.drew ?_) | (refine Below.setCell ?_ ?_ _; rotate_left; first | exact Nat.le_refl _ | (dsimp only; omega)) | (refine Below.alloc ?_ ?_ _; rotate_left; first | exact Nat.le_refl _ | (simp; omega) | simp)))
      · obtain ⟨c0, c1, c2, r0, r1, r2, f0, f1, f2⟩ := hT.nine (j := 4) (a := .int .i64 5) (b := .string { data := #[] }) (c := .int .i64 0) (by decide) rfl rfl rfl
        have hc : cand s.data.toList 4 = (5, ({ data := #[] } : ByteArray).data.toList, 0) := HC4.out
        rcases hr : rightV 5 ({ data := #[] } : ByteArray).data.toList 0 with _ | _
        · have hno : Hid (hit s.data.toList 4 = false) := by
            show _ = _
            unfold hit; rw [hc]; show (rightV 5 ({ data := #[] } : ByteArray).data.toList 0 && _) = false; rw [hr]; rfl
          have Hr := Lib.hid hr
          clear hr hc
          go_wp2_with (first | ((with_reducible refine (rright_val _ _ he _ _ Hr.out _).mono ?_); rintro e w4 ⟨rfl, h0⟩; clear c0 c1 c2 r0 r1 r2 f0 f1 f2; have hT4 := hT.next h0; obtain ⟨c0, c1, c2, r0, r1, r2, f0, f1, f2⟩ := hT4.nine (j := 4) (a := .int .i64 5) (b := .string { data := #[] }) (c := .int .i64 0) (by decide) rfl rfl rfl) | ((with_reducible refine (rput_val3 _ _ he _ _ Hr.out _ rfl hz0 _).mono ?_); rintro e w5 ⟨rfl, h5⟩; clear c0 c1 c2 r0 r1 r2 f0 f1 f2; have hT5 := hT4.next h5; have hbx := hT5.b; obtain ⟨c0, c1, c2, r0, r1, r2, f0, f1, f2⟩ := hT5.nine (j := 4) (a := .int .i64 5) (b := .string { data := #[] }) (c := .int .i64 0) (by decide) rfl rfl rfl))
          go_roundw
          case rel => exact ⟨5, by omega, by go_num, hits_succ hh hno, hT4⟩
          case measure => simp [intOf]
        · rcases ht : putV 5 ({ data := #[] } : ByteArray).data.toList 0 == s.data.toList with _ | _
          · have hno : Hid (hit s.data.toList 4 = false) := by
              show _ = _
              unfold hit; rw [hc]; show (rightV 5 ({ data := #[] } : ByteArray).data.toList 0 && (putV 5 ({ data := #[] } : ByteArray).data.toList 0 == s.data.toList)) = false; rw [hr, ht]; rfl
            have hq : (putV 5 ({ data := #[] } : ByteArray).data.toList 0 == s.toList) = false := by rw [ByteArray.toList_eq]; exact ht
            have Hr := Lib.hid hr
            clear hr hc ht
            go_wp2_with (first | ((with_reducible refine (rright_val _ _ he _ _ Hr.out _).mono ?_); rintro e w4 ⟨rfl, h0⟩; clear c0 c1 c2 r0 r1 r2 f0 f1 f2; have hT4 := hT.next h0; obtain ⟨c0, c1, c2, r0, r1, r2, f0, f1, f2⟩ := hT4.nine (j := 4) (a := .int .i64 5) (b := .string { data := #[] }) (c := .int .i64 0) (by decide) rfl rfl rfl) | ((with_reducible refine (rput_val3 _ _ he _ _ Hr.out _ rfl hz0 _).mono ?_); rintro e w5 ⟨rfl, h5⟩; clear c0 c1 c2 r0 r1 r2 f0 f1 f2; have hT5 := hT4.next h5; have hbx := hT5.b; obtain ⟨c0, c1, c2, r0, r1, r2, f0, f1, f2⟩ := hT5.nine (j := 4) (a := .int .i64 5) (b := .string { data := #[] }) (c := .int .i64 0) (by decide) rfl rfl rfl))
            go_roundw
            case rel => exact ⟨5, by omega, by go_num, hits_succ hh hno, hT5⟩
            case measure => simp [intOf]
          · have hyes : Hid (hit s.data.toList 4 = true) := by
              show _ = _
              unfold hit; rw [hc]; show (rightV 5 ({ data := #[] } : ByteArray).data.toList 0 && (putV 5 ({ data := #[] } : ByteArray).data.toList 0 == s.data.toList)) = true; rw [hr, ht]; rfl
            have hA := Lib.hid (refA_hit (by decide) hyes hh hc)
            have hq : (putV 5 ({ data := #[] } : ByteArray).data.toList 0 == s.toList) = true := by rw [ByteArray.toList_eq]; exact ht
            have Hr := Lib.hid hr
            clear hr hc ht
            go_wp2_with (first | ((with_reducible refine (rright_val _ _ he _ _ Hr.out _).mono ?_); rintro e w4 ⟨rfl, h0⟩; clear c0 c1 c2 r0 r1 r2 f0 f1 f2; have hT4 := hT.next h0; obtain ⟨c0, c1, c2, r0, r1, r2, f0, f1, f2⟩ := hT4.nine (j := 4) (a := .int .i64 5) (b := .string { data := #[] }) (c := .int .i64 0) (by decide) rfl rfl rfl) | ((with_reducible refine (rput_val3 _ _ he _ _ Hr.out _ rfl hz0 _).mono ?_); rintro e w5 ⟨rfl, h5⟩; clear c0 c1 c2 r0 r1 r2 f0 f1 f2; have hT5 := hT4.next h5; have hbx := hT5.b; obtain ⟨c0, c1, c2, r0, r1, r2, f0, f1, f2⟩ := hT5.nine (j := 4) (a := .int .i64 5) (b := .string { data := #[] }) (c := .int .i64 0) (by decide) rfl rfl rfl))
            ((try simp only [Exit.inBlock, Exit.then]); refine bodyPost_ret_by (v := (.tuple #[.agg #[.int .i64 5, .string .empty, .int .i64 0], .bool true])) ((results_cell_tmp rfl _ _ _).trans (by go_simp; try rfl)) rfl ⟨?_, ?_⟩)
            · exact argV_of hA.out
            · (repeat (first | with_reducible assumption | exact (Below.refl _ _).alloc (Nat.le_refl _) _ | exact Below.refl _ _ | (refine Below.drew ?_) | (refine Below.setCell ?_ ?_ _; rotate_left; first | exact Nat.le_refl _ | (dsimp only; omega)) | (refine Below.alloc ?_ ?_ _; rotate_left; first | exact Nat.le_refl _ | (simp; omega) | simp)))

theorem rget3_val (s : ByteArray) (hs : Hid (s.size ≤ 9223372036854775807)) (w : World) :
    Calls Try.prog 12 #[.string s] w fun e w' => e = .returned (argV (refA s.data.toList)) ∧ Below w.heap.size w w' := by
  by_cases h : 1 ≤ s.size
  · exact rget3_some s hs h w
  · exact rget3_empty s hs (by omega) w

end Go.Proofs.Ytafigegbjcbdoaa
