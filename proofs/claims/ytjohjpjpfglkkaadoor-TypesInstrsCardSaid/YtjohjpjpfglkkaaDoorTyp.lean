/- Types of arguments, fields; whether types fit. -/
import Derived.Test.YtjohjpjpfglkkaaDoorLook
namespace Go.Proofs.YtjohjpjpfglkkaaDoor
open Go.RowKit

abbrev intS : ByteArray := ⟨#[105, 110, 116]⟩
abbrev floatS : ByteArray := ⟨#[102, 108, 111, 97, 116]⟩
abbrev nullS : ByteArray := ⟨#[110, 117, 108, 108]⟩
def isRf (s : ByteArray) : Bool := decide (s ≠ intS) && decide (s ≠ floatS)
def fitsB (a b : ByteArray) : Bool := decide (a = b) || (decide (a = nullS) && isRf b)
def varOf (f : Fn) (x : ByteArray) : Option Vr := match findB Vr.n x f.ps with
  | some v => some v
  | none => findB Vr.n x f.vs
def tyOf (f : Fn) (a : Ag) : Option ByteArray :=
  if a.k = 1 then (varOf f a.s).map Vr.t else if a.k = 2 then some intS else if a.k = 3 then some floatS else if a.k = 4 then some nullS else none
def fieldOf (p : Pg) (c x : ByteArray) : Option Vr := match findB Cl.n c p.cs with
  | none => none
  | some c => findB Vr.n x c.fs
def OutS (r : Option ByteArray) (e : Ending) : Prop := match r with
  | some t => e = .returned (.tuple #[.string t, .bool true]) ∧ Sz t
  | none => e = .returned (.tuple #[.string ⟨#[]⟩, .bool false])

theorem lit_t {s : ByteArray} {l : List UInt8} (h : s = ⟨l.toArray⟩) : (s.toList == l) = true := by
  subst h
  rw [ByteArray.toList_eq]
  simp
theorem lit_f {s : ByteArray} {l : List UInt8} (h : s ≠ ⟨l.toArray⟩) : (s.toList == l) = false := by
  rw [beq_eq_false_iff_ne]
  intro e
  apply h
  rw [ByteArray.toList_eq] at e
  cases s
  simp only [ByteArray.mk.injEq]
  exact Array.toList_inj.1 e

set_option maxHeartbeats 1000000 in
theorem ref_val (s : ByteArray) (w : World) : Calls Tryd.prog 49 #[.string s] w fun e w' => e = .returned (.bool (isRf s)) ∧ w = w' := by
  unfold isRf
  by_cases h1 : s = intS
  · have e1 := lit_t (l := [105, 110, 116]) h1
    rw [decide_eq_false (by simpa using h1), Bool.false_and]
    clear h1
    go_enter Tryd.func49, Tryd.ntmps49
    go_wp2
    go_ret
    exact ⟨rfl, rfl⟩
  · have e1 := lit_f (l := [105, 110, 116]) h1
    rw [decide_eq_true (by simpa using h1), Bool.true_and]
    by_cases h2 : s = floatS
    · have e2 := lit_t (l := [102, 108, 111, 97, 116]) h2
      rw [decide_eq_false (by simpa using h2)]
      clear h1 h2
      go_enter Tryd.func49, Tryd.ntmps49
      go_wp2
      go_ret
      exact ⟨rfl, rfl⟩
    · have e2 := lit_f (l := [102, 108, 111, 97, 116]) h2
      rw [decide_eq_true (by simpa using h2)]
      clear h1 h2
      go_enter Tryd.func49, Tryd.ntmps49
      go_wp2
      go_ret
      exact ⟨rfl, rfl⟩
set_option maxHeartbeats 1000000 in
theorem rref_val (s : ByteArray) (w : World) : Calls Tryd.prog 23 #[.string s] w fun e w' => e = .returned (.bool (isRf s)) ∧ w = w' := by
  unfold isRf
  by_cases h1 : s = intS
  · have e1 := lit_t (l := [105, 110, 116]) h1
    rw [decide_eq_false (by simpa using h1), Bool.false_and]
    clear h1
    go_enter Tryd.func23, Tryd.ntmps23
    go_wp2
    go_ret
    exact ⟨rfl, rfl⟩
  · have e1 := lit_f (l := [105, 110, 116]) h1
    rw [decide_eq_true (by simpa using h1), Bool.true_and]
    by_cases h2 : s = floatS
    · have e2 := lit_t (l := [102, 108, 111, 97, 116]) h2
      rw [decide_eq_false (by simpa using h2)]
      clear h1 h2
      go_enter Tryd.func23, Tryd.ntmps23
      go_wp2
      go_ret
      exact ⟨rfl, rfl⟩
    · have e2 := lit_f (l := [102, 108, 111, 97, 116]) h2
      rw [decide_eq_true (by simpa using h2)]
      clear h1 h2
      go_enter Tryd.func23, Tryd.ntmps23
      go_wp2
      go_ret
      exact ⟨rfl, rfl⟩
set_option maxHeartbeats 1000000 in
theorem fits_val (s t : ByteArray) (w : World) : Calls Tryd.prog 36 #[.string s, .string t] w fun e w' => e = .returned (.bool (fitsB s t)) ∧ w = w' := by
  unfold fitsB
  have hR := ref_val t w
  by_cases h1 : s = t
  · have e1 := seq_t h1
    rw [decide_eq_true h1, Bool.true_or]
    clear h1 hR
    go_enter Tryd.func36, Tryd.ntmps36
    go_wp2_with fail
    go_ret
    exact ⟨rfl, rfl⟩
  · have e1 := seq_f h1
    rw [decide_eq_false h1, Bool.false_or]
    clear h1
    by_cases h2 : s = nullS
    · have e2 := lit_t (l := [110, 117, 108, 108]) h2
      rw [decide_eq_true h2, Bool.true_and]
      clear h2
      generalize isRf t = b at *
      go_enter Tryd.func36, Tryd.ntmps36
      go_wp2_with fail
      refine hR.mono ?_
      rintro e w1 ⟨rfl, rfl⟩
      go_wp2_with fail
      go_ret
      exact ⟨rfl, rfl⟩
    · have e2 := lit_f (l := [110, 117, 108, 108]) h2
      rw [decide_eq_false h2, Bool.false_and]
      clear h2 hR
      go_enter Tryd.func36, Tryd.ntmps36
      go_wp2_with fail
      go_ret
      exact ⟨rfl, rfl⟩
set_option maxHeartbeats 1000000 in
theorem rfits_val (s t : ByteArray) (w : World) : Calls Tryd.prog 19 #[.string s, .string t] w fun e w' => e = .returned (.bool (fitsB s t)) ∧ w = w' := by
  unfold fitsB
  have hR := rref_val t w
  by_cases h1 : s = t
  · have e1 := seq_t h1
    rw [decide_eq_true h1, Bool.true_or]
    clear h1 hR
    go_enter Tryd.func19, Tryd.ntmps19
    go_wp2_with fail
    go_ret
    exact ⟨rfl, rfl⟩
  · have e1 := seq_f h1
    rw [decide_eq_false h1, Bool.false_or]
    clear h1
    by_cases h2 : s = nullS
    · have e2 := lit_t (l := [110, 117, 108, 108]) h2
      rw [decide_eq_true h2, Bool.true_and]
      clear h2
      generalize isRf t = b at *
      go_enter Tryd.func19, Tryd.ntmps19
      go_wp2_with fail
      refine hR.mono ?_
      rintro e w1 ⟨rfl, rfl⟩
      go_wp2_with fail
      go_ret
      exact ⟨rfl, rfl⟩
    · have e2 := lit_f (l := [110, 117, 108, 108]) h2
      rw [decide_eq_false h2, Bool.false_and]
      clear h2 hR
      go_enter Tryd.func19, Tryd.ntmps19
      go_wp2_with fail
      go_ret
      exact ⟨rfl, rfl⟩
set_option maxHeartbeats 2000000 in
theorem in_val {w0 w : World} (h0 : Below w0.heap.size w0 w) {l : List Vr} {v : Value} (hl : Row AtV 2 w0 v l) (x : ByteArray) :
    Calls Tryd.prog 50 #[v, .string x] w fun e w' => Below w.heap.size w w' ∧ OutV w0 (findB Vr.n x l) e := by
  obtain ⟨p, cu, rfl, -, hn, hl⟩ := hl
  generalize hf : findB Vr.n x l = r0
  go_enter Tryd.func50, Tryd.ntmps50
  go_wp2
  go_loopw [6] (fun i wr => ∃ q : Nat, q ≤ l.length ∧ i = .int .i64 (q : Int) ∧ Below w.heap.size w wr ∧ Box wr w.heap.size [.string ⟨#[]⟩, .string ⟨#[]⟩] ∧ findB Vr.n x (l.drop q) = r0) (fun i _ => l.length - (intOf i).toNat)
  case atStart => exact ⟨0, Nat.zero_le _, rfl, (Below.refl _ _).alloc (Nat.le_refl _) _, Box.alloc w [.string ⟨#[]⟩, .string ⟨#[]⟩] _, hf⟩
  case round =>
    obtain ⟨q, hq, rfl, hb, hB, hf⟩ := hrel
    have d0 := hB.c 0 _ rfl
    have d1 := hB.c 1 _ rfl
    have g0 := hB.f 0 (by simp)
    have g1 := hB.f 1 (by simp)
    by_cases hend : q = l.length
    · subst hend
      rw [List.drop_length] at hf
      subst hf
      have hb6 := (hb.setCell (p := ⟨w.heap.size, 0, none⟩) (Nat.le_refl _) (.string ⟨#[]⟩)).setCell (p := ⟨w.heap.size, 1, none⟩) (Nat.le_refl _) (.string ⟨#[]⟩)
      clear hl hB hb
      go_wp2
      ((try simp only [Exit.inBlock, Exit.then]); refine bodyPost_ret_by (v := (.tuple #[.agg #[.string ⟨#[]⟩, .string ⟨#[]⟩], .bool false])) ((results_cell_tmp rfl _ _ _).trans (by go_simp; try rfl)) rfl ?_)
      exact ⟨hb6, rfl⟩
    · have hlt : q < l.length := by omega
      have hltI : (q : Int) < (l.length : Int) := by omega
      rw [List.drop_eq_getElem_cons hlt, findB] at hf
      obtain ⟨a, rfl, hA⟩ := hl q l[q] (by simp [hlt])
      clear hl
      generalize l[q] = y at *
      obtain ⟨⟨c0, z0⟩, c1, z1⟩ := hA
      have c0 := keepc (bthen' h0 hb) c0
      have c1 := keepc (bthen' h0 hb) c1
      by_cases hy : y.n = x
      · have he := seq_t hy
        rw [if_pos hy] at hf
        subst hf
        have hb6 := (hb.setCell (p := ⟨w.heap.size, 0, none⟩) (Nat.le_refl _) (.string y.n)).setCell (p := ⟨w.heap.size, 1, none⟩) (Nat.le_refl _) (.string y.t)
        clear hy hB hb hend hq hlt
        go_wp2
        ((try simp only [Exit.inBlock, Exit.then]); refine bodyPost_ret_by (v := (.tuple #[.agg #[.string y.n, .string y.t], .bool true])) ((results_cell_tmp rfl _ _ _).trans (by go_simp; try rfl)) rfl ?_)
        exact ⟨hb6, rfl, z0, z1⟩
      · have he := seq_f hy
        rw [if_neg hy] at hf
        go_wp2
        go_roundw
        case rel => exact ⟨q + 1, by omega, by go_num, hb, hB, hf⟩
        case measure => simp [intOf]; omega
end Go.Proofs.YtjohjpjpfglkkaaDoor
