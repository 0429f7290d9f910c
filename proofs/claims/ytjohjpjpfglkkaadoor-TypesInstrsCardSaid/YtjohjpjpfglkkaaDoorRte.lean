/- What is asked of an instruction's types: right, where one call answers. -/
import Derived.Test.YtjohjpjpfglkkaaDoorRtd
namespace Go.Proofs.YtjohjpjpfglkkaaDoor
open Go.RowKit

def typB (d : ByteArray) (r : Option Vr) : Bool := match r with
  | none => false
  | some v => decide (v.t = d)
def putB (s : ByteArray) (r : Option Vr) : Bool := match r with
  | none => false
  | some v => fitsB s v.t
def callB (p : Pg) (x : Is) (d : ByteArray) (l : List ByteArray) : Bool := match findB Fn.n x.n p.fs with
  | none => false
  | some g => fitB l g.ps && decide (d = g.r)
def extB (p : Pg) (x : Is) (d : ByteArray) (l : List ByteArray) : Bool := match findB Ex.n x.n p.xs with
  | none => false
  | some g => decide ((l.length : Int) = g.k) && allB l intS d intS
def rightB (p : Pg) (x : Is) (d : ByteArray) (l : List ByteArray) (a : Ag) (s s2 : ByteArray) : Bool :=
  if x.op ≤ 14 then allB l intS d intS else if x.op ≤ 18 then allB l floatS d floatS else if x.op ≤ 21 then allB l floatS d intS
  else if x.op = 22 then allB l intS d floatS else if x.op = 23 then allB l floatS d intS else if x.op = 24 then fitsB s d
  else if x.op = 25 then madeB p x d l else if x.op = 26 then typB d (fieldQ p x a s) else if x.op = 27 then putB s2 (fieldQ p x a s)
  else if x.op = 28 then decide (d = intS) && sameB s s2 else if x.op = 29 ∨ x.op = 30 then globB p x d s
  else if x.op = 31 then callB p x d l else if x.op = 32 then extB p x d l else if x.op = 33 then !isRf s else true


set_option maxHeartbeats 8000000 in
set_option maxRecDepth 100000 in
theorem right_a {w0 wa w : World} (_ : Below w0.heap.size w0 w) (ha : Below wa.heap.size wa w) {v : Value} {p : Pg} {x : Is} {d : ByteArray} {l : List ByteArray} {u1 u2 u3 u4 v1 v2 v3 t : Value} (hq : ValQ w0 wa v p x d l u1 u2 u3 u4 v1 v2 v3 t) (hop : x.op ≤ 14) :
    Calls Tryd.prog 15 #[v] w fun e w' => e = .returned (.bool (allB l intS d intS)) ∧ Below w.heap.size w w' := by
  have hqv := hq
  obtain ⟨rfl, -, -, -, -⟩ := hq
  have hb1 := (Below.refl w.heap.size w).alloc (Nat.le_refl _) (.cells #[.bool p.ssa, u1, u2, u3, u4, .int .i64 x.op, .string x.d, .string x.n, v1, v2, v3, .string d, t] 52)
  have hF := all_val (bthen' ha hb1) hqv intS intS
  generalize allB l intS d intS = R at *
  have g14 : decide (x.op ≤ 14) = true := decide_eq_true (by omega)
  clear hqv hop
  go_enter Tryd.func15, Tryd.ntmps15
  go_wp2_with fail
  refine hF.mono ?_
  rintro e w1 ⟨rfl, hb2⟩
  have hb := bthen' hb1 hb2
  clear hF
  go_wp2_with fail
  go_ret
  exact ⟨rfl, hb⟩

set_option maxHeartbeats 8000000 in
set_option maxRecDepth 100000 in
theorem right_b {w0 wa w : World} (_ : Below w0.heap.size w0 w) (ha : Below wa.heap.size wa w) {v : Value} {p : Pg} {x : Is} {d : ByteArray} {l : List ByteArray} {u1 u2 u3 u4 v1 v2 v3 t : Value} (hq : ValQ w0 wa v p x d l u1 u2 u3 u4 v1 v2 v3 t) (hop : 14 < x.op ∧ x.op ≤ 18) :
    Calls Tryd.prog 15 #[v] w fun e w' => e = .returned (.bool (allB l floatS d floatS)) ∧ Below w.heap.size w w' := by
  have hqv := hq
  obtain ⟨rfl, -, -, -, -⟩ := hq
  have hb1 := (Below.refl w.heap.size w).alloc (Nat.le_refl _) (.cells #[.bool p.ssa, u1, u2, u3, u4, .int .i64 x.op, .string x.d, .string x.n, v1, v2, v3, .string d, t] 52)
  have hF := all_val (bthen' ha hb1) hqv floatS floatS
  generalize allB l floatS d floatS = R at *
  have g14 : decide (x.op ≤ 14) = false := decide_eq_false (by omega)
  have g18 : decide (x.op ≤ 18) = true := decide_eq_true (by omega)
  clear hqv hop
  go_enter Tryd.func15, Tryd.ntmps15
  go_wp2_with fail
  refine hF.mono ?_
  rintro e w1 ⟨rfl, hb2⟩
  have hb := bthen' hb1 hb2
  clear hF
  go_wp2_with fail
  go_ret
  exact ⟨rfl, hb⟩

set_option maxHeartbeats 8000000 in
set_option maxRecDepth 100000 in
theorem right_c {w0 wa w : World} (_ : Below w0.heap.size w0 w) (ha : Below wa.heap.size wa w) {v : Value} {p : Pg} {x : Is} {d : ByteArray} {l : List ByteArray} {u1 u2 u3 u4 v1 v2 v3 t : Value} (hq : ValQ w0 wa v p x d l u1 u2 u3 u4 v1 v2 v3 t) (hop : 18 < x.op ∧ x.op ≤ 21) :
    Calls Tryd.prog 15 #[v] w fun e w' => e = .returned (.bool (allB l floatS d intS)) ∧ Below w.heap.size w w' := by
  have hqv := hq
  obtain ⟨rfl, -, -, -, -⟩ := hq
  have hb1 := (Below.refl w.heap.size w).alloc (Nat.le_refl _) (.cells #[.bool p.ssa, u1, u2, u3, u4, .int .i64 x.op, .string x.d, .string x.n, v1, v2, v3, .string d, t] 52)
  have hF := all_val (bthen' ha hb1) hqv floatS intS
  generalize allB l floatS d intS = R at *
  have g14 : decide (x.op ≤ 14) = false := decide_eq_false (by omega)
  have g18 : decide (x.op ≤ 18) = false := decide_eq_false (by omega)
  have g21 : decide (x.op ≤ 21) = true := decide_eq_true (by omega)
  clear hqv hop
  go_enter Tryd.func15, Tryd.ntmps15
  go_wp2_with fail
  refine hF.mono ?_
  rintro e w1 ⟨rfl, hb2⟩
  have hb := bthen' hb1 hb2
  clear hF
  go_wp2_with fail
  go_ret
  exact ⟨rfl, hb⟩

set_option maxHeartbeats 8000000 in
set_option maxRecDepth 100000 in
theorem right_22 {w0 wa w : World} (_ : Below w0.heap.size w0 w) (ha : Below wa.heap.size wa w) {v : Value} {p : Pg} {x : Is} {d : ByteArray} {l : List ByteArray} {u1 u2 u3 u4 v1 v2 v3 t : Value} (hq : ValQ w0 wa v p x d l u1 u2 u3 u4 v1 v2 v3 t) (hop : x.op = 22) :
    Calls Tryd.prog 15 #[v] w fun e w' => e = .returned (.bool (allB l intS d floatS)) ∧ Below w.heap.size w w' := by
  have hqv := hq
  obtain ⟨rfl, -, -, -, -⟩ := hq
  have hb1 := (Below.refl w.heap.size w).alloc (Nat.le_refl _) (.cells #[.bool p.ssa, u1, u2, u3, u4, .int .i64 x.op, .string x.d, .string x.n, v1, v2, v3, .string d, t] 52)
  have hF := all_val (bthen' ha hb1) hqv intS floatS
  generalize allB l intS d floatS = R at *
  have g14 : decide (x.op ≤ 14) = false := decide_eq_false (by omega)
  have g18 : decide (x.op ≤ 18) = false := decide_eq_false (by omega)
  have g21 : decide (x.op ≤ 21) = false := decide_eq_false (by omega)
  have e22 : (x.op == 22) = true := by simp only [beq_iff_eq]; exact hop
  clear hqv hop
  go_enter Tryd.func15, Tryd.ntmps15
  go_wp2_with fail
  refine hF.mono ?_
  rintro e w1 ⟨rfl, hb2⟩
  have hb := bthen' hb1 hb2
  clear hF
  go_wp2_with fail
  go_ret
  exact ⟨rfl, hb⟩

set_option maxHeartbeats 8000000 in
set_option maxRecDepth 100000 in
theorem right_23 {w0 wa w : World} (_ : Below w0.heap.size w0 w) (ha : Below wa.heap.size wa w) {v : Value} {p : Pg} {x : Is} {d : ByteArray} {l : List ByteArray} {u1 u2 u3 u4 v1 v2 v3 t : Value} (hq : ValQ w0 wa v p x d l u1 u2 u3 u4 v1 v2 v3 t) (hop : x.op = 23) :
    Calls Tryd.prog 15 #[v] w fun e w' => e = .returned (.bool (allB l floatS d intS)) ∧ Below w.heap.size w w' := by
  have hqv := hq
  obtain ⟨rfl, -, -, -, -⟩ := hq
  have hb1 := (Below.refl w.heap.size w).alloc (Nat.le_refl _) (.cells #[.bool p.ssa, u1, u2, u3, u4, .int .i64 x.op, .string x.d, .string x.n, v1, v2, v3, .string d, t] 52)
  have hF := all_val (bthen' ha hb1) hqv floatS intS
  generalize allB l floatS d intS = R at *
  have g14 : decide (x.op ≤ 14) = false := decide_eq_false (by omega)
  have g18 : decide (x.op ≤ 18) = false := decide_eq_false (by omega)
  have g21 : decide (x.op ≤ 21) = false := decide_eq_false (by omega)
  have e22 : (x.op == 22) = false := by simp only [beq_eq_false_iff_ne]; omega
  have e23 : (x.op == 23) = true := by simp only [beq_iff_eq]; exact hop
  clear hqv hop
  go_enter Tryd.func15, Tryd.ntmps15
  go_wp2_with fail
  refine hF.mono ?_
  rintro e w1 ⟨rfl, hb2⟩
  have hb := bthen' hb1 hb2
  clear hF
  go_wp2_with fail
  go_ret
  exact ⟨rfl, hb⟩

set_option maxHeartbeats 8000000 in
set_option maxRecDepth 100000 in
theorem right_25 {w0 wa w : World} (h0 : Below w0.heap.size w0 w) (ha : Below wa.heap.size wa w) {v : Value} {p : Pg} {x : Is} {d : ByteArray} {l : List ByteArray} {u1 u2 u3 u4 v1 v2 v3 t : Value} (hq : ValQ w0 wa v p x d l u1 u2 u3 u4 v1 v2 v3 t) (hop : x.op = 25) :
    Calls Tryd.prog 15 #[v] w fun e w' => e = .returned (.bool (madeB p x d l)) ∧ Below w.heap.size w w' := by
  have hqv := hq
  obtain ⟨rfl, -, -, -, -⟩ := hq
  have hb1 := (Below.refl w.heap.size w).alloc (Nat.le_refl _) (.cells #[.bool p.ssa, u1, u2, u3, u4, .int .i64 x.op, .string x.d, .string x.n, v1, v2, v3, .string d, t] 52)
  have hF := made_val (bthen' h0 hb1) (bthen' ha hb1) hqv
  generalize madeB p x d l = R at *
  have g14 : decide (x.op ≤ 14) = false := decide_eq_false (by omega)
  have g18 : decide (x.op ≤ 18) = false := decide_eq_false (by omega)
  have g21 : decide (x.op ≤ 21) = false := decide_eq_false (by omega)
  have e22 : (x.op == 22) = false := by simp only [beq_eq_false_iff_ne]; omega
  have e23 : (x.op == 23) = false := by simp only [beq_eq_false_iff_ne]; omega
  have e24 : (x.op == 24) = false := by simp only [beq_eq_false_iff_ne]; omega
  have e25 : (x.op == 25) = true := by simp only [beq_iff_eq]; exact hop
  clear hqv hop
  go_enter Tryd.func15, Tryd.ntmps15
  go_wp2_with fail
  refine hF.mono ?_
  rintro e w1 ⟨rfl, hb2⟩
  have hb := bthen' hb1 hb2
  clear hF
  go_wp2_with fail
  go_ret
  exact ⟨rfl, hb⟩

set_option maxHeartbeats 8000000 in
set_option maxRecDepth 100000 in
theorem right_29 {w0 wa w : World} (h0 : Below w0.heap.size w0 w) (ha : Below wa.heap.size wa w) {v : Value} {p : Pg} {x : Is} {d : ByteArray} {l : List ByteArray} {u1 u2 u3 u4 v1 v2 v3 t : Value} (hq : ValQ w0 wa v p x d l u1 u2 u3 u4 v1 v2 v3 t) (hop : x.op = 29) {s : ByteArray} :
    Calls Tryd.prog 15 #[v] w fun e w' => e = .returned (.bool (globB p x d s)) ∧ Below w.heap.size w w' := by
  have hqv := hq
  obtain ⟨rfl, -, -, -, -⟩ := hq
  have hb1 := (Below.refl w.heap.size w).alloc (Nat.le_refl _) (.cells #[.bool p.ssa, u1, u2, u3, u4, .int .i64 x.op, .string x.d, .string x.n, v1, v2, v3, .string d, t] 52)
  have hF := global_val (bthen' h0 hb1) (bthen' ha hb1) hqv (s := s) (fun hn => absurd hop hn)
  generalize globB p x d s = R at *
  have g14 : decide (x.op ≤ 14) = false := decide_eq_false (by omega)
  have g18 : decide (x.op ≤ 18) = false := decide_eq_false (by omega)
  have g21 : decide (x.op ≤ 21) = false := decide_eq_false (by omega)
  have e22 : (x.op == 22) = false := by simp only [beq_eq_false_iff_ne]; omega
  have e23 : (x.op == 23) = false := by simp only [beq_eq_false_iff_ne]; omega
  have e24 : (x.op == 24) = false := by simp only [beq_eq_false_iff_ne]; omega
  have e25 : (x.op == 25) = false := by simp only [beq_eq_false_iff_ne]; omega
  have e26 : (x.op == 26) = false := by simp only [beq_eq_false_iff_ne]; omega
  have e27 : (x.op == 27) = false := by simp only [beq_eq_false_iff_ne]; omega
  have e28 : (x.op == 28) = false := by simp only [beq_eq_false_iff_ne]; omega
  have e29 : (x.op == 29) = true := by simp only [beq_iff_eq]; exact hop
  clear hqv hop
  go_enter Tryd.func15, Tryd.ntmps15
  go_wp2_with fail
  refine hF.mono ?_
  rintro e w1 ⟨rfl, hb2⟩
  have hb := bthen' hb1 hb2
  clear hF
  go_wp2_with fail
  go_ret
  exact ⟨rfl, hb⟩

set_option maxHeartbeats 8000000 in
set_option maxRecDepth 100000 in
theorem right_30 {w0 wa w : World} (h0 : Below w0.heap.size w0 w) (ha : Below wa.heap.size wa w) {v : Value} {p : Pg} {x : Is} {d : ByteArray} {l : List ByteArray} {u1 u2 u3 u4 v1 v2 v3 t : Value} (hq : ValQ w0 wa v p x d l u1 u2 u3 u4 v1 v2 v3 t) (hop : x.op = 30) {s : ByteArray} (hls : l[0]? = some s) :
    Calls Tryd.prog 15 #[v] w fun e w' => e = .returned (.bool (globB p x d s)) ∧ Below w.heap.size w w' := by
  have hqv := hq
  obtain ⟨rfl, -, -, -, -⟩ := hq
  have hb1 := (Below.refl w.heap.size w).alloc (Nat.le_refl _) (.cells #[.bool p.ssa, u1, u2, u3, u4, .int .i64 x.op, .string x.d, .string x.n, v1, v2, v3, .string d, t] 52)
  have hF := global_val (bthen' h0 hb1) (bthen' ha hb1) hqv (s := s) (fun _ => hls)
  generalize globB p x d s = R at *
  have g14 : decide (x.op ≤ 14) = false := decide_eq_false (by omega)
  have g18 : decide (x.op ≤ 18) = false := decide_eq_false (by omega)
  have g21 : decide (x.op ≤ 21) = false := decide_eq_false (by omega)
  have e22 : (x.op == 22) = false := by simp only [beq_eq_false_iff_ne]; omega
  have e23 : (x.op == 23) = false := by simp only [beq_eq_false_iff_ne]; omega
  have e24 : (x.op == 24) = false := by simp only [beq_eq_false_iff_ne]; omega
  have e25 : (x.op == 25) = false := by simp only [beq_eq_false_iff_ne]; omega
  have e26 : (x.op == 26) = false := by simp only [beq_eq_false_iff_ne]; omega
  have e27 : (x.op == 27) = false := by simp only [beq_eq_false_iff_ne]; omega
  have e28 : (x.op == 28) = false := by simp only [beq_eq_false_iff_ne]; omega
  have e29 : (x.op == 29) = false := by simp only [beq_eq_false_iff_ne]; omega
  have e30 : (x.op == 30) = true := by simp only [beq_iff_eq]; exact hop
  clear hqv hop
  go_enter Tryd.func15, Tryd.ntmps15
  go_wp2_with fail
  refine hF.mono ?_
  rintro e w1 ⟨rfl, hb2⟩
  have hb := bthen' hb1 hb2
  clear hF
  go_wp2_with fail
  go_ret
  exact ⟨rfl, hb⟩
end Go.Proofs.YtjohjpjpfglkkaaDoor
