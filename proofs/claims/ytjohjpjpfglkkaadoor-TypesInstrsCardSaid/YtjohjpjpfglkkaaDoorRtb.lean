/- What is asked of an instruction's types: made, field, global. -/
import Derived.Test.YtjohjpjpfglkkaaDoorRta
import Derived.Test.YtjohjpjpfglkkaaDoorFld
namespace Go.Proofs.YtjohjpjpfglkkaaDoor
open Go.RowKit

def madeB (p : Pg) (x : Is) (d : ByteArray) (l : List ByteArray) : Bool := match findB Cl.n x.n p.cs with
  | none => false
  | some c => decide (d = c.n) && (decide (l.length = 0) || fitB l c.fs)
def fieldQ (p : Pg) (x : Is) (a : Ag) (s : ByteArray) : Option Vr := if a.k = 1 then fieldOf p s x.n else none
def globB (p : Pg) (x : Is) (d s : ByteArray) : Bool := match findB Vr.n x.n p.gs with
  | none => false
  | some g => if x.op = 29 then decide (g.t = d) else fitsB s g.t
abbrev qBox (p : Pg) (x : Is) (d : ByteArray) (u1 u2 u3 u4 v1 v2 v3 t : Value) : List Value := [.bool p.ssa, u1, u2, u3, u4, .int .i64 x.op, .string x.d, .string x.n, v1, v2, v3, .string d, t]

set_option maxHeartbeats 4000000 in
theorem made_val {w0 wa w : World} (h0 : Below w0.heap.size w0 w) (ha : Below wa.heap.size wa w) {v : Value} {p : Pg} {x : Is} {d : ByteArray} {l : List ByteArray} {u1 u2 u3 u4 v1 v2 v3 t : Value} (hq : ValQ w0 wa v p x d l u1 u2 u3 u4 v1 v2 v3 t) :
    Calls Tryd.prog 42 #[v] w fun e w' => e = .returned (.bool (madeB p x d l)) ∧ Below w.heap.size w w' := by
  obtain ⟨rfl, hp, -, -, hl⟩ := hq
  have hlv := hl
  obtain ⟨q1, m1, rfl⟩ := hl.slice
  have hb1 := (Below.refl w.heap.size w).alloc (Nat.le_refl _) (.cells #[.bool p.ssa, u1, u2, u3, u4, .int .i64 x.op, .string x.d, .string x.n, v1, v2, v3, .string d, .slice q1 l.length m1] 52)
  have hB := Box.alloc w [.bool p.ssa, u1, u2, u3, u4, .int .i64 x.op, .string x.d, .string x.n, v1, v2, v3, .string d, .slice q1 l.length m1] 52
  have hC := lookC_val (bthen' h0 hb1) hp x.n
  obtain ⟨R, hR⟩ : ∃ R : Bool, R = madeB p x d l := ⟨_, rfl⟩
  rw [← hR]
  unfold madeB at hR
  clear hl hp
  generalize l.length = n at *
  go_enter Tryd.func42, Tryd.ntmps42
  go_wp2_with fail
  refine hC.mono ?_
  rintro e w1 ⟨hb2, ho⟩
  have hb := bthen' hb1 hb2
  have hB := hB.nx hb2
  clear hC hb1 hb2
  cases hr : findB Cl.n x.n p.cs with
  | none =>
    rw [hr] at ho hR
    obtain rfl : e = _ := ho
    have hR2 : Hid (R = false) := Lib.hid hR
    have hb3 := hb.alloc hb.size (.cells #[.string ⟨#[]⟩, .slice none 0 0] 67)
    clear hr hR hB hb
    go_wp2_with fail
    go_ret
    exact ⟨by rw [hR2.out]; rfl, hb3⟩
  | some k =>
    rw [hr] at ho hR
    obtain ⟨v5, uf, rfl, rfl, hz, hkf⟩ := ho
    obtain ⟨pf, kf, rfl⟩ := hkf.slice
    replace hR : R = (decide (d = k.n) && (decide (n = 0) || fitB l k.fs)) := hR
    have hb3 := hb.alloc hb.size (.cells #[.string k.n, .slice pf k.fs.length kf] 67)
    have hl1 := hB.lt
    have hB2 := hB.al (.cells #[.string k.n, .slice pf k.fs.length kf] 67)
    have e11 := hB2.c 11 _ rfl
    have e12 := hB2.c 12 _ rfl
    clear hr hB hb hB2
    by_cases e1 : d = k.n
    · have g := seq_t e1
      rw [decide_eq_true e1, Bool.true_and] at hR
      by_cases e2 : n = 0
      · have g2 : Hid (n = 0) := Lib.hid e2
        subst e2
        have hR2 : Hid (R = true) := Lib.hid hR
        clear hR e1 g2 hkf hlv
        go_wp2_with fail
        go_ret
        exact ⟨by rw [hR2.out]; rfl, hb3⟩
      · have g2 : ((n : Int) == 0) = false := by simp; omega
        rw [decide_eq_false e2, Bool.false_or] at hR
        have hF := fit_val (bthen' ha hb3) (bthen' h0 hb3) hlv hkf
        rw [← hR] at hF
        clear hR e1 hkf hlv
        go_wp2_with fail
        refine hF.mono ?_
        rintro e w2 ⟨rfl, hb4⟩
        have hb5 := bthen' hb3 hb4
        clear hF hb4 hb3
        go_wp2_with fail
        go_ret
        exact ⟨rfl, hb5⟩
    · have g := seq_f e1
      have hR2 : Hid (R = false) := Lib.hid (by rw [hR, decide_eq_false e1]; rfl)
      clear hR e1 hkf hlv
      go_wp2_with fail
      go_ret
      exact ⟨by rw [hR2.out]; rfl, hb3⟩
end Go.Proofs.YtjohjpjpfglkkaaDoor
