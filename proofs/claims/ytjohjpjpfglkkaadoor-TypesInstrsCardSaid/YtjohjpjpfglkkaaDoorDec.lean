/- Whether types are declared; whether heads are right (the program's). -/
import Derived.Test.YtjohjpjpfglkkaaDoorUnl
import Derived.Test.YtjohjpjpfglkkaaDoorFld
namespace Go.Proofs.YtjohjpjpfglkkaaDoor
open Go.RowKit

def knownB (p : Pg) (t : ByteArray) : Bool := decide (t = intS) || (decide (t = floatS) || (findB Cl.n t p.cs).isSome)
def declB (p : Pg) (l : List Vr) : Bool := l.all (fun v => knownB p v.t) && unl [] (l.map Vr.n)
def headsB (p : Pg) : Bool := unl [] (p.cs.map Cl.n) && (unl [] (p.xs.map Ex.n) && (unl [] (p.fs.map Fn.n) && (declB p p.gs && (p.cs.all (fun c => declB p c.fs) && p.fs.all (fun f => knownB p f.r && declB p (f.ps ++ f.vs))))))

set_option maxHeartbeats 4000000 in
theorem known_val {w0 w : World} (h0 : Below w0.heap.size w0 w) {p : Pg} {v u1 u2 u3 u4 : Value} (hp : ValP w0 v p u1 u2 u3 u4) (t : ByteArray) :
    Calls Tryd.prog 34 #[v, .string t] w fun e w' => e = .returned (.bool (knownB p t)) ∧ Below w.heap.size w w' := by
  have hpv := hp
  obtain ⟨rfl, hc, hg, hx, hf⟩ := hp
  obtain ⟨p1, k1, rfl⟩ := hc.slice
  obtain ⟨p2, k2, rfl⟩ := hg.slice
  obtain ⟨p3, k3, rfl⟩ := hx.slice
  obtain ⟨p4, k4, rfl⟩ := hf.slice
  clear hc hg hx hf
  have hb1 := (Below.refl w.heap.size w).alloc (Nat.le_refl _) (.cells #[.bool p.ssa, .slice p1 p.cs.length k1, .slice p2 p.gs.length k2, .slice p3 p.xs.length k3, .slice p4 p.fs.length k4] 27)
  have hC := lookC_val (bthen' h0 hb1) hpv t
  obtain ⟨R, hR⟩ : ∃ R, R = knownB p t := ⟨_, rfl⟩
  rw [← hR]
  unfold knownB at hR
  generalize findB Cl.n t p.cs = r at *
  clear hpv
  go_enter Tryd.func34, Tryd.ntmps34
  go_wp2_with fail
  refine hC.mono ?_
  rintro e w1 ⟨hb3, ho⟩
  have hb13 := bthen' hb1 hb3
  obtain ⟨s, q, n, k, ok, rfl, hok⟩ : ∃ (s : ByteArray) (q : Option Addr) (n k : Nat) (ok : Bool), e = .returned (.tuple #[.agg #[.string s, .slice q n k], .bool ok]) ∧ ok = r.isSome := by
    cases r with
    | none => exact ⟨_, _, _, _, _, ho, rfl⟩
    | some c =>
      obtain ⟨v1, u1, rfl, rfl, -, hr⟩ := ho
      obtain ⟨pf, kf, rfl⟩ := hr.slice
      exact ⟨_, _, _, _, _, rfl, rfl⟩
  have hb6 := hb13.alloc hb13.size (.cells #[.string s, .slice q n k] 67)
  rw [← hok] at hR
  clear ho hC hb1 hb3 hb13 hok
  by_cases h1 : t = intS
  · have e1 := lit_t (l := [105, 110, 116]) h1
    obtain rfl : R = true := by rw [hR, decide_eq_true h1]; rfl
    clear h1 hR
    go_wp2
    go_ret
    exact ⟨rfl, hb6⟩
  · have e1 := lit_f (l := [105, 110, 116]) h1
    rw [decide_eq_false h1, Bool.false_or] at hR
    by_cases h2 : t = floatS
    · have e2 := lit_t (l := [102, 108, 111, 97, 116]) h2
      obtain rfl : R = true := by rw [hR, decide_eq_true h2]; rfl
      clear h1 h2 hR
      go_wp2
      go_ret
      exact ⟨rfl, hb6⟩
    · have e2 := lit_f (l := [102, 108, 111, 97, 116]) h2
      rw [decide_eq_false h2, Bool.false_or] at hR
      subst hR
      clear h1 h2
      cases R
      · go_wp2
        go_ret
        exact ⟨rfl, hb6⟩
      · go_wp2
        go_ret
        exact ⟨rfl, hb6⟩

abbrev pBox (p : Pg) (a1 a2 a3 a4 : Option Addr) (k1 k2 k3 k4 : Nat) : List Value := [.bool p.ssa, .slice a1 p.cs.length k1, .slice a2 p.gs.length k2, .slice a3 p.xs.length k3, .slice a4 p.fs.length k4]
set_option maxHeartbeats 4000000 in
set_option maxRecDepth 100000 in
theorem decl_val {w0 w : World} (h0 : Below w0.heap.size w0 w) {p : Pg} {v u1 u2 u3 u4 : Value} (hp : ValP w0 v p u1 u2 u3 u4) {l : List Vr} {u : Value} {w9 : World} (h9 : Below w9.heap.size w9 w) (hl : Row AtV 2 w9 u l) :
    Calls Tryd.prog 33 #[v, u] w fun e w' => e = .returned (.bool (declB p l)) ∧ Below w.heap.size w w' := by
  have hpv := hp
  obtain ⟨rfl, hc, hg, hx, hf⟩ := hp
  obtain ⟨p1, k1, rfl⟩ := hc.slice
  obtain ⟨p2, k2, rfl⟩ := hg.slice
  obtain ⟨p3, k3, rfl⟩ := hx.slice
  obtain ⟨p4, k4, rfl⟩ := hf.slice
  clear hc hg hx hf
  have hlr := hl
  obtain ⟨pl, kl, rfl, -, hn, hl⟩ := hl
  have hb1 := (Below.refl w.heap.size w).alloc (Nat.le_refl _) (.cells #[.bool p.ssa, .slice p1 p.cs.length k1, .slice p2 p.gs.length k2, .slice p3 p.xs.length k3, .slice p4 p.fs.length k4] 27)
  have hP := Box.alloc w [.bool p.ssa, .slice p1 p.cs.length k1, .slice p2 p.gs.length k2, .slice p3 p.xs.length k3, .slice p4 p.fs.length k4] 27
  obtain ⟨U, hU⟩ : ∃ U, U = unl [] (l.map Vr.n) := ⟨_, rfl⟩
  have hUv := fun w' (h : Below w9.heap.size w9 w') => unlV_val h hlr
  rw [← hU] at hUv
  obtain ⟨R, hR⟩ : ∃ R, R = declB p l := ⟨_, rfl⟩
  rw [← hR]
  unfold declB at hR
  rw [← hU] at hR
  clear hU hlr
  go_enter Tryd.func33, Tryd.ntmps33
  go_wp2
  go_loopw [9] (fun i wr => ∃ q : Nat, q ≤ l.length ∧ i = .int .i64 (q : Int) ∧ Below w.heap.size w wr ∧ Box wr w.heap.size [.bool p.ssa, .slice p1 p.cs.length k1, .slice p2 p.gs.length k2, .slice p3 p.xs.length k3, .slice p4 p.fs.length k4] ∧ Hid (R = ((l.drop q).all (fun v => knownB p v.t) && U))) (fun i _ => l.length - (intOf i).toNat)
  case atStart => exact ⟨0, Nat.zero_le _, rfl, hb1, hP, Lib.hid hR⟩
  case round =>
    clear hb1 hP hR
    obtain ⟨q, hq, rfl, hb, hP, hR⟩ := hrel
    by_cases hend : q = l.length
    · subst hend
      have hR := hR.out
      rw [List.drop_length] at hR
      obtain rfl : R = U := by simpa using hR
      have hU2 := hUv wr (bthen' h9 hb)
      clear hl hP hR hUv
      go_wp2_with fail
      refine hU2.mono ?_
      rintro e w2 ⟨rfl, hb2⟩
      have hb3 := bthen' hb hb2
      clear hU2
      go_wp2_with fail
      go_ret
      exact ⟨rfl, hb3⟩
    · have hlt : q < l.length := by omega
      have hltI : (q : Int) < (l.length : Int) := by omega
      have hR := hR.out
      rw [List.drop_eq_getElem_cons hlt, List.all_cons, Bool.and_assoc] at hR
      obtain ⟨a, rfl, ⟨c0, z0⟩, c1, z1⟩ := hl q l[q] (by simp [hlt])
      have c0 := keepc (bthen' h9 hb) c0
      have c1 := keepc (bthen' h9 hb) c1
      clear hl
      generalize l[q] = y at *
      have hb4 := hb.alloc hb.size (.cells #[.string y.n, .string y.t] 60)
      have hP2 := hP.al (.cells #[.string y.n, .string y.t] 60)
      have q0 := hP2.c 0 _ rfl
      have q1 := hP2.c 1 _ rfl
      have q2 := hP2.c 2 _ rfl
      have q3 := hP2.c 3 _ rfl
      have q4 := hP2.c 4 _ rfl
      have hK := known_val (bthen' h0 hb4) hpv y.t
      have hlp := hP.lt
      generalize hkk : knownB p y.t = kk at *
      clear hkk hP hb hUv
      have hR := Lib.hid hR
      go_wp2_with fail
      refine hK.mono ?_
      rintro e w2 ⟨rfl, hb2⟩
      have hb3 := bthen' hb4 hb2
      have hP3 := hP2.nx hb2
      have hR := hR.out
      clear hK hb4 hb2 hP2 q0 q1 q2 q3 q4 c0 c1
      cases kk
      · have hR : R = false := by rw [hR]; rfl
        have hR := Lib.hid hR
        clear hP3 hlp
        go_wp2_with fail
        go_ret
        exact ⟨by rw [hR.out]; rfl, hb3⟩
      · have hR := Lib.hid ((Bool.true_and _) ▸ hR)
        go_wp2_with fail
        go_roundw
        case rel => exact ⟨q + 1, by omega, by go_num, hb3, hP3, hR⟩
        case measure => simp [intOf]; omega
end Go.Proofs.YtjohjpjpfglkkaaDoor
