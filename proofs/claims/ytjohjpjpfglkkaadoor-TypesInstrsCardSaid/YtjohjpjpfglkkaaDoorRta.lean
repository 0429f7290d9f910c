/- What is asked of an instruction's types: all, fit, same. -/
import Derived.Test.YtjohjpjpfglkkaaDoorAsk
namespace Go.Proofs.YtjohjpjpfglkkaaDoor
open Go.RowKit

def fitB : List ByteArray → List Vr → Bool
  | [], [] => true
  | a :: r, v :: s => fitsB a v.t && fitB r s
  | _, _ => false
theorem fitB_len : ∀ (l : List ByteArray) (vs : List Vr), l.length ≠ vs.length → fitB l vs = false
  | [], [], h => absurd rfl h
  | [], _ :: _, _ => rfl
  | _ :: _, [], _ => rfl
  | a :: r, v :: s, h => by
    unfold fitB
    rw [fitB_len r s (fun e => h (by simp [e])), Bool.and_false]
def allB (l : List ByteArray) (a d e : ByteArray) : Bool := l.all (fun t => decide (t = a)) && decide (d = e)
def sameB (a b : ByteArray) : Bool := isRf a && (isRf b && (decide (a = b) || (decide (a = nullS) || decide (b = nullS))))

set_option maxHeartbeats 4000000 in
theorem fit_val {wa w9 w : World} (ha : Below wa.heap.size wa w) (h9 : Below w9.heap.size w9 w) {l : List ByteArray} {t : Value} (hl : Row AtS 1 wa t l) {vs : List Vr} {u : Value} (hv : Row AtV 2 w9 u vs) :
    Calls Tryd.prog 47 #[t, u] w fun e w' => e = .returned (.bool (fitB l vs)) ∧ Below w.heap.size w w' := by
  obtain ⟨p1, k1, rfl, -, n1, hl⟩ := hl
  obtain ⟨p2, k2, rfl, -, n2, hv⟩ := hv
  by_cases hne : l.length = vs.length
  · generalize hf : fitB l vs = r0
    replace hne := Lib.hid hne
    rw [← hne.out]
    go_enter Tryd.func47, Tryd.ntmps47
    go_wp2
    go_loopw [5, 6, 14] (fun _ _ i wr => ∃ q : Nat, q ≤ l.length ∧ i = .int .i64 (q : Int) ∧ Hid (fitB (l.drop q) (vs.drop q) = r0) ∧ wr = w) (fun _ _ i _ => l.length - (intOf i).toNat)
    case atStart => exact ⟨0, Nat.zero_le _, rfl, Lib.hid hf, rfl⟩
    case round =>
      clear hf
      obtain ⟨q, hq, rfl, hf, rfl⟩ := hrel
      have hf := hf.out
      by_cases hend : q = l.length
      · subst hend
        have h0 : vs.drop l.length = [] := by have := hne.out; rw [List.drop_eq_nil_iff]; omega
        rw [List.drop_length, h0] at hf
        have hf : true = r0 := hf
        subst hf
        clear hl hv h0
        go_wp2
        go_ret
        exact ⟨rfl, Below.refl _ _⟩
      · have hlt : q < l.length := by omega
        have hlt2 : q < vs.length := by have := hne.out; omega
        have hltI : (q : Int) < (l.length : Int) := by omega
        rw [List.drop_eq_getElem_cons hlt, List.drop_eq_getElem_cons hlt2, fitB] at hf
        obtain ⟨a, rfl, c0, -⟩ := hl q l[q] (by simp [hlt])
        obtain ⟨b, rfl, -, d1, -⟩ := hv q vs[q] (by simp [hlt2])
        rw [Nat.mul_one] at c0
        have c0 := keepc ha c0
        have d1 := keepc h9 d1
        have hlt2I : (q : Int) < (vs.length : Int) := by omega
        clear hl hv
        generalize l[q] = s at *
        generalize vs[q] = y at *
        have hF := fits_val s y.t wr
        generalize fitsB s y.t = kk at *
        have hf := Lib.hid hf
        go_wp2_with fail
        refine hF.mono ?_
        rintro e w2 ⟨rfl, rfl⟩
        have hf := hf.out
        clear hF
        cases kk
        · have hf : false = r0 := hf
          subst hf
          clear c0 d1
          go_wp2_with fail
          go_ret
          exact ⟨rfl, Below.refl _ _⟩
        · rw [Bool.true_and] at hf
          have hf := Lib.hid hf
          clear c0 d1
          go_wp2_with fail
          go_roundw
          case rel => exact ⟨q + 1, by omega, by go_num, hf, trivial⟩
          case measure => simp [intOf]; omega
  · rw [fitB_len l vs hne]
    have hneI : ((l.length : Int) != (vs.length : Int)) = true := by simp only [bne_iff_ne, ne_eq]; omega
    clear hl hv hne
    go_enter Tryd.func47, Tryd.ntmps47
    go_wp2
    go_ret
    exact ⟨rfl, Below.refl _ _⟩

set_option maxHeartbeats 4000000 in
theorem same_val (a b : ByteArray) (w : World) : Calls Tryd.prog 44 #[.string a, .string b] w fun e w' => e = .returned (.bool (sameB a b)) ∧ w = w' := by
  unfold sameB
  have h1 := ref_val a w
  have h2 := ref_val b w
  generalize isRf a = x1 at *
  generalize isRf b = x2 at *
  obtain ⟨R, hR⟩ : ∃ R : Bool, R = (x1 && (x2 && (decide (a = b) || (decide (a = nullS) || decide (b = nullS))))) := ⟨_, rfl⟩
  rw [← hR]
  go_enter Tryd.func44, Tryd.ntmps44
  go_wp2_with fail
  refine h1.mono ?_
  rintro e w1 ⟨rfl, rfl⟩
  cases x1
  · have hR2 : Hid (R = false) := Lib.hid hR
    clear hR
    go_wp2_with fail
    go_ret
    exact ⟨by rw [hR2.out]; rfl, rfl⟩
  rw [Bool.true_and] at hR
  have hR := Lib.hid hR
  clear h1
  go_wp2_with fail
  refine h2.mono ?_
  rintro e w1 ⟨rfl, rfl⟩
  have hR := hR.out
  cases x2
  · have hR2 : Hid (R = false) := Lib.hid hR
    clear hR
    go_wp2_with fail
    go_ret
    exact ⟨by rw [hR2.out]; rfl, rfl⟩
  rw [Bool.true_and] at hR
  clear h2
  by_cases e1 : a = b
  · have g := seq_t e1
    have hR2 : Hid (R = true) := Lib.hid (by rw [hR, decide_eq_true e1]; rfl)
    clear e1 hR
    go_wp2_with fail
    go_ret
    exact ⟨by rw [hR2.out]; rfl, rfl⟩
  have g1 := seq_f e1
  rw [decide_eq_false e1, Bool.false_or] at hR
  by_cases e2 : a = nullS
  · have g := lit_t (l := [110, 117, 108, 108]) e2
    have hR2 : Hid (R = true) := Lib.hid (by rw [hR, decide_eq_true e2]; rfl)
    clear e1 e2 hR
    go_wp2_with fail
    go_ret
    exact ⟨by rw [hR2.out]; rfl, rfl⟩
  have g2 := lit_f (l := [110, 117, 108, 108]) e2
  rw [decide_eq_false e2, Bool.false_or] at hR
  by_cases e3 : b = nullS
  · have g := lit_t (l := [110, 117, 108, 108]) e3
    have hR2 : Hid (R = true) := Lib.hid (by rw [hR, decide_eq_true e3])
    clear e1 e2 e3 hR
    go_wp2_with fail
    go_ret
    exact ⟨by rw [hR2.out]; rfl, rfl⟩
  have g3 := lit_f (l := [110, 117, 108, 108]) e3
  have hR2 : Hid (R = false) := Lib.hid (by rw [hR, decide_eq_false e3])
  clear e1 e2 e3 hR
  go_wp2_with fail
  go_ret
  exact ⟨by rw [hR2.out]; rfl, rfl⟩

set_option maxHeartbeats 4000000 in
theorem all_val {w0 wa w : World} (ha : Below wa.heap.size wa w) {v : Value} {p : Pg} {x : Is} {d : ByteArray} {l : List ByteArray} {u1 u2 u3 u4 v1 v2 v3 t : Value} (hq : ValQ w0 wa v p x d l u1 u2 u3 u4 v1 v2 v3 t) (a b : ByteArray) :
    Calls Tryd.prog 41 #[v, .string a, .string b] w fun e w' => e = .returned (.bool (allB l a d b)) ∧ Below w.heap.size w w' := by
  obtain ⟨rfl, -, -, -, hl⟩ := hq
  obtain ⟨p1, k1, rfl, -, n1, hl⟩ := hl
  have hb := (Below.refl w.heap.size w).alloc (Nat.le_refl _) (.cells #[.bool p.ssa, u1, u2, u3, u4, .int .i64 x.op, .string x.d, .string x.n, v1, v2, v3, .string d, .slice p1 l.length k1] 52)
  have hB := Box.alloc w [.bool p.ssa, u1, u2, u3, u4, .int .i64 x.op, .string x.d, .string x.n, v1, v2, v3, .string d, .slice p1 l.length k1] 52
  obtain ⟨R, hR⟩ : ∃ R, R = allB l a d b := ⟨_, rfl⟩
  rw [← hR]
  unfold allB at hR
  have hb1 := bthen' ha hb
  have c11 := hB.c 11 _ rfl
  go_enter Tryd.func41, Tryd.ntmps41
  go_wp2
  generalize w.alloc (.cells #[.bool p.ssa, u1, u2, u3, u4, .int .i64 x.op, .string x.d, .string x.n, v1, v2, v3, .string d, .slice p1 l.length k1] 52) = W at *
  go_loopw [12] (fun i wr => ∃ q : Nat, q ≤ l.length ∧ i = .int .i64 (q : Int) ∧ Hid (R = ((l.drop q).all (fun t => decide (t = a)) && decide (d = b))) ∧ wr = W) (fun i _ => l.length - (intOf i).toNat)
  case atStart => exact ⟨0, Nat.zero_le _, rfl, Lib.hid hR, rfl⟩
  case round =>
    clear hR
    obtain ⟨q, hq, rfl, hR, rfl⟩ := hrel
    have hR := hR.out
    by_cases hend : q = l.length
    · subst hend
      rw [List.drop_length, List.all_nil, Bool.true_and] at hR
      by_cases e1 : d = b
      · have g := seq_t e1
        have hR2 : Hid (R = true) := Lib.hid (by rw [hR, decide_eq_true e1])
        clear hl e1 hR hB
        go_wp2
        go_ret
        exact ⟨by rw [hR2.out]; rfl, hb⟩
      · have g := seq_f e1
        have hR2 : Hid (R = false) := Lib.hid (by rw [hR, decide_eq_false e1])
        clear hl e1 hR hB
        go_wp2
        go_ret
        exact ⟨by rw [hR2.out]; rfl, hb⟩
    · have hlt : q < l.length := by omega
      have hltI : (q : Int) < (l.length : Int) := by omega
      rw [List.drop_eq_getElem_cons hlt, List.all_cons, Bool.and_assoc] at hR
      obtain ⟨a1, rfl, c0, -⟩ := hl q l[q] (by simp [hlt])
      rw [Nat.mul_one] at c0
      have c0 := keepc hb1 c0
      clear hl hB
      generalize l[q] = s at *
      by_cases e1 : s = a
      · have g := seq_t e1
        rw [decide_eq_true e1, Bool.true_and] at hR
        have hR := Lib.hid hR
        clear e1
        go_wp2
        go_roundw
        case rel => exact ⟨q + 1, by omega, by go_num, hR, trivial⟩
        case measure => simp [intOf]; omega
      · have g := seq_f e1
        have hR2 : Hid (R = false) := Lib.hid (by rw [hR, decide_eq_false e1]; rfl)
        clear e1 hR
        go_wp2
        go_ret
        exact ⟨by rw [hR2.out]; rfl, hb⟩
end Go.Proofs.YtjohjpjpfglkkaaDoor
