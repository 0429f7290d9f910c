/- types.Instr: whether an instruction has its types. -/
import Derived.Test.YtjohjpjpfglkkaaDoorRtg
namespace Go.Proofs.YtjohjpjpfglkkaaDoor
open Go.RowKit

def ag0 : Ag := ⟨0, ⟨#[]⟩, 0⟩
def rightQ (p : Pg) (x : Is) (d : ByteArray) (l : List ByteArray) : Bool := rightB p x d l (x.as[0]?.getD ag0) (l[0]?.getD ⟨#[]⟩) (l[1]?.getD ⟨#[]⟩)
def instrB (p : Pg) (f : Fn) (x : Is) : Bool := match askOf f x with
  | none => false
  | some (d, l) => rightQ p x d l
theorem tysOf_len (f : Fn) : ∀ (ar : List Ag) (l : List ByteArray), tysOf f ar = some l → l.length = ar.length
  | [], l, h => by
    injection h with h
    subst h
    rfl
  | a :: r, l, h => by
    simp only [tysOf] at h
    cases h1 : tyOf f a with
    | none => rw [h1] at h; cases h
    | some t =>
      rw [h1] at h
      dsimp only at h
      cases h2 : tysOf f r with
      | none => rw [h2] at h; cases h
      | some l2 =>
        rw [h2] at h
        injection h with h
        subst h
        simp only [List.length_cons, tysOf_len f r l2 h2]
theorem askOf_some {f : Fn} {x : Is} {d : ByteArray} {l : List ByteArray} (h : askOf f x = some (d, l)) : ∃ fm, formOf x.op = some fm ∧ fm.l ≤ x.as.length ∧ l.length = x.as.length := by
  unfold askOf at h
  cases h1 : formOf x.op with
  | none => rw [h1] at h; cases h
  | some fm =>
    rw [h1] at h
    dsimp only at h
    by_cases h2 : (x.as.length : Int) < fm.l ∨ fm.m < x.as.length
    · rw [if_pos h2] at h; cases h
    · rw [if_neg h2] at h
      refine ⟨fm, rfl, by omega, ?_⟩
      cases h3 : dstOf f x fm with
      | none => rw [h3] at h; cases h
      | some d2 =>
        rw [h3] at h
        dsimp only at h
        cases h4 : tysOf f x.as with
        | none => rw [h4] at h; cases h
        | some l2 =>
          rw [h4] at h
          injection h with h
          injection h with e1 e2
          subst e2
          exact tysOf_len f _ _ h4
theorem least {x : Is} {fm : Fm} (hf : formOf x.op = some fm) {n : Nat} (h : fm.l ≤ (n : Int)) : ((x.op = 24 ∨ x.op = 26 ∨ x.op = 30 ∨ x.op = 33) → 1 ≤ n) ∧ ((x.op = 27 ∨ x.op = 28) → 2 ≤ n) := by
  constructor
  · rintro (e | e | e | e) <;> (rw [e] at hf; simp [formOf] at hf; rw [← hf] at h; dsimp only at h; omega)
  · rintro (e | e) <;> (rw [e] at hf; simp [formOf] at hf; rw [← hf] at h; dsimp only at h; omega)
theorem get_at {α : Type} {l : List α} {i : Nat} (h : i < l.length) (z : α) : l[i]? = some (l[i]?.getD z) := by simp [h]

theorem right_val {w0 wa w : World} (h0 : Below w0.heap.size w0 w) (ha : Below wa.heap.size wa w) {v : Value} {p : Pg} {x : Is} {d : ByteArray} {l : List ByteArray} {u1 u2 u3 u4 v1 v2 v3 t : Value} (hq : ValQ w0 wa v p x d l u1 u2 u3 u4 v1 v2 v3 t) {fm : Fm} (hf : formOf x.op = some fm) (hn : fm.l ≤ x.as.length) (hl : l.length = x.as.length) :
    Calls Tryd.prog 15 #[v] w fun e w' => e = .returned (.bool (rightQ p x d l)) ∧ Below w.heap.size w w' := by
  obtain ⟨hm1, hm2⟩ := least hf hn
  have g0 : 1 ≤ x.as.length → x.as[0]? = some (x.as[0]?.getD ag0) := fun h => get_at h _
  have g1 : 1 ≤ x.as.length → l[0]? = some (l[0]?.getD ⟨#[]⟩) := fun h => get_at (by omega) _
  have g2 : 2 ≤ x.as.length → l[1]? = some (l[1]?.getD ⟨#[]⟩) := fun h => get_at (by omega) _
  unfold rightQ rightB
  by_cases e1 : x.op ≤ 14
  · rw [if_pos e1]; exact right_a h0 ha hq e1
  rw [if_neg e1]
  by_cases e2 : x.op ≤ 18
  · rw [if_pos e2]; exact right_b h0 ha hq ⟨by omega, e2⟩
  rw [if_neg e2]
  by_cases e3 : x.op ≤ 21
  · rw [if_pos e3]; exact right_c h0 ha hq ⟨by omega, e3⟩
  rw [if_neg e3]
  by_cases e4 : x.op = 22
  · rw [if_pos e4]; exact right_22 h0 ha hq e4
  rw [if_neg e4]
  by_cases e5 : x.op = 23
  · rw [if_pos e5]; exact right_23 h0 ha hq e5
  rw [if_neg e5]
  by_cases e6 : x.op = 24
  · rw [if_pos e6]; exact right_24 h0 ha hq e6 (g1 (hm1 (.inl e6)))
  rw [if_neg e6]
  by_cases e7 : x.op = 25
  · rw [if_pos e7]; exact right_25 h0 ha hq e7
  rw [if_neg e7]
  by_cases e8 : x.op = 26
  · rw [if_pos e8]; exact right_26 h0 ha hq e8 (g0 (hm1 (.inr (.inl e8)))) (g1 (hm1 (.inr (.inl e8))))
  rw [if_neg e8]
  by_cases e9 : x.op = 27
  · have := hm2 (.inl e9)
    rw [if_pos e9]; exact right_27 h0 ha hq e9 (g0 (by omega)) (g1 (by omega)) (g2 this)
  rw [if_neg e9]
  by_cases e10 : x.op = 28
  · have := hm2 (.inr e10)
    rw [if_pos e10]; exact right_28 h0 ha hq e10 (g1 (by omega)) (g2 this)
  rw [if_neg e10]
  by_cases e11 : x.op = 29
  · rw [if_pos (.inl e11)]; exact right_29 h0 ha hq e11
  by_cases e12 : x.op = 30
  · rw [if_pos (.inr e12)]; exact right_30 h0 ha hq e12 (g1 (hm1 (.inr (.inr (.inl e12)))))
  rw [if_neg (by omega)]
  by_cases e13 : x.op = 31
  · rw [if_pos e13]; exact right_31 h0 ha hq e13
  rw [if_neg e13]
  by_cases e14 : x.op = 32
  · rw [if_pos e14]; exact right_32 h0 ha hq e14
  rw [if_neg e14]
  by_cases e15 : x.op = 33
  · rw [if_pos e15]; exact right_33 h0 ha hq e15 (g1 (hm1 (.inr (.inr (.inr e15)))))
  rw [if_neg e15]
  exact right_34 h0 ha hq (by omega)

set_option maxHeartbeats 8000000 in
set_option maxRecDepth 100000 in
theorem instr_val {w0 w : World} (h0 : Below w0.heap.size w0 w) {p : Pg} {vp u1 u2 u3 u4 : Value} (hp : ValP w0 vp p u1 u2 u3 u4) {f : Fn} {vf g1 g2 g3 : Value} (hf : ValF w0 vf f g1 g2 g3) {x : Is} {vx y1 y2 y3 : Value} (hx : ValI w0 vx x y1 y2 y3) :
    Calls Tryd.prog 6 #[vp, vf, vx] w fun e w' => e = .returned (.bool (instrB p f x)) ∧ Below w.heap.size w w' := by
  have hpv := hp
  have hfv := hf
  have hxv := hx
  obtain ⟨rfl, -, -, -, -⟩ := hp
  obtain ⟨rfl, -, -, -, -⟩ := hf
  obtain ⟨rfl, -, -, -, -⟩ := hx
  have hb1 := (Below.refl w.heap.size w).alloc (Nat.le_refl _) (.cells #[.bool p.ssa, u1, u2, u3, u4] 27)
  have hb2 := hb1.alloc hb1.size (.cells #[.string f.n, .string f.r, g1, g2, g3] 30)
  have hb3 := hb2.alloc hb2.size (.cells #[.int .i64 x.op, .string x.d, .string x.n, y1, y2, y3] 35)
  have hA := ask_val (bthen' h0 hb3) hpv hfv hxv
  obtain ⟨R, hR⟩ : ∃ R : Bool, R = instrB p f x := ⟨_, rfl⟩
  rw [← hR]
  unfold instrB at hR
  have hP := ((Box.alloc w [.bool p.ssa, u1, u2, u3, u4] 27).al (.cells #[.string f.n, .string f.r, g1, g2, g3] 30)).al (.cells #[.int .i64 x.op, .string x.d, .string x.n, y1, y2, y3] 35)
  have hF := (Box.alloc (w.alloc (.cells #[.bool p.ssa, u1, u2, u3, u4] 27)) [.string f.n, .string f.r, g1, g2, g3] 30).al (.cells #[.int .i64 x.op, .string x.d, .string x.n, y1, y2, y3] 35)
  have z1 : (w.alloc (.cells #[.bool p.ssa, u1, u2, u3, u4] 27)).heap.size = w.heap.size + 1 := by simp
  rw [z1] at hF
  clear hb1 hb2 z1 hpv hfv hxv
  go_enter Tryd.func6, Tryd.ntmps6
  go_wp2_with fail
  refine hA.mono ?_
  rintro e w1 ⟨hb4, ho⟩
  have hb := bthen' hb3 hb4
  clear hA hb3 hb4 hP hF
  cases hr : askOf f x with
  | none =>
    rw [hr] at ho hR
    obtain rfl : e = _ := ho
    have hR2 : Hid (R = false) := Lib.hid hR
    have hb5 := hb.alloc hb.size (.cells #[.bool false, .slice none 0 0, .slice none 0 0, .slice none 0 0, .slice none 0 0, .int .i64 0, .string ⟨#[]⟩, .string ⟨#[]⟩, .slice none 0 0, .slice none 0 0, .slice none 0 0, .string ⟨#[]⟩, .slice none 0 0] 52)
    clear hr hR hb
    go_wp2_with fail
    go_ret
    exact ⟨by rw [hR2.out]; rfl, hb5⟩
  | some dl =>
    obtain ⟨d, l⟩ := dl
    obtain ⟨fm, hfm, hn, hlen⟩ := askOf_some hr
    rw [hr] at ho hR
    obtain ⟨v, q1, q2, q3, q4, r1, r2, r3, t, rfl, hq⟩ := ho
    replace hR : R = rightQ p x d l := hR
    have hqv := hq
    obtain ⟨rfl, hp, hx, -, hl⟩ := hq
    obtain ⟨-, hp1, hp2, hp3, hp4⟩ := hp
    obtain ⟨-, -, hx1, hx2, hx3⟩ := hx
    obtain ⟨a1, k1, rfl⟩ := hp1.slice
    obtain ⟨a2, k2, rfl⟩ := hp2.slice
    obtain ⟨a3, k3, rfl⟩ := hp3.slice
    obtain ⟨a4, k4, rfl⟩ := hp4.slice
    obtain ⟨b1, m1, rfl⟩ := hx1.slice
    obtain ⟨b2, m2, rfl⟩ := hx2.slice
    obtain ⟨b3, m3, rfl⟩ := hx3.slice
    obtain ⟨b4, m4, rfl⟩ := hl.slice
    have hb5 := (Below.refl w1.heap.size w1).alloc (Nat.le_refl _) (.cells #[.bool p.ssa, .slice a1 p.cs.length k1, .slice a2 p.gs.length k2, .slice a3 p.xs.length k3, .slice a4 p.fs.length k4, .int .i64 x.op, .string x.d, .string x.n, .slice b1 x.as.length m1, .slice b2 x.fr.length m2, .slice b3 x.ob.length m3, .string d, .slice b4 l.length m4] 52)
    have hb6 := bthen' hb hb5
    have hG := right_val (bthen' h0 hb6) hb5 hqv hfm hn hlen
    rw [← hR] at hG
    clear hr hR hb hqv hp1 hp2 hp3 hp4 hx1 hx2 hx3 hl hfm hn hlen
    go_wp2_with fail
    refine hG.mono ?_
    rintro e w2 ⟨rfl, hb7⟩
    have hb8 := bthen' hb6 hb7
    clear hG hb7 hb5 hb6
    go_wp2_with fail
    go_ret
    exact ⟨rfl, hb8⟩
end Go.Proofs.YtjohjpjpfglkkaaDoor
