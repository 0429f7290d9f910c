/- The reference's Instr: whether an instruction has its types. -/
import Derived.Test.YtjohjpjpfglkkaaDoorRia
import Derived.Test.YtjohjpjpfglkkaaDoorFew
namespace Go.Proofs.YtjohjpjpfglkkaaDoor
open Go Go.RowKit

def sN : Option ByteArray → ByteArray
  | some c => c
  | none => ⟨#[]⟩
theorem OutS.form {r : Option ByteArray} {e : Ending} (h : OutS r e) : e = .returned (.tuple #[.string (sN r), .bool r.isSome]) := by
  cases r with
  | none => exact h
  | some c => exact h.1
theorem OutS.sz {r : Option ByteArray} {e : Ending} {t : ByteArray} (h : OutS r e) (hr : r = some t) : Sz t := by
  subst hr
  exact h.2
theorem formOf_most {op : Int} {fm : Fm} (h : formOf op = some fm) : fm.m ≤ 8 := by
  unfold formOf at h
  by_cases c : 1 ≤ op ∧ op ≤ 21
  · rw [if_pos c] at h; injection h with h; subst h; decide
  rw [if_neg c] at h
  by_cases c : 22 ≤ op ∧ op ≤ 24
  · rw [if_pos c] at h; injection h with h; subst h; decide
  rw [if_neg c] at h
  by_cases c : op = 25
  · rw [if_pos c] at h; injection h with h; subst h; decide
  rw [if_neg c] at h
  by_cases c : op = 26
  · rw [if_pos c] at h; injection h with h; subst h; decide
  rw [if_neg c] at h
  by_cases c : op = 27
  · rw [if_pos c] at h; injection h with h; subst h; decide
  rw [if_neg c] at h
  by_cases c : op = 28
  · rw [if_pos c] at h; injection h with h; subst h; decide
  rw [if_neg c] at h
  by_cases c : op = 29
  · rw [if_pos c] at h; injection h with h; subst h; decide
  rw [if_neg c] at h
  by_cases c : op = 30
  · rw [if_pos c] at h; injection h with h; subst h; decide
  rw [if_neg c] at h
  by_cases c : op = 31
  · rw [if_pos c] at h; injection h with h; subst h; decide
  rw [if_neg c] at h
  by_cases c : op = 32
  · rw [if_pos c] at h; injection h with h; subst h; decide
  rw [if_neg c] at h
  by_cases c : op = 33
  · rw [if_pos c] at h; injection h with h; subst h; decide
  rw [if_neg c] at h
  by_cases c : op = 34
  · rw [if_pos c] at h; injection h with h; subst h; decide
  rw [if_neg c] at h
  cases h
theorem own_next' {w w' : World} {B : Nat} {e : TypeId} {s : Nat} {v : Value} {n : Nat} {xs : List Value} {C : Nat} (h : w.ownsRow B e s v n xs) (hb : Below C w w') (hC : w.heap.size ≤ C) : w'.ownsRow B e s v n xs := World.ownsRow.kept h (grown_below hb hC) (by cases v.ownBlock <;> simp)
theorem findB_mem {α : Type} {nm : α → ByteArray} {x : ByteArray} {c : α} : ∀ {l : List α}, findB nm x l = some c → c ∈ l
  | [], h => by cases h
  | y :: r, h => by
    unfold findB at h
    split at h
    · injection h with h
      subst h
      exact List.mem_cons_self
    · exact List.mem_cons_of_mem _ (findB_mem h)
theorem tyOf_sz {w : World} {f : Fn} {vf g1 g2 g3 : Value} (hf : ValF w vf f g1 g2 g3) {a : Ag} {t : ByteArray} (h : tyOf f a = some t) : Sz t := by
  unfold tyOf at h
  split at h
  · cases hv : varOf f a.s with
    | none => rw [hv] at h; cases h
    | some v =>
      rw [hv] at h
      injection h with h
      subst h
      unfold varOf at hv
      split at hv
      · rename_i v' h2
        injection hv with hv
        subst hv
        exact (hf.p.sz _ (findB_mem h2)).2
      · exact (hf.v.sz _ (findB_mem hv)).2
  · split at h
    · injection h with h; subst h; decide
    · split at h
      · injection h with h; subst h; decide
      · split at h
        · injection h with h; subst h; decide
        · cases h
theorem all_drop {l : List ByteArray} {a : ByteArray} {q : Nat} (hq : q < l.length) (h : l[q] ≠ a) (d e : ByteArray) : allB l a d e = false := by
  unfold allB
  rw [Bool.and_eq_false_iff]
  left
  rw [List.all_eq_false]
  exact ⟨l[q], by simp, by simpa using h⟩
theorem all_upto {l : List ByteArray} {a : ByteArray} (h : ∀ q, (hq : q < l.length) → l[q] = a) (d e : ByteArray) : allB l a d e = decide (d = e) := by
  unfold allB
  rw [List.all_eq_true.2 (fun t ht => by
    obtain ⟨q, hq, rfl⟩ := List.getElem_of_mem ht
    simpa using h q hq), Bool.true_and]
theorem findB_name {α : Type} {nm : α → ByteArray} {x : ByteArray} {c : α} : ∀ {l : List α}, findB nm x l = some c → nm c = x
  | [], h => by cases h
  | y :: r, h => by
    unfold findB at h
    split at h
    · rename_i e
      injection h with h
      subst h
      exact e
    · exact findB_name h
theorem lit_b {s : ByteArray} {l : List UInt8} : (s.toList == l) = decide (s = ⟨l.toArray⟩) := by
  by_cases h : s = ⟨l.toArray⟩
  · rw [decide_eq_true h, lit_t h]
  · rw [decide_eq_false h, lit_f h]
theorem seq_b {s t : ByteArray} : (s.toList == t.toList) = decide (s = t) := by
  by_cases h : s = t
  · rw [decide_eq_true h, seq_t h]
  · rw [decide_eq_false h, seq_f h]
theorem op_range {op : Int} {fm : Fm} (h : formOf op = some fm) : (1 ≤ op ∧ op ≤ 14) ∨ (15 ≤ op ∧ op ≤ 18) ∨ (19 ≤ op ∧ op ≤ 21) ∨ op = 22 ∨ op = 23 ∨ op = 24 ∨ op = 25 ∨ op = 26 ∨ op = 27 ∨ op = 28 ∨ op = 29 ∨ op = 30 ∨ op = 31 ∨ op = 32 ∨ op = 33 ∨ op = 34 := by
  have h1 : ¬ (op < 1 ∨ 34 < op) := fun h1 => by rw [formOf_out h1] at h; cases h
  omega
theorem formOf_two {op : Int} {fm : Fm} (h : formOf op = some fm) (h1 : 1 ≤ op) (h2 : op ≤ 21) : fm = ⟨true, false, 2, 2⟩ := by
  unfold formOf at h
  rw [if_pos ⟨h1, h2⟩] at h
  exact (Option.some.inj h).symm
theorem formOf_lit {op k : Int} {fm fm2 : Fm} (hk : op = k) (h : formOf op = some fm) (h2 : formOf k = some fm2) : fm = fm2 := by
  rw [hk, h2] at h
  exact (Option.some.inj h).symm
section
variable {p : Pg} {x : Is} {d : ByteArray} {l : List ByteArray}
theorem rq_1 (h : 1 ≤ x.op ∧ x.op ≤ 14) : rightQ p x d l = allB l intS d intS := by
  unfold rightQ rightB
  rw [if_pos h.2]
theorem rq_15 (h : 15 ≤ x.op ∧ x.op ≤ 18) : rightQ p x d l = allB l floatS d floatS := by
  unfold rightQ rightB
  rw [if_neg (by omega), if_pos h.2]
theorem rq_19 (h : 19 ≤ x.op ∧ x.op ≤ 21) : rightQ p x d l = allB l floatS d intS := by
  unfold rightQ rightB
  rw [if_neg (by omega), if_neg (by omega), if_pos h.2]
theorem rq_22 (h : x.op = 22) : rightQ p x d l = allB l intS d floatS := by
  unfold rightQ rightB
  rw [if_neg (by omega), if_neg (by omega), if_neg (by omega), if_pos h]
theorem rq_23 (h : x.op = 23) : rightQ p x d l = allB l floatS d intS := by
  unfold rightQ rightB
  rw [if_neg (by omega), if_neg (by omega), if_neg (by omega), if_neg (by omega), if_pos h]
theorem rq_24 (h : x.op = 24) : rightQ p x d l = fitsB (l[0]?.getD ⟨#[]⟩) d := by
  unfold rightQ rightB
  rw [if_neg (by omega), if_neg (by omega), if_neg (by omega), if_neg (by omega), if_neg (by omega), if_pos h]
theorem rq_25 (h : x.op = 25) : rightQ p x d l = madeB p x d l := by
  unfold rightQ rightB
  rw [if_neg (by omega), if_neg (by omega), if_neg (by omega), if_neg (by omega), if_neg (by omega), if_neg (by omega), if_pos h]
theorem rq_26 (h : x.op = 26) : rightQ p x d l = typB d (fieldQ p x (x.as[0]?.getD ag0) (l[0]?.getD ⟨#[]⟩)) := by
  unfold rightQ rightB
  rw [if_neg (by omega), if_neg (by omega), if_neg (by omega), if_neg (by omega), if_neg (by omega), if_neg (by omega), if_neg (by omega), if_pos h]
theorem rq_27 (h : x.op = 27) : rightQ p x d l = putB (l[1]?.getD ⟨#[]⟩) (fieldQ p x (x.as[0]?.getD ag0) (l[0]?.getD ⟨#[]⟩)) := by
  unfold rightQ rightB
  rw [if_neg (by omega), if_neg (by omega), if_neg (by omega), if_neg (by omega), if_neg (by omega), if_neg (by omega), if_neg (by omega), if_neg (by omega), if_pos h]
theorem rq_28 (h : x.op = 28) : rightQ p x d l = (decide (d = intS) && sameB (l[0]?.getD ⟨#[]⟩) (l[1]?.getD ⟨#[]⟩)) := by
  unfold rightQ rightB
  rw [if_neg (by omega), if_neg (by omega), if_neg (by omega), if_neg (by omega), if_neg (by omega), if_neg (by omega), if_neg (by omega), if_neg (by omega), if_neg (by omega), if_pos h]
theorem rq_29 (h : x.op = 29) : rightQ p x d l = globB p x d (l[0]?.getD ⟨#[]⟩) := by
  unfold rightQ rightB
  rw [if_neg (by omega), if_neg (by omega), if_neg (by omega), if_neg (by omega), if_neg (by omega), if_neg (by omega), if_neg (by omega), if_neg (by omega), if_neg (by omega), if_neg (by omega), if_pos (by omega)]
theorem rq_30 (h : x.op = 30) : rightQ p x d l = globB p x d (l[0]?.getD ⟨#[]⟩) := by
  unfold rightQ rightB
  rw [if_neg (by omega), if_neg (by omega), if_neg (by omega), if_neg (by omega), if_neg (by omega), if_neg (by omega), if_neg (by omega), if_neg (by omega), if_neg (by omega), if_neg (by omega), if_pos (by omega)]
theorem rq_31 (h : x.op = 31) : rightQ p x d l = callB p x d l := by
  unfold rightQ rightB
  rw [if_neg (by omega), if_neg (by omega), if_neg (by omega), if_neg (by omega), if_neg (by omega), if_neg (by omega), if_neg (by omega), if_neg (by omega), if_neg (by omega), if_neg (by omega), if_neg (by omega), if_pos h]
theorem rq_32 (h : x.op = 32) : rightQ p x d l = extB p x d l := by
  unfold rightQ rightB
  rw [if_neg (by omega), if_neg (by omega), if_neg (by omega), if_neg (by omega), if_neg (by omega), if_neg (by omega), if_neg (by omega), if_neg (by omega), if_neg (by omega), if_neg (by omega), if_neg (by omega), if_neg (by omega), if_pos h]
theorem rq_33 (h : x.op = 33) : rightQ p x d l = (!isRf (l[0]?.getD ⟨#[]⟩)) := by
  unfold rightQ rightB
  rw [if_neg (by omega), if_neg (by omega), if_neg (by omega), if_neg (by omega), if_neg (by omega), if_neg (by omega), if_neg (by omega), if_neg (by omega), if_neg (by omega), if_neg (by omega), if_neg (by omega), if_neg (by omega), if_neg (by omega), if_pos h]
theorem rq_34 (h : x.op = 34) : rightQ p x d l = true := by
  unfold rightQ rightB
  rw [if_neg (by omega), if_neg (by omega), if_neg (by omega), if_neg (by omega), if_neg (by omega), if_neg (by omega), if_neg (by omega), if_neg (by omega), if_neg (by omega), if_neg (by omega), if_neg (by omega), if_neg (by omega), if_neg (by omega), if_neg (by omega)]
end
theorem instrB_none {p : Pg} {f : Fn} {x : Is} (h : formOf x.op = none) : instrB p f x = false := by
  unfold instrB askOf
  rw [h]
theorem instrB_some {p : Pg} {f : Fn} {x : Is} {fm : Fm} (h : formOf x.op = some fm) : instrB p f x = if (x.as.length : Int) < fm.l ∨ fm.m < x.as.length then false else match dstOf f x fm with
    | none => false
    | some d => match tysOf f x.as with
      | none => false
      | some l => rightQ p x d l := by
  unfold instrB askOf
  rw [h]
  dsimp only
  by_cases c : (x.as.length : Int) < fm.l ∨ fm.m < x.as.length
  · rw [if_pos c, if_pos c]
  · rw [if_neg c, if_neg c]
    cases dstOf f x fm with
    | none => rfl
    | some d =>
      dsimp only
      cases tysOf f x.as with
      | none => rfl
      | some l => rfl
set_option maxHeartbeats 32000000 in
set_option maxRecDepth 100000 in
theorem rinstr_val {w0 w : World} (h0 : Below w0.heap.size w0 w) (hW : Words w0) {p : Pg} {vp u1 u2 u3 u4 : Value} (hp : ValP w0 vp p u1 u2 u3 u4) {f : Fn} {vf g1 g2 g3 : Value} (hf : ValF w0 vf f g1 g2 g3) {x : Is} {vx y1 y2 y3 : Value} (hx : ValI w0 vx x y1 y2 y3) :
    Calls Tryd.prog 7 #[vp, vf, vx] w fun e w' => e = .returned (.bool (instrB p f x)) ∧ Below w.heap.size w w' := by
  obtain ⟨iS, hjS, hy0, hy1, hy2⟩ := info_parts infoStr
  have hpv := hp
  have hfv := hf
  have e1 := hp.e
  have e2 := hf.e
  have e3 := hx.e
  subst e1
  subst e2
  subst e3
  obtain ⟨i1, j1, rfl⟩ := hx.a.slice
  have hxa := hx.a
  clear hp hf hx
  obtain ⟨hP, hF, hX, hb⟩ := boxes3 (w := w) (c1 := [.bool p.ssa, u1, u2, u3, u4]) (c2 := [.string f.n, .string f.r, g1, g2, g3]) (c3 := [.int .i64 x.op, .string x.d, .string x.n, .slice i1 x.as.length j1, y2, y3]) (t1 := 27) (t2 := 30) (t3 := 35) (Below.refl _ _)
  have hO := rforms_val x.op _ (hW.kp (bthen' h0 hb))
  obtain ⟨R, hR⟩ : ∃ R : Bool, R = instrB p f x := ⟨_, rfl⟩
  rw [← hR]
  replace hR := Lib.hid hR
  go_enter Tryd.func7, Tryd.ntmps7
  go_wp2_with fail
  refine hO.mono ?_
  rintro e w1 ⟨hd, ho⟩
  replace hb := bthen' hb hd
  replace hP := hP.nx hd
  replace hF := hF.nx hd
  replace hX := hX.nx hd
  clear hO hd hW
  have hVr := fun W (hW : Below w.heap.size w W) => rvar_val (bthen' h0 hW) hfv x.d
  cases hfm : formOf x.op with
  | none =>
    rw [hfm] at ho
    obtain rfl : e = _ := ho
    have hR2 : Hid (R = false) := Lib.hid (hR.out.trans (instrB_none hfm))
    have hbA := hb.alloc hb.size (.cells #[.string ⟨#[]⟩, .bool false, .bool false, .int .i64 0, .int .i64 0] 56)
    have hFA := hF.al (.cells #[.string ⟨#[]⟩, .bool false, .bool false, .int .i64 0, .int .i64 0] 56)
    have hXA := hX.al (.cells #[.string ⟨#[]⟩, .bool false, .bool false, .int .i64 0, .int .i64 0] 56)
    have a0 := hFA.c 0 _ rfl
    have a1 := hFA.c 1 _ rfl
    have a2 := hFA.c 2 _ rfl
    have a3 := hFA.c 3 _ rfl
    have a4 := hFA.c 4 _ rfl
    have b1 := hXA.c 1 _ rfl
    clear hP hF hX hb hR hfm
    go_wp2_with fail
    refine (hVr _ hbA).mono ?_
    rintro e w2 ⟨hd, ho⟩
    replace ho := ho.eq
    subst ho
    have hb3 := bthen' hbA hd
    have hb4 := hb3.alloc hb3.size (.cells #[.string (vN (varOf f x.d)), .string (vT (varOf f x.d))] 60)
    clear hVr hFA hXA a0 a1 a2 a3 a4 b1 hd hb3 hbA
    go_wp2_with fail
    go_ret
    exact ⟨by rw [hR2.out]; rfl, hb4⟩
  | some fm =>
    rw [hfm] at ho
    obtain ⟨tw, rfl⟩ := ho
    have hM := Box.alloc w1 [.string tw, .bool fm.d, .bool fm.n, .int .i64 fm.l, .int .i64 fm.m] 56
    replace hb := hb.alloc hb.size (.cells #[.string tw, .bool fm.d, .bool fm.n, .int .i64 fm.l, .int .i64 fm.m] 56)
    replace hP := hP.al (.cells #[.string tw, .bool fm.d, .bool fm.n, .int .i64 fm.l, .int .i64 fm.m] 56)
    replace hF := hF.al (.cells #[.string tw, .bool fm.d, .bool fm.n, .int .i64 fm.l, .int .i64 fm.m] 56)
    replace hX := hX.al (.cells #[.string tw, .bool fm.d, .bool fm.n, .int .i64 fm.l, .int .i64 fm.m] 56)
    have hR3 := hR.out.trans (instrB_some hfm)
    replace hR3 := Lib.hid hR3
    replace hfm := Lib.hid hfm
    clear hR
    have a0 := hF.c 0 _ rfl
    have a1 := hF.c 1 _ rfl
    have a2 := hF.c 2 _ rfl
    have a3 := hF.c 3 _ rfl
    have a4 := hF.c 4 _ rfl
    have b1 := hX.c 1 _ rfl
    go_wp2_with fail
    refine (hVr _ hb).mono ?_
    rintro e w2 ⟨hd, ho⟩
    replace ho := ho.eq
    subst ho
    clear hVr a0 a1 a2 a3 a4 b1
    have hdst : dstOf f x fm = if fm.d then (varOf f x.d).map Vr.t else some ⟨#[]⟩ := rfl
    replace hdst := Lib.hid hdst
    obtain ⟨r, hr⟩ : ∃ r, r = varOf f x.d := ⟨_, rfl⟩
    rw [← hr]
    have hdst2 : dstOf f x fm = if fm.d then r.map Vr.t else some ⟨#[]⟩ := by rw [hdst.out, hr]
    replace hdst2 := Lib.hid hdst2
    clear hdst hr
    have hV := Box.alloc w2 [.string (vN r), .string (vT r)] 60
    replace hb := (bthen' hb hd).alloc (bthen' hb hd).size (.cells #[.string (vN r), .string (vT r)] 60)
    replace hP := (hP.nx hd).al (.cells #[.string (vN r), .string (vT r)] 60)
    replace hF := (hF.nx hd).al (.cells #[.string (vN r), .string (vT r)] 60)
    replace hX := (hX.nx hd).al (.cells #[.string (vN r), .string (vT r)] 60)
    replace hM := (hM.nx hd).al (.cells #[.string (vN r), .string (vT r)] 60)
    clear hd
    have b3 := hX.c 3 _ rfl
    have b0 := hX.c 0 _ rfl
    have m1 := hM.c 1 _ rfl
    have m3 := hM.c 3 _ rfl
    have m4 := hM.c 4 _ rfl
    go_upto_region 3 with fail
    generalize (w2.alloc (.cells #[.string (vN r), .string (vT r)] 60)) = W at *
    obtain ⟨C, hC⟩ : ∃ C : Bool, C = (decide ((x.as.length : Int) < fm.l) || decide (fm.m < (x.as.length : Int)) || (fm.d && !r.isSome)) := ⟨_, rfl⟩
    replace hC := Lib.hid hC
    go_cut [70] from 45 to 69 (fun v wx => v = .bool C ∧ wx = W)
    case first =>
      clear hP hF hX hM hV hR3 hfm hdst2 hb
      by_cases hl1 : (x.as.length : Int) < fm.l
      · have hC2 : C = true := by rw [hC.out, decide_eq_true hl1]; simp
        replace hC2 := Lib.hid hC2
        go_wp2_with fail
        go_meet
        case rel => exact ⟨by rw [hC2.out], rfl⟩
      by_cases hl2 : fm.m < (x.as.length : Int)
      · have hC2 : C = true := by rw [hC.out, decide_eq_true hl2]; simp
        replace hC2 := Lib.hid hC2
        go_wp2_with fail
        go_meet
        case rel => exact ⟨by rw [hC2.out], rfl⟩
      rcases Bool.eq_false_or_eq_true fm.d with hfd | hfd
      · rw [hfd] at m1
        have hC2 : C = !r.isSome := by rw [hC.out, decide_eq_false hl1, decide_eq_false hl2, hfd]; simp
        replace hC2 := Lib.hid hC2
        replace hfd := Lib.hid hfd
        go_wp2_with fail
        go_meet
        case rel => exact ⟨by rw [hC2.out]; cases r <;> rfl, rfl⟩
      · rw [hfd] at m1
        have hC2 : C = false := by rw [hC.out, decide_eq_false hl1, decide_eq_false hl2, hfd]; simp
        replace hC2 := Lib.hid hC2
        replace hfd := Lib.hid hfd
        go_wp2_with fail
        go_meet
        case rel => exact ⟨by rw [hC2.out], rfl⟩
    case rest =>
    obtain ⟨rfl, rfl⟩ := hcut
    obtain ⟨W, rfl⟩ : ∃ W : World, W = wc := ⟨_, rfl⟩
    clear b0 m1 m3 m4 hM
    cases hCv : C with
    | true =>
      have hR2 : Hid (R = false) := Lib.hid (by
        rw [hR3.out]
        by_cases hl : (x.as.length : Int) < fm.l ∨ fm.m < x.as.length
        · rw [if_pos hl]
        · rw [if_neg hl, hdst2.out]
          rw [hC.out, decide_eq_false (fun h => hl (.inl h)), decide_eq_false (fun h => hl (.inr h))] at hCv
          simp only [Bool.false_or, Bool.and_eq_true, Bool.not_eq_true'] at hCv
          rw [if_pos hCv.1]
          cases r with
          | none => rfl
          | some v => cases hCv.2)
      clear hP hF hX hV hR3 hfm hdst2 hC hCv
      go_wp2_with fail
      go_ret
      exact ⟨by rw [hR2.out]; rfl, hb⟩
    | false =>
    have hpre : ¬ ((x.as.length : Int) < fm.l ∨ fm.m < x.as.length) ∧ (fm.d = true → r.isSome = true) := by
      rw [hC.out] at hCv
      simp only [Bool.or_eq_false_iff, decide_eq_false_iff_not, Bool.and_eq_false_iff, Bool.not_eq_false'] at hCv
      refine ⟨fun h => h.elim hCv.1.1 hCv.1.2, fun h => hCv.2.elim (fun e => ?_) id⟩
      rw [h] at e
      cases e
    have hds : ∃ d, dstOf f x fm = some d ∧ (fm.d = true → d = vT r) := by
      rw [hdst2.out]
      cases hd1 : fm.d with
      | false => exact ⟨_, rfl, fun h => by cases h⟩
      | true =>
        cases r with
        | none => exact absurd (hpre.2 hd1) (by simp)
        | some v => exact ⟨_, rfl, fun _ => rfl⟩
    obtain ⟨d, hd1, hd2⟩ := hds
    have hR4 : R = match tysOf f x.as with
        | none => false
        | some l => rightQ p x d l := by
      rw [hR3.out, if_neg hpre.1, hd1]
    have hlen := hpre.1
    clear hR3 hdst2 hd1 hC hCv hpre
    replace hd2 := Lib.hid hd2
    replace hR4 := Lib.hid hR4
    have hlen8 : x.as.length ≤ 8 := by have := formOf_most hfm.out; omega
    replace hlen := Lib.hid hlen
    go_upto_region 6 with fail
    obtain ⟨ia, ja, hia, -, hna, hxr⟩ := id hxa
    injection hia with e1 _ e3
    subst e1
    subst e3
    go_wp2_with fail
    go_loopw [11, 12, 13, 14] (fun v i _ _ wr => ∃ (q : Nat) (lst : List ByteArray) (po : Option Addr) (ko : Nat), q ≤ x.as.length ∧ i = .int .i64 (q : Int) ∧ v = .slice po lst.length ko ∧ Below W.heap.size W wr ∧ wr.ownsRow W.heap.size 9 1 (.slice po lst.length ko) lst.length (lst.map .string) ∧ Hid (lst.length = q) ∧ (∀ s ∈ lst, Sz s) ∧ Hid (R = match tysOf f (x.as.drop q) with
      | none => false
      | some l => rightQ p x d (lst ++ l))) (fun _ i _ _ _ => x.as.length - (intOf i).toNat)
    case atStart => exact ⟨0, [], none, 0, Nat.zero_le _, rfl, rfl, Below.refl _ _, World.ownsRow_nil _ _ _ _, Lib.hid rfl, (fun s hs => by cases hs), Lib.hid (by rw [hR4.out, List.drop_zero]; cases tysOf f x.as <;> rfl)⟩
    case round =>
      clear hR4
      obtain ⟨q, lst, po, ko, hq, rfl, rfl, hb2, hown, hll, hsz, hR⟩ := hrel
      replace hP := hP.nx hb2
      replace hF := hF.nx hb2
      replace hX := hX.nx hb2
      replace hV := hV.nx hb2
      have hb3 := bthen' hb hb2
      have b3 := hX.c 3 _ rfl
      by_cases hend : q = x.as.length
      · subst hend
        rw [List.drop_length] at hR
        have hR5 : Hid (R = rightQ p x d lst) := Lib.hid (by rw [hR.out]; show rightQ p x d (lst ++ []) = _; rw [List.append_nil])
        clear hR
        have hLr := own_strs hown hsz (by have := hll.out; omega)
        have hlr := hLr
        obtain ⟨po', ko', e4, -, -, hrow⟩ := hLr
        injection e4 with e5 _ e6
        subst e5
        subst e6
        have hle9 : lst.length ≤ 8 := by have := hll.out; omega
        have hOp := op_range hfm.out
        rcases hOp with hop | hop | hop | hop | hop | hop | hop | hop | hop | hop | hop | hop | hop | hop | hop | hop
        · have hfd : fm.d = true := by rw [show fm = ⟨true, false, 2, 2⟩ from formOf_two hfm.out (by omega) (by omega)]
          have hdv : Hid (d = vT r) := Lib.hid (hd2.out hfd)
          have hR6 : Hid (R = allB lst intS d intS) := Lib.hid (hR5.out.trans (rq_1 hop))
          have d15 : decide (15 ≤ x.op) = false := decide_eq_false (by omega)
          have d15' : ¬ (15 ≤ x.op) := by omega
          have d21 : decide (x.op ≤ 21) = true := decide_eq_true (by omega)
          have d21' : (x.op ≤ 21) := by omega
          have d18 : decide (x.op ≤ 18) = true := decide_eq_true (by omega)
          have d18' : (x.op ≤ 18) := by omega
          have n22 : (x.op == 22) = false := beq_false_of_ne (by omega)
          have n23 : (x.op == 23) = false := beq_false_of_ne (by omega)
          have n24 : (x.op == 24) = false := beq_false_of_ne (by omega)
          have n25 : (x.op == 25) = false := beq_false_of_ne (by omega)
          have n26 : (x.op == 26) = false := beq_false_of_ne (by omega)
          have n27 : (x.op == 27) = false := beq_false_of_ne (by omega)
          have n28 : (x.op == 28) = false := beq_false_of_ne (by omega)
          have n29 : (x.op == 29) = false := beq_false_of_ne (by omega)
          have n30 : (x.op == 30) = false := beq_false_of_ne (by omega)
          have n31 : (x.op == 31) = false := beq_false_of_ne (by omega)
          have n32 : (x.op == 32) = false := beq_false_of_ne (by omega)
          have n33 : (x.op == 33) = false := beq_false_of_ne (by omega)
          have n34 : (x.op == 34) = false := beq_false_of_ne (by omega)
          have m22 : ¬ x.op = 22 := by omega
          have m23 : ¬ x.op = 23 := by omega
          have m24 : ¬ x.op = 24 := by omega
          have m25 : ¬ x.op = 25 := by omega
          have m26 : ¬ x.op = 26 := by omega
          have m27 : ¬ x.op = 27 := by omega
          have m28 : ¬ x.op = 28 := by omega
          have m29 : ¬ x.op = 29 := by omega
          have m30 : ¬ x.op = 30 := by omega
          have m31 : ¬ x.op = 31 := by omega
          have m32 : ¬ x.op = 32 := by omega
          have m33 : ¬ x.op = 33 := by omega
          have m34 : ¬ x.op = 34 := by omega
          have b0 := hX.c 0 _ rfl
          clear hR5 hfm hd2 hfd hxr hfv hpv hlen hop hown
          go_wp2_with fail
          obtain ⟨wo, rfl⟩ : ∃ wo : World, wo = wr := ⟨_, rfl⟩
          go_loopw [31] (fun i wr => ∃ q : Nat, q ≤ lst.length ∧ i = .int .i64 (q : Int) ∧ Below wo.heap.size wo wr ∧ ∀ k, (h : k < lst.length) → k < q → lst[k] = intS) (fun i _ => lst.length - (intOf i).toNat)
          case atStart => exact ⟨0, Nat.zero_le _, rfl, Below.refl _ _, fun k _ h => by omega⟩
          case round =>
            obtain ⟨q, hq, rfl, hb6, hal⟩ := hrel
            have hb7 := bthen' hb3 hb6
            have v1 := (hV.nx hb6).c 1 _ rfl
            by_cases hend : q = lst.length
            · subst hend
              have hR7 : R = decide (d = intS) := by rw [hR6.out, all_upto fun q hq => hal q hq hq]
              clear hrow hal
              by_cases hde : d = intS
              · rw [← hdv.out, hde] at v1
                have hR8 : Hid (R = true) := Lib.hid (by rw [hR7, decide_eq_true hde])
                clear hR7 hde hR6
                go_wp2_with fail
                go_ret
                exact ⟨by rw [hR8.out]; rfl, hb7⟩
              · rw [← hdv.out] at v1
                have hR8 : Hid (R = false) := Lib.hid (by rw [hR7, decide_eq_false hde])
                have e9 := lit_f (l := [105, 110, 116]) hde
                clear hR7 hde hR6
                go_wp2_with fail
                go_ret
                exact ⟨by rw [hR8.out]; rfl, hb7⟩
            · have hlt : q < lst.length := by omega
              have hltI : (q : Int) < (lst.length : Int) := by omega
              obtain ⟨la, rfl, c0, -⟩ := hrow q lst[q] (by simp [hlt])
              rw [Nat.mul_one] at c0
              replace c0 := keepc hb6 c0
              by_cases hsa : lst[q] = intS
              · have hal2 : ∀ k, (h : k < lst.length) → k < q + 1 → lst[k] = intS := fun k h h2 => by
                  rcases Nat.lt_or_ge k q with h3 | h3
                  · exact hal k h h3
                  · obtain rfl : k = q := by omega
                    exact hsa
                have e9 := lit_t (l := [105, 110, 116]) hsa
                replace hal2 := Lib.hid hal2
                clear hrow hal hsa hR6
                generalize hss : lst[q] = s at *
                clear hss
                go_wp2_with fail
                go_roundw
                case rel => exact ⟨q + 1, by omega, by go_num, hb6, hal2.out⟩
                case measure => simp [intOf]; omega
              · have e9 := lit_f (l := [105, 110, 116]) hsa
                have hR8 : Hid (R = false) := Lib.hid (by rw [hR6.out, all_drop hlt hsa])
                clear hrow hal hsa hR6
                generalize hss : lst[q] = s at *
                clear hss
                go_wp2_with fail
                go_ret
                exact ⟨by rw [hR8.out]; rfl, hb7⟩
        · have hfd : fm.d = true := by rw [show fm = ⟨true, false, 2, 2⟩ from formOf_two hfm.out (by omega) (by omega)]
          have hdv : Hid (d = vT r) := Lib.hid (hd2.out hfd)
          have hR6 : Hid (R = allB lst floatS d floatS) := Lib.hid (hR5.out.trans (rq_15 hop))
          have d15 : decide (15 ≤ x.op) = true := decide_eq_true (by omega)
          have d15' : (15 ≤ x.op) := by omega
          have d21 : decide (x.op ≤ 21) = true := decide_eq_true (by omega)
          have d21' : (x.op ≤ 21) := by omega
          have d18 : decide (x.op ≤ 18) = true := decide_eq_true (by omega)
          have d18' : (x.op ≤ 18) := by omega
          have n22 : (x.op == 22) = false := beq_false_of_ne (by omega)
          have n23 : (x.op == 23) = false := beq_false_of_ne (by omega)
          have n24 : (x.op == 24) = false := beq_false_of_ne (by omega)
          have n25 : (x.op == 25) = false := beq_false_of_ne (by omega)
          have n26 : (x.op == 26) = false := beq_false_of_ne (by omega)
          have n27 : (x.op == 27) = false := beq_false_of_ne (by omega)
          have n28 : (x.op == 28) = false := beq_false_of_ne (by omega)
          have n29 : (x.op == 29) = false := beq_false_of_ne (by omega)
          have n30 : (x.op == 30) = false := beq_false_of_ne (by omega)
          have n31 : (x.op == 31) = false := beq_false_of_ne (by omega)
          have n32 : (x.op == 32) = false := beq_false_of_ne (by omega)
          have n33 : (x.op == 33) = false := beq_false_of_ne (by omega)
          have n34 : (x.op == 34) = false := beq_false_of_ne (by omega)
          have m22 : ¬ x.op = 22 := by omega
          have m23 : ¬ x.op = 23 := by omega
          have m24 : ¬ x.op = 24 := by omega
          have m25 : ¬ x.op = 25 := by omega
          have m26 : ¬ x.op = 26 := by omega
          have m27 : ¬ x.op = 27 := by omega
          have m28 : ¬ x.op = 28 := by omega
          have m29 : ¬ x.op = 29 := by omega
          have m30 : ¬ x.op = 30 := by omega
          have m31 : ¬ x.op = 31 := by omega
          have m32 : ¬ x.op = 32 := by omega
          have m33 : ¬ x.op = 33 := by omega
          have m34 : ¬ x.op = 34 := by omega
          have b0 := hX.c 0 _ rfl
          clear hR5 hfm hd2 hfd hxr hfv hpv hlen hop hown
          go_wp2_with fail
          obtain ⟨wo, rfl⟩ : ∃ wo : World, wo = wr := ⟨_, rfl⟩
          go_loopw [31] (fun i wr => ∃ q : Nat, q ≤ lst.length ∧ i = .int .i64 (q : Int) ∧ Below wo.heap.size wo wr ∧ ∀ k, (h : k < lst.length) → k < q → lst[k] = floatS) (fun i _ => lst.length - (intOf i).toNat)
          case atStart => exact ⟨0, Nat.zero_le _, rfl, Below.refl _ _, fun k _ h => by omega⟩
          case round =>
            obtain ⟨q, hq, rfl, hb6, hal⟩ := hrel
            have hb7 := bthen' hb3 hb6
            have v1 := (hV.nx hb6).c 1 _ rfl
            by_cases hend : q = lst.length
            · subst hend
              have hR7 : R = decide (d = floatS) := by rw [hR6.out, all_upto fun q hq => hal q hq hq]
              clear hrow hal
              by_cases hde : d = floatS
              · rw [← hdv.out, hde] at v1
                have hR8 : Hid (R = true) := Lib.hid (by rw [hR7, decide_eq_true hde])
                clear hR7 hde hR6
                go_wp2_with fail
                go_ret
                exact ⟨by rw [hR8.out]; rfl, hb7⟩
              · rw [← hdv.out] at v1
                have hR8 : Hid (R = false) := Lib.hid (by rw [hR7, decide_eq_false hde])
                have e9 := lit_f (l := [102, 108, 111, 97, 116]) hde
                clear hR7 hde hR6
                go_wp2_with fail
                go_ret
                exact ⟨by rw [hR8.out]; rfl, hb7⟩
            · have hlt : q < lst.length := by omega
              have hltI : (q : Int) < (lst.length : Int) := by omega
              obtain ⟨la, rfl, c0, -⟩ := hrow q lst[q] (by simp [hlt])
              rw [Nat.mul_one] at c0
              replace c0 := keepc hb6 c0
              by_cases hsa : lst[q] = floatS
              · have hal2 : ∀ k, (h : k < lst.length) → k < q + 1 → lst[k] = floatS := fun k h h2 => by
                  rcases Nat.lt_or_ge k q with h3 | h3
                  · exact hal k h h3
                  · obtain rfl : k = q := by omega
                    exact hsa
                have e9 := lit_t (l := [102, 108, 111, 97, 116]) hsa
                replace hal2 := Lib.hid hal2
                clear hrow hal hsa hR6
                generalize hss : lst[q] = s at *
                clear hss
                go_wp2_with fail
                go_roundw
                case rel => exact ⟨q + 1, by omega, by go_num, hb6, hal2.out⟩
                case measure => simp [intOf]; omega
              · have e9 := lit_f (l := [102, 108, 111, 97, 116]) hsa
                have hR8 : Hid (R = false) := Lib.hid (by rw [hR6.out, all_drop hlt hsa])
                clear hrow hal hsa hR6
                generalize hss : lst[q] = s at *
                clear hss
                go_wp2_with fail
                go_ret
                exact ⟨by rw [hR8.out]; rfl, hb7⟩
        · have hfd : fm.d = true := by rw [show fm = ⟨true, false, 2, 2⟩ from formOf_two hfm.out (by omega) (by omega)]
          have hdv : Hid (d = vT r) := Lib.hid (hd2.out hfd)
          have hR6 : Hid (R = allB lst floatS d intS) := Lib.hid (hR5.out.trans (rq_19 hop))
          have d15 : decide (15 ≤ x.op) = true := decide_eq_true (by omega)
          have d15' : (15 ≤ x.op) := by omega
          have d21 : decide (x.op ≤ 21) = true := decide_eq_true (by omega)
          have d21' : (x.op ≤ 21) := by omega
          have d18 : decide (x.op ≤ 18) = false := decide_eq_false (by omega)
          have d18' : ¬ (x.op ≤ 18) := by omega
          have n22 : (x.op == 22) = false := beq_false_of_ne (by omega)
          have n23 : (x.op == 23) = false := beq_false_of_ne (by omega)
          have n24 : (x.op == 24) = false := beq_false_of_ne (by omega)
          have n25 : (x.op == 25) = false := beq_false_of_ne (by omega)
          have n26 : (x.op == 26) = false := beq_false_of_ne (by omega)
          have n27 : (x.op == 27) = false := beq_false_of_ne (by omega)
          have n28 : (x.op == 28) = false := beq_false_of_ne (by omega)
          have n29 : (x.op == 29) = false := beq_false_of_ne (by omega)
          have n30 : (x.op == 30) = false := beq_false_of_ne (by omega)
          have n31 : (x.op == 31) = false := beq_false_of_ne (by omega)
          have n32 : (x.op == 32) = false := beq_false_of_ne (by omega)
          have n33 : (x.op == 33) = false := beq_false_of_ne (by omega)
          have n34 : (x.op == 34) = false := beq_false_of_ne (by omega)
          have m22 : ¬ x.op = 22 := by omega
          have m23 : ¬ x.op = 23 := by omega
          have m24 : ¬ x.op = 24 := by omega
          have m25 : ¬ x.op = 25 := by omega
          have m26 : ¬ x.op = 26 := by omega
          have m27 : ¬ x.op = 27 := by omega
          have m28 : ¬ x.op = 28 := by omega
          have m29 : ¬ x.op = 29 := by omega
          have m30 : ¬ x.op = 30 := by omega
          have m31 : ¬ x.op = 31 := by omega
          have m32 : ¬ x.op = 32 := by omega
          have m33 : ¬ x.op = 33 := by omega
          have m34 : ¬ x.op = 34 := by omega
          have b0 := hX.c 0 _ rfl
          clear hR5 hfm hd2 hfd hxr hfv hpv hlen hop hown
          go_wp2_with fail
          obtain ⟨wo, rfl⟩ : ∃ wo : World, wo = wr := ⟨_, rfl⟩
          go_loopw [31] (fun i wr => ∃ q : Nat, q ≤ lst.length ∧ i = .int .i64 (q : Int) ∧ Below wo.heap.size wo wr ∧ ∀ k, (h : k < lst.length) → k < q → lst[k] = floatS) (fun i _ => lst.length - (intOf i).toNat)
          case atStart => exact ⟨0, Nat.zero_le _, rfl, Below.refl _ _, fun k _ h => by omega⟩
          case round =>
            obtain ⟨q, hq, rfl, hb6, hal⟩ := hrel
            have hb7 := bthen' hb3 hb6
            have v1 := (hV.nx hb6).c 1 _ rfl
            by_cases hend : q = lst.length
            · subst hend
              have hR7 : R = decide (d = intS) := by rw [hR6.out, all_upto fun q hq => hal q hq hq]
              clear hrow hal
              by_cases hde : d = intS
              · rw [← hdv.out, hde] at v1
                have hR8 : Hid (R = true) := Lib.hid (by rw [hR7, decide_eq_true hde])
                clear hR7 hde hR6
                go_wp2_with fail
                go_ret
                exact ⟨by rw [hR8.out]; rfl, hb7⟩
              · rw [← hdv.out] at v1
                have hR8 : Hid (R = false) := Lib.hid (by rw [hR7, decide_eq_false hde])
                have e9 := lit_f (l := [105, 110, 116]) hde
                clear hR7 hde hR6
                go_wp2_with fail
                go_ret
                exact ⟨by rw [hR8.out]; rfl, hb7⟩
            · have hlt : q < lst.length := by omega
              have hltI : (q : Int) < (lst.length : Int) := by omega
              obtain ⟨la, rfl, c0, -⟩ := hrow q lst[q] (by simp [hlt])
              rw [Nat.mul_one] at c0
              replace c0 := keepc hb6 c0
              by_cases hsa : lst[q] = floatS
              · have hal2 : ∀ k, (h : k < lst.length) → k < q + 1 → lst[k] = floatS := fun k h h2 => by
                  rcases Nat.lt_or_ge k q with h3 | h3
                  · exact hal k h h3
                  · obtain rfl : k = q := by omega
                    exact hsa
                have e9 := lit_t (l := [102, 108, 111, 97, 116]) hsa
                replace hal2 := Lib.hid hal2
                clear hrow hal hsa hR6
                generalize hss : lst[q] = s at *
                clear hss
                go_wp2_with fail
                go_roundw
                case rel => exact ⟨q + 1, by omega, by go_num, hb6, hal2.out⟩
                case measure => simp [intOf]; omega
              · have e9 := lit_f (l := [102, 108, 111, 97, 116]) hsa
                have hR8 : Hid (R = false) := Lib.hid (by rw [hR6.out, all_drop hlt hsa])
                clear hrow hal hsa hR6
                generalize hss : lst[q] = s at *
                clear hss
                go_wp2_with fail
                go_ret
                exact ⟨by rw [hR8.out]; rfl, hb7⟩
        · have hfd : fm.d = true := by rw [show fm = ⟨true, false, 1, 1⟩ from formOf_lit hop hfm.out rfl]
          have hdv : Hid (d = vT r) := Lib.hid (hd2.out hfd)
          have hR6 : Hid (R = allB lst intS d floatS) := Lib.hid (hR5.out.trans (rq_22 hop))
          have b0 := hX.c 0 _ rfl
          rw [hop] at b0
          clear hR5 hfm hd2 hfd hxr hfv hpv hlen hop hown
          go_wp2_with fail
          obtain ⟨wo, rfl⟩ : ∃ wo : World, wo = wr := ⟨_, rfl⟩
          go_loopw [31] (fun i wr => ∃ q : Nat, q ≤ lst.length ∧ i = .int .i64 (q : Int) ∧ Below wo.heap.size wo wr ∧ ∀ k, (h : k < lst.length) → k < q → lst[k] = intS) (fun i _ => lst.length - (intOf i).toNat)
          case atStart => exact ⟨0, Nat.zero_le _, rfl, Below.refl _ _, fun k _ h => by omega⟩
          case round =>
            obtain ⟨q, hq, rfl, hb6, hal⟩ := hrel
            have hb7 := bthen' hb3 hb6
            have v1 := (hV.nx hb6).c 1 _ rfl
            by_cases hend : q = lst.length
            · subst hend
              have hR7 : R = decide (d = floatS) := by rw [hR6.out, all_upto fun q hq => hal q hq hq]
              clear hrow hal
              by_cases hde : d = floatS
              · rw [← hdv.out, hde] at v1
                have hR8 : Hid (R = true) := Lib.hid (by rw [hR7, decide_eq_true hde])
                clear hR7 hde hR6
                go_wp2_with fail
                go_ret
                exact ⟨by rw [hR8.out]; rfl, hb7⟩
              · rw [← hdv.out] at v1
                have hR8 : Hid (R = false) := Lib.hid (by rw [hR7, decide_eq_false hde])
                have e9 := lit_f (l := [102, 108, 111, 97, 116]) hde
                clear hR7 hde hR6
                go_wp2_with fail
                go_ret
                exact ⟨by rw [hR8.out]; rfl, hb7⟩
            · have hlt : q < lst.length := by omega
              have hltI : (q : Int) < (lst.length : Int) := by omega
              obtain ⟨la, rfl, c0, -⟩ := hrow q lst[q] (by simp [hlt])
              rw [Nat.mul_one] at c0
              replace c0 := keepc hb6 c0
              by_cases hsa : lst[q] = intS
              · have hal2 : ∀ k, (h : k < lst.length) → k < q + 1 → lst[k] = intS := fun k h h2 => by
                  rcases Nat.lt_or_ge k q with h3 | h3
                  · exact hal k h h3
                  · obtain rfl : k = q := by omega
                    exact hsa
                have e9 := lit_t (l := [105, 110, 116]) hsa
                replace hal2 := Lib.hid hal2
                clear hrow hal hsa hR6
                generalize hss : lst[q] = s at *
                clear hss
                go_wp2_with fail
                go_roundw
                case rel => exact ⟨q + 1, by omega, by go_num, hb6, hal2.out⟩
                case measure => simp [intOf]; omega
              · have e9 := lit_f (l := [105, 110, 116]) hsa
                have hR8 : Hid (R = false) := Lib.hid (by rw [hR6.out, all_drop hlt hsa])
                clear hrow hal hsa hR6
                generalize hss : lst[q] = s at *
                clear hss
                go_wp2_with fail
                go_ret
                exact ⟨by rw [hR8.out]; rfl, hb7⟩
        · have hfd : fm.d = true := by rw [show fm = ⟨true, false, 1, 1⟩ from formOf_lit hop hfm.out rfl]
          have hdv : Hid (d = vT r) := Lib.hid (hd2.out hfd)
          have hR6 : Hid (R = allB lst floatS d intS) := Lib.hid (hR5.out.trans (rq_23 hop))
          have b0 := hX.c 0 _ rfl
          rw [hop] at b0
          clear hR5 hfm hd2 hfd hxr hfv hpv hlen hop hown
          go_wp2_with fail
          obtain ⟨wo, rfl⟩ : ∃ wo : World, wo = wr := ⟨_, rfl⟩
          go_loopw [31] (fun i wr => ∃ q : Nat, q ≤ lst.length ∧ i = .int .i64 (q : Int) ∧ Below wo.heap.size wo wr ∧ ∀ k, (h : k < lst.length) → k < q → lst[k] = floatS) (fun i _ => lst.length - (intOf i).toNat)
          case atStart => exact ⟨0, Nat.zero_le _, rfl, Below.refl _ _, fun k _ h => by omega⟩
          case round =>
            obtain ⟨q, hq, rfl, hb6, hal⟩ := hrel
            have hb7 := bthen' hb3 hb6
            have v1 := (hV.nx hb6).c 1 _ rfl
            by_cases hend : q = lst.length
            · subst hend
              have hR7 : R = decide (d = intS) := by rw [hR6.out, all_upto fun q hq => hal q hq hq]
              clear hrow hal
              by_cases hde : d = intS
              · rw [← hdv.out, hde] at v1
                have hR8 : Hid (R = true) := Lib.hid (by rw [hR7, decide_eq_true hde])
                clear hR7 hde hR6
                go_wp2_with fail
                go_ret
                exact ⟨by rw [hR8.out]; rfl, hb7⟩
              · rw [← hdv.out] at v1
                have hR8 : Hid (R = false) := Lib.hid (by rw [hR7, decide_eq_false hde])
                have e9 := lit_f (l := [105, 110, 116]) hde
                clear hR7 hde hR6
                go_wp2_with fail
                go_ret
                exact ⟨by rw [hR8.out]; rfl, hb7⟩
            · have hlt : q < lst.length := by omega
              have hltI : (q : Int) < (lst.length : Int) := by omega
              obtain ⟨la, rfl, c0, -⟩ := hrow q lst[q] (by simp [hlt])
              rw [Nat.mul_one] at c0
              replace c0 := keepc hb6 c0
              by_cases hsa : lst[q] = floatS
              · have hal2 : ∀ k, (h : k < lst.length) → k < q + 1 → lst[k] = floatS := fun k h h2 => by
                  rcases Nat.lt_or_ge k q with h3 | h3
                  · exact hal k h h3
                  · obtain rfl : k = q := by omega
                    exact hsa
                have e9 := lit_t (l := [102, 108, 111, 97, 116]) hsa
                replace hal2 := Lib.hid hal2
                clear hrow hal hsa hR6
                generalize hss : lst[q] = s at *
                clear hss
                go_wp2_with fail
                go_roundw
                case rel => exact ⟨q + 1, by omega, by go_num, hb6, hal2.out⟩
                case measure => simp [intOf]; omega
              · have e9 := lit_f (l := [102, 108, 111, 97, 116]) hsa
                have hR8 : Hid (R = false) := Lib.hid (by rw [hR6.out, all_drop hlt hsa])
                clear hrow hal hsa hR6
                generalize hss : lst[q] = s at *
                clear hss
                go_wp2_with fail
                go_ret
                exact ⟨by rw [hR8.out]; rfl, hb7⟩
        · have hfe : fm = ⟨true, false, 1, 1⟩ := formOf_lit hop hfm.out rfl
          have hlen2 : lst.length = 1 := by have := hlen.out; have h9 := hll.out; rw [hfe] at this; dsimp only at this; omega
          have hdv : d = vT r := hd2.out (by rw [hfe])
          have b0 := hX.c 0 _ rfl
          rw [hop] at b0
          obtain ⟨s0, hs0⟩ : ∃ s, lst[0]? = some s := ⟨lst[0]'(by omega), List.getElem?_eq_getElem (by omega)⟩
          obtain ⟨la, rfl, c0, -⟩ := hrow 0 s0 hs0
          replace c0 : wr.cell? la = some (.string s0) := c0
          have hl0I : (0 : Int) < (lst.length : Int) := by omega
          have hl0N : 0 < lst.length := by omega
          have hRz : Hid (R = fitsB s0 (vT r)) := Lib.hid (by rw [hR5.out, rq_24 hop, hs0, hdv]; rfl)
          have v1 := hV.c 1 _ rfl
          have hF9 := fun v => rfits_val s0 (vT r) v
          clear hR5 hfm hd2 hxr hfv hpv hlen hop hown hfe hrow hs0 hdv hlen2
          generalize lst.length = nl at *
          generalize fitsB s0 (vT r) = kk at *
          have hdr := (Below.refl wr.heap.size wr).drew
          go_wp2_with fail
          refine wp_region_ser (S := fun _ v => Below wr.heap.size wr v) rfl (by kernel_rfl) hdr ?_
          iterate 7 (first | ((refine Ser.step (a1 := ?_) rfl (fun L w1 K' Q' hS hi hR hd hK => ?_) ?_ ?_; rotate_left); (· ((skip); go_simp; (try simp only [Act.put, List.setIfInBounds_toArray, List.set_cons_zero, List.set_cons_succ]); exact hK.out _ (hS))); (· rfl)) | ((refine Ser.step (a1 := ?_) rfl (fun L w1 K' Q' hS hi hR hd hK => ?_) ?_ ?_; rotate_left); (· ((replace c0 := keepc hS c0; replace v1 := keepc hS v1); go_simp; (try simp only [Act.put, List.setIfInBounds_toArray, List.set_cons_zero, List.set_cons_succ]); exact hK.out _ (hS))); (· rfl)) | ((refine Ser.step (a1 := ?_) rfl (fun L w1 K' Q' hS hi hR hd hK => ?_) ?_ ?_; rotate_left); (· (go_simp; go_wp2_with ((refine (hF9 _).mono ?_; rintro e w2 ⟨rfl, rfl⟩)); (try simp only [Act.put, List.setIfInBounds_toArray, List.set_cons_zero, List.set_cons_succ]); exact hK.out _ (hS))); (· rfl)))
          refine Ser.nil fun w4 hS4 => ?_
          have hb5 := bthen' hb3 hS4
          clear c0 v1 hdr hF9
          go_wp2_with fail
          go_ret
          exact ⟨by rw [hRz.out]; rfl, hb5⟩
        · have hfe : fm = ⟨true, true, 0, 8⟩ := formOf_lit hop hfm.out rfl
          have hlen2 : lst.length ≤ 8 := by have := hlen.out; have h9 := hll.out; rw [hfe] at this; dsimp only at this; omega
          have hdv : d = vT r := hd2.out (by rw [hfe])
          have b0 := hX.c 0 _ rfl
          rw [hop] at b0
          have hRm : R = madeB p x d lst := hR5.out.trans (rq_25 hop)
          unfold madeB at hRm
          have hCl := rlookC_val (bthen' h0 hb3) hpv x.n
          have b2 := hX.c 2 _ rfl
          have q0 := hP.c 0 _ rfl
          have q1 := hP.c 1 _ rfl
          have q2 := hP.c 2 _ rfl
          have q3 := hP.c 3 _ rfl
          have q4 := hP.c 4 _ rfl
          clear hR5 hfm hd2 hxr hfv hlen hop hown hfe hrow
          go_wp2_with fail
          refine hCl.mono ?_
          rintro e w5 ⟨hd, ho⟩
          have hb5 := bthen' hb3 hd
          clear q0 q1 q2 q3 q4 hCl
          cases hcl : findB Cl.n x.n p.cs with
          | none =>
            rw [hcl] at hRm ho
            obtain rfl : e = _ := ho
            have hRz : Hid (R = false) := Lib.hid hRm
            have hb6 := hb5.alloc hb5.size (.cells #[.string ⟨#[]⟩, .slice none 0 0] 67)
            clear hRm hcl hP hX hV hlr
            go_wp2_with fail
            go_ret
            exact ⟨by rw [hRz.out]; rfl, hb6⟩
          | some c =>
            rw [hcl] at hRm ho
            obtain ⟨v, u, rfl, hvc⟩ := ho
            have hcn := findB_name hcl
            replace hRm : R = (decide (d = c.n) && (decide (lst.length = 0) || fitB lst c.fs)) := hRm
            rw [hcn, hdv] at hRm
            replace hRm := Lib.hid hRm
            clear hcn hdv hcl
            have e7 := hvc.e
            subst e7
            obtain ⟨q7, c7, rfl⟩ := hvc.f.slice
            have hb6 := hb5.alloc hb5.size (.cells #[.string c.n, .slice q7 c.fs.length c7] 67)
            have hK := Box.alloc w5 [.string c.n, .slice q7 c.fs.length c7] 67
            have hVa := (hV.nx hd).al (.cells #[.string c.n, .slice q7 c.fs.length c7] 67)
            have hXa := (hX.nx hd).al (.cells #[.string c.n, .slice q7 c.fs.length c7] 67)
            have hda := hd.alloc hd.size (.cells #[.string c.n, .slice q7 c.fs.length c7] 67)
            have b2' := (hX.nx hd).c 2 _ rfl
            go_upto_region 24 with fail
            clear b2'
            generalize (w5.alloc (.cells #[.string c.n, .slice q7 c.fs.length c7] 67)) = W5 at *
            have hEa := each_val (bthen' hda (Below.refl _ _)) (bthen' h0 hb6) hlr hvc.f
            have v1 := hVa.c 1 _ rfl
            have b2' := hXa.c 2 _ rfl
            have k1 := hK.c 1 _ rfl
            replace hRm := hRm.out
            clear hvc hlr hb5 hP hX hV hpv hda hd b2
            by_cases hne : vT r = x.n
            · have e9 := seq_t hne
              rw [decide_eq_true hne, Bool.true_and] at hRm
              by_cases hl0 : lst.length = 0
              · have hRz : Hid (R = true) := Lib.hid (by rw [hRm, decide_eq_true hl0]; rfl)
                have hl2 : ((lst.length : Int) == 0) = true := by simpa using hl0
                have hl3 : lst = [] := List.length_eq_zero_iff.1 hl0
                clear hRm hEa hne hl0
                go_wp2_with fail
                go_ret
                exact ⟨by rw [hRz.out]; rfl, hb6⟩
              · rw [decide_eq_false hl0, Bool.false_or] at hRm
                have hl2 : ((lst.length : Int) == 0) = false := by simpa using hl0
                have hl3 : ¬ lst = [] := fun h => hl0 (by rw [h]; rfl)
                replace hRm := Lib.hid hRm
                clear hne
                go_wp2_with fail
                refine hEa.mono ?_
                rintro e w6 ⟨rfl, hd⟩
                have hb7 := bthen' hb6 hd
                clear hEa
                go_wp2_with fail
                go_ret
                exact ⟨by rw [hRm.out]; rfl, hb7⟩
            · have e9 := seq_f hne
              have hRz : Hid (R = false) := Lib.hid (by rw [hRm, decide_eq_false hne]; rfl)
              clear hRm hEa hne
              go_wp2_with fail
              go_ret
              exact ⟨by rw [hRz.out]; rfl, hb6⟩
        · have hfe : fm = ⟨true, true, 1, 1⟩ := formOf_lit hop hfm.out rfl
          have hlen2 : lst.length = 1 := by have := hlen.out; have h9 := hll.out; rw [hfe] at this; dsimp only at this; omega
          have hdv : d = vT r := hd2.out (by rw [hfe])
          have b0 := hX.c 0 _ rfl
          rw [hop] at b0
          obtain ⟨s0, hs0⟩ : ∃ s, lst[0]? = some s := ⟨lst[0]'(by omega), List.getElem?_eq_getElem (by omega)⟩
          obtain ⟨la, rfl, c0, -⟩ := hrow 0 s0 hs0
          replace c0 : wr.cell? la = some (.string s0) := c0
          have hl0I : (0 : Int) < (lst.length : Int) := by omega
          have hl0N : 0 < lst.length := by omega
          obtain ⟨a0, ha0⟩ : ∃ g, x.as[0]? = some g := ⟨x.as[0]'(by have := hll.out; omega), List.getElem?_eq_getElem (by have := hll.out; omega)⟩
          obtain ⟨ia', hia', e0, -, -⟩ := hxr 0 a0 ha0
          subst hia'
          replace e0 : w0.cell? ia' = some (.int .i64 a0.k) := e0
          replace e0 := keepc (bthen' h0 hb3) e0
          have hFl := fun W (hW : Below wr.heap.size wr W) => rfld_val (bthen' h0 (bthen' hb3 hW)) hpv s0 x.n
          have hx0 : x.as[0]?.getD ag0 = a0 := by rw [ha0]; rfl
          have hl9I : (0 : Int) < (x.as.length : Int) := by have := hll.out; omega
          have hl9N : 0 < x.as.length := by omega
          have b2 := hX.c 2 _ rfl
          have b3 := hX.c 3 _ rfl
          have v1 := hV.c 1 _ rfl
          have hRq : R = typB (vT r) (if a0.k = 1 then fieldOf p s0 x.n else none) := by rw [hR5.out, rq_26 hop, hs0, hx0, hdv]; rfl
          replace hRq := Lib.hid hRq
          obtain ⟨fr, hfr⟩ : ∃ fr, Hid (fieldOf p s0 x.n = fr) := ⟨_, Lib.hid rfl⟩
          have hRq2 : Hid (R = typB (vT r) (if a0.k = 1 then fr else none)) := Lib.hid (by rw [hRq.out, hfr.out])
          clear hR5 hfm hd2 hxr hfv hlen hop hown hfe hrow hlr hx0 ha0 hRq hs0 hdv hlen2 hll
          generalize lst.length = nl at *
          have hdr := (Below.refl wr.heap.size wr).drew
          go_wp2_with fail
          refine wp_region_serF (S := SBox wr 10 11 [.string ⟨#[]⟩, .string ⟨#[]⟩] [.string (vN fr), .string (vT fr)]) rfl (by kernel_rfl) (SBox.start hdr) ?_
          ((refine SerF.step (a1 := ?_) (fun _ => rfl) (fun V L w1 K' Q' hS hi hR hd hK => ?_) ?_ ?_ ?_; rotate_left); (· ((have hB := hP.nx hS.1; have q0 := hB.c 0 _ rfl; have q1 := hB.c 1 _ rfl; have q2 := hB.c 2 _ rfl; have q3 := hB.c 3 _ rfl; have q4 := hB.c 4 _ rfl); go_simp; (try simp only [Act.put, List.setIfInBounds_toArray, List.set_cons_zero, List.set_cons_succ]); exact hK.out _ (hS.keep rfl rfl))); (· (intro V; rfl)); (· (exact fun _ _ _ _ _ _ => rfl)))
          iterate 2 (((refine SerF.step (a1 := ?_) (fun _ => rfl) (fun V L w1 K' Q' hS hi hR hd hK => ?_) ?_ ?_ ?_; rotate_left); (· ((skip); go_simp; (try simp only [Act.put, List.setIfInBounds_toArray, List.set_cons_zero, List.set_cons_succ]); exact hK.out _ (hS.keep rfl rfl))); (· (intro V; rfl)); (· (exact fun _ _ _ _ _ _ => rfl))))
          ((refine SerF.step (a1 := ?_) (fun _ => rfl) (fun V L w1 K' Q' hS hi hR hd hK => ?_) ?_ ?_ ?_; rotate_left); (· ((replace c0 := keepc hS.1 c0); go_simp; (try simp only [Act.put, List.setIfInBounds_toArray, List.set_cons_zero, List.set_cons_succ]); exact hK.out _ (hS.keep rfl rfl))); (· (intro V; rfl)); (· (exact fun _ _ _ _ _ _ => rfl)))
          ((refine SerF.step (a1 := ?_) (fun _ => rfl) (fun V L w1 K' Q' hS hi hR hd hK => ?_) ?_ ?_ ?_; rotate_left); (· ((skip); go_simp; (try simp only [Act.put, List.setIfInBounds_toArray, List.set_cons_zero, List.set_cons_succ]); exact hK.out _ (hS.keep rfl rfl))); (· (intro V; rfl)); (· (exact fun _ _ _ _ _ _ => rfl)))
          ((refine SerF.step (a1 := ?_) (fun _ => rfl) (fun V L w1 K' Q' hS hi hR hd hK => ?_) ?_ ?_ ?_; rotate_left); (· ((replace b2 := keepc hS.1 b2); go_simp; (try simp only [Act.put, List.setIfInBounds_toArray, List.set_cons_zero, List.set_cons_succ]); exact hK.out _ (hS.keep rfl rfl))); (· (intro V; rfl)); (· (exact fun _ _ _ _ _ _ => rfl)))
          ((refine SerF.step (a1 := ?_) (fun _ => rfl) (fun V L w1 K' Q' hS hi hR hd hK => ?_) ?_ ?_ ?_; rotate_left); (· (go_simp; go_wp2_with ((go_at_call 22; refine (hFl _ hS.1).mono ?_; rintro e w2 ⟨hb, ho⟩; replace ho := ho.eq; rw [hfr.out] at ho; subst ho)); (try simp only [Act.put, List.setIfInBounds_toArray, List.set_cons_zero, List.set_cons_succ]); exact hK.out _ (hS.call hb rfl rfl))); (· (intro V; rfl)); (· (exact fun _ _ _ _ _ _ => rfl)))
          iterate 3 (((refine SerF.step (a1 := ?_) (fun _ => rfl) (fun V L w1 K' Q' hS hi hR hd hK => ?_) ?_ ?_ ?_; rotate_left); (· ((skip); go_simp; (try simp only [Act.put, List.setIfInBounds_toArray, List.set_cons_zero, List.set_cons_succ]); exact hK.out _ (hS.keep rfl rfl))); (· (intro V; rfl)); (· (exact fun _ _ _ _ _ _ => rfl))))
          (refine SerF.free (fun _ => rfl) (fun V L w1 K' Q' hS hi hR hd hK => ?_) ?_; (· (go_simp; (try simp only [Act.put, List.setIfInBounds_toArray, List.set_cons_zero, List.set_cons_succ]); exact hK.out _ _ rfl (hS.made rfl hi _))); (try simp only [Act.put, List.setIfInBounds_toArray, List.set_cons_zero, List.set_cons_succ]))
          refine SerF.val undef (fun _ => rfl) (fun V L w1 K' Q' hS hi hR' hd hK => ?_) ?_
          · have hl := hd.out 10 (by kernel_rfl)
            obtain ⟨pb, hp, hp0, hp1, hx⟩ := hS.at hl hi
            have k0 := hx.c 0 _ rfl
            have k1 := hx.c 1 _ rfl
            have f0 := hx.f 0 (by decide)
            have f1 := hx.f 1 (by decide)
            go_simp
            refine hK.out _ _ (by simp only [hp]; rfl) (hS.fill hl hp hp0 (by simpa using hp1) ((hS.1.setCell hp0 _).setCell hp0 _) ((hx.set (i := 0) (by simp) _).set (i := 1) (by simp) _) rfl)
          simp only [Act.put]
          ((refine SerF.step (a1 := ?_) (fun _ => rfl) (fun V L w1 K' Q' hS hi hR hd hK => ?_) ?_ ?_ ?_; rotate_left); (· ((skip); go_simp; (try simp only [Act.put, List.setIfInBounds_toArray, List.set_cons_zero, List.set_cons_succ]); exact hK.out _ (hS.keep rfl rfl))); (· (intro V; rfl)); (· (exact fun _ _ _ _ _ _ => rfl)))
          refine SerF.nil fun V w5 hS => ?_
          obtain ⟨pb, hp, hp0, hp1, hD⟩ := hS.done rfl rfl
          have hbx := hS.1
          simp only [hp]
          clear hS hp hFl hdr
          have hb5 := bthen' hb3 hbx
          have d1 := hD.c 1 _ rfl
          replace c0 := keepc hbx c0
          replace b3 := keepc hbx b3
          replace e0 := keepc hbx e0
          replace v1 := keepc hbx v1
          clear b2 hb3
          by_cases hk1 : a0.k = 1
          · have hk2 : (a0.k == 1) = true := by simpa using hk1
            have hRq3 : R = typB (vT r) fr := by rw [hRq2.out, if_pos hk1]
            rw [hk1] at e0
            clear hk1 hRq2
            cases fr with
            | none =>
              have hRz : Hid (R = false) := Lib.hid hRq3
              clear hRq3
              go_wp2_with fail
              go_ret
              exact ⟨by rw [hRz.out]; rfl, hb5⟩
            | some c =>
              replace hRq3 : R = decide (c.t = vT r) := hRq3
              replace d1 : w5.cell? ⟨pb, 1, none⟩ = some (.string c.t) := d1
              by_cases ht : c.t = vT r
              · have hRz : Hid (R = true) := Lib.hid (by rw [hRq3, decide_eq_true ht])
                have e9 := seq_t ht
                clear hRq3 ht
                go_wp2_with fail
                go_ret
                exact ⟨by rw [hRz.out]; rfl, hb5⟩
              · have hRz : Hid (R = false) := Lib.hid (by rw [hRq3, decide_eq_false ht])
                have e9 := seq_f ht
                clear hRq3 ht
                go_wp2_with fail
                go_ret
                exact ⟨by rw [hRz.out]; rfl, hb5⟩
          · have hk2 : (a0.k == 1) = false := by simpa using hk1
            have hRz : Hid (R = false) := Lib.hid (by rw [hRq2.out, if_neg hk1]; rfl)
            clear hRq2
            go_wp2_with fail
            go_ret
            exact ⟨by rw [hRz.out]; rfl, hb5⟩
        · have hfe : fm = ⟨false, true, 2, 2⟩ := formOf_lit hop hfm.out rfl
          have hlen2 : lst.length = 2 := by have := hlen.out; have h9 := hll.out; rw [hfe] at this; dsimp only at this; omega
          have b0 := hX.c 0 _ rfl
          rw [hop] at b0
          obtain ⟨s0, hs0⟩ : ∃ s, lst[0]? = some s := ⟨lst[0]'(by omega), List.getElem?_eq_getElem (by omega)⟩
          obtain ⟨la, rfl, c0, -⟩ := hrow 0 s0 hs0
          replace c0 : wr.cell? la = some (.string s0) := c0
          obtain ⟨s1, hs1⟩ : ∃ s, lst[1]? = some s := ⟨lst[1]'(by omega), List.getElem?_eq_getElem (by omega)⟩
          obtain ⟨la', hla', c1, -⟩ := hrow 1 s1 hs1
          obtain rfl : la = la' := by simpa using hla'
          replace c1 : wr.cell? ⟨la.block, la.off + 1, none⟩ = some (.string s1) := c1
          have hl0I : (0 : Int) < (lst.length : Int) := by omega
          have hl0N : 0 < lst.length := by omega
          have hl1I : (1 : Int) < (lst.length : Int) := by omega
          have hl1N : 1 < lst.length := by omega
          obtain ⟨a0, ha0⟩ : ∃ g, x.as[0]? = some g := ⟨x.as[0]'(by have := hll.out; omega), List.getElem?_eq_getElem (by have := hll.out; omega)⟩
          obtain ⟨ia', hia', e0, -, -⟩ := hxr 0 a0 ha0
          subst hia'
          replace e0 : w0.cell? ia' = some (.int .i64 a0.k) := e0
          replace e0 := keepc (bthen' h0 hb3) e0
          have hFl := fun W (hW : Below wr.heap.size wr W) => rfld_val (bthen' h0 (bthen' hb3 hW)) hpv s0 x.n
          have hx0 : x.as[0]?.getD ag0 = a0 := by rw [ha0]; rfl
          have hl9I : (0 : Int) < (x.as.length : Int) := by have := hll.out; omega
          have hl9N : 0 < x.as.length := by omega
          have b2 := hX.c 2 _ rfl
          have b3 := hX.c 3 _ rfl
          have v1 := hV.c 1 _ rfl
          have hRq : R = putB s1 (if a0.k = 1 then fieldOf p s0 x.n else none) := by rw [hR5.out, rq_27 hop, hs0, hs1, hx0]; rfl
          replace hRq := Lib.hid hRq
          obtain ⟨fr, hfr⟩ : ∃ fr, Hid (fieldOf p s0 x.n = fr) := ⟨_, Lib.hid rfl⟩
          have hRq2 : Hid (R = putB s1 (if a0.k = 1 then fr else none)) := Lib.hid (by rw [hRq.out, hfr.out])
          clear hR5 hfm hd2 hxr hfv hlen hop hown hfe hrow hlr hx0 ha0 hRq hs0 hs1 hlen2 hll
          generalize lst.length = nl at *
          have hdr := (Below.refl wr.heap.size wr).drew
          go_wp2_with fail
          refine wp_region_serF (S := SBox wr 10 11 [.string ⟨#[]⟩, .string ⟨#[]⟩] [.string (vN fr), .string (vT fr)]) rfl (by kernel_rfl) (SBox.start hdr) ?_
          ((refine SerF.step (a1 := ?_) (fun _ => rfl) (fun V L w1 K' Q' hS hi hR hd hK => ?_) ?_ ?_ ?_; rotate_left); (· ((have hB := hP.nx hS.1; have q0 := hB.c 0 _ rfl; have q1 := hB.c 1 _ rfl; have q2 := hB.c 2 _ rfl; have q3 := hB.c 3 _ rfl; have q4 := hB.c 4 _ rfl); go_simp; (try simp only [Act.put, List.setIfInBounds_toArray, List.set_cons_zero, List.set_cons_succ]); exact hK.out _ (hS.keep rfl rfl))); (· (intro V; rfl)); (· (exact fun _ _ _ _ _ _ => rfl)))
          iterate 2 (((refine SerF.step (a1 := ?_) (fun _ => rfl) (fun V L w1 K' Q' hS hi hR hd hK => ?_) ?_ ?_ ?_; rotate_left); (· ((skip); go_simp; (try simp only [Act.put, List.setIfInBounds_toArray, List.set_cons_zero, List.set_cons_succ]); exact hK.out _ (hS.keep rfl rfl))); (· (intro V; rfl)); (· (exact fun _ _ _ _ _ _ => rfl))))
          ((refine SerF.step (a1 := ?_) (fun _ => rfl) (fun V L w1 K' Q' hS hi hR hd hK => ?_) ?_ ?_ ?_; rotate_left); (· ((replace c0 := keepc hS.1 c0); go_simp; (try simp only [Act.put, List.setIfInBounds_toArray, List.set_cons_zero, List.set_cons_succ]); exact hK.out _ (hS.keep rfl rfl))); (· (intro V; rfl)); (· (exact fun _ _ _ _ _ _ => rfl)))
          ((refine SerF.step (a1 := ?_) (fun _ => rfl) (fun V L w1 K' Q' hS hi hR hd hK => ?_) ?_ ?_ ?_; rotate_left); (· ((skip); go_simp; (try simp only [Act.put, List.setIfInBounds_toArray, List.set_cons_zero, List.set_cons_succ]); exact hK.out _ (hS.keep rfl rfl))); (· (intro V; rfl)); (· (exact fun _ _ _ _ _ _ => rfl)))
          ((refine SerF.step (a1 := ?_) (fun _ => rfl) (fun V L w1 K' Q' hS hi hR hd hK => ?_) ?_ ?_ ?_; rotate_left); (· ((replace b2 := keepc hS.1 b2); go_simp; (try simp only [Act.put, List.setIfInBounds_toArray, List.set_cons_zero, List.set_cons_succ]); exact hK.out _ (hS.keep rfl rfl))); (· (intro V; rfl)); (· (exact fun _ _ _ _ _ _ => rfl)))
          ((refine SerF.step (a1 := ?_) (fun _ => rfl) (fun V L w1 K' Q' hS hi hR hd hK => ?_) ?_ ?_ ?_; rotate_left); (· (go_simp; go_wp2_with ((go_at_call 22; refine (hFl _ hS.1).mono ?_; rintro e w2 ⟨hb, ho⟩; replace ho := ho.eq; rw [hfr.out] at ho; subst ho)); (try simp only [Act.put, List.setIfInBounds_toArray, List.set_cons_zero, List.set_cons_succ]); exact hK.out _ (hS.call hb rfl rfl))); (· (intro V; rfl)); (· (exact fun _ _ _ _ _ _ => rfl)))
          iterate 3 (((refine SerF.step (a1 := ?_) (fun _ => rfl) (fun V L w1 K' Q' hS hi hR hd hK => ?_) ?_ ?_ ?_; rotate_left); (· ((skip); go_simp; (try simp only [Act.put, List.setIfInBounds_toArray, List.set_cons_zero, List.set_cons_succ]); exact hK.out _ (hS.keep rfl rfl))); (· (intro V; rfl)); (· (exact fun _ _ _ _ _ _ => rfl))))
          (refine SerF.free (fun _ => rfl) (fun V L w1 K' Q' hS hi hR hd hK => ?_) ?_; (· (go_simp; (try simp only [Act.put, List.setIfInBounds_toArray, List.set_cons_zero, List.set_cons_succ]); exact hK.out _ _ rfl (hS.made rfl hi _))); (try simp only [Act.put, List.setIfInBounds_toArray, List.set_cons_zero, List.set_cons_succ]))
          refine SerF.val undef (fun _ => rfl) (fun V L w1 K' Q' hS hi hR' hd hK => ?_) ?_
          · have hl := hd.out 10 (by kernel_rfl)
            obtain ⟨pb, hp, hp0, hp1, hx⟩ := hS.at hl hi
            have k0 := hx.c 0 _ rfl
            have k1 := hx.c 1 _ rfl
            have f0 := hx.f 0 (by decide)
            have f1 := hx.f 1 (by decide)
            go_simp
            refine hK.out _ _ (by simp only [hp]; rfl) (hS.fill hl hp hp0 (by simpa using hp1) ((hS.1.setCell hp0 _).setCell hp0 _) ((hx.set (i := 0) (by simp) _).set (i := 1) (by simp) _) rfl)
          simp only [Act.put]
          ((refine SerF.step (a1 := ?_) (fun _ => rfl) (fun V L w1 K' Q' hS hi hR hd hK => ?_) ?_ ?_ ?_; rotate_left); (· ((skip); go_simp; (try simp only [Act.put, List.setIfInBounds_toArray, List.set_cons_zero, List.set_cons_succ]); exact hK.out _ (hS.keep rfl rfl))); (· (intro V; rfl)); (· (exact fun _ _ _ _ _ _ => rfl)))
          refine SerF.nil fun V w5 hS => ?_
          obtain ⟨pb, hp, hp0, hp1, hD⟩ := hS.done rfl rfl
          have hbx := hS.1
          simp only [hp]
          clear hS hp hFl hdr
          have hb5 := bthen' hb3 hbx
          have d1 := hD.c 1 _ rfl
          replace c0 := keepc hbx c0
          replace b3 := keepc hbx b3
          replace e0 := keepc hbx e0
          replace v1 := keepc hbx v1
          clear b2 hb3
          replace c1 := keepc hbx c1
          have hdr := (Below.refl w5.heap.size w5).drew
          by_cases hk1 : a0.k = 1
          · have hk2 : (a0.k == 1) = true := by simpa using hk1
            have hRq3 : R = putB s1 fr := by rw [hRq2.out, if_pos hk1]
            rw [hk1] at e0
            clear hk1 hRq2
            cases fr with
            | none =>
              have hRz : Hid (R = false) := Lib.hid hRq3
              clear hRq3
              go_wp2_with fail
              refine wp_region_ser (S := fun _ v => Below w5.heap.size w5 v) rfl (by kernel_rfl) hdr ?_
              iterate 18 (first | (refine Ser.skip rfl (fun L w1 hS hi => (hS)) ?_; (try simp only [Act.put, List.setIfInBounds_toArray, List.set_cons_zero, List.set_cons_succ])) | ((refine Ser.step (a1 := ?_) rfl (fun L w1 K' Q' hS hi hR hd hK => ?_) ?_ ?_; rotate_left); (· ((replace b3 := keepc hS b3; replace e0 := keepc hS e0); go_simp; (try simp only [Act.put, List.setIfInBounds_toArray, List.set_cons_zero, List.set_cons_succ]); exact hK.out _ (hS))); (· rfl)))
              refine Ser.nil fun w6 hS6 => ?_
              have hb7 := bthen' hb5 hS6
              clear hdr b3 e0
              go_wp2_with fail
              go_ret
              exact ⟨by rw [hRz.out]; rfl, hb7⟩
            | some c =>
              replace hRq3 : R = fitsB s1 c.t := hRq3
              replace d1 : w5.cell? ⟨pb, 1, none⟩ = some (.string c.t) := d1
              have hF9 := fun v => rfits_val s1 c.t v
              replace hRq3 := Lib.hid hRq3
              generalize fitsB s1 c.t = kk at *
              go_wp2_with fail
              refine wp_region_ser (S := fun _ v => Below w5.heap.size w5 v) rfl (by kernel_rfl) hdr ?_
              iterate 18 (first | ((refine Ser.step (a1 := ?_) rfl (fun L w1 K' Q' hS hi hR hd hK => ?_) ?_ ?_; rotate_left); (· ((skip); go_simp; (try simp only [Act.put, List.setIfInBounds_toArray, List.set_cons_zero, List.set_cons_succ]); exact hK.out _ (hS))); (· rfl)) | ((refine Ser.step (a1 := ?_) rfl (fun L w1 K' Q' hS hi hR hd hK => ?_) ?_ ?_; rotate_left); (· ((replace b3 := keepc hS b3; replace e0 := keepc hS e0; replace d1 := keepc hS d1; replace c1 := keepc hS c1); go_simp; (try simp only [Act.put, List.setIfInBounds_toArray, List.set_cons_zero, List.set_cons_succ]); exact hK.out _ (hS))); (· rfl)) | ((refine Ser.step (a1 := ?_) rfl (fun L w1 K' Q' hS hi hR hd hK => ?_) ?_ ?_; rotate_left); (· (go_simp; go_wp2_with ((refine (hF9 _).mono ?_; rintro e w2 ⟨rfl, rfl⟩)); (try simp only [Act.put, List.setIfInBounds_toArray, List.set_cons_zero, List.set_cons_succ]); exact hK.out _ (hS))); (· rfl)))
              refine Ser.nil fun w6 hS6 => ?_
              have hb7 := bthen' hb5 hS6
              clear hdr b3 e0 d1 c1 hF9
              go_wp2_with fail
              go_ret
              exact ⟨by rw [hRq3.out]; rfl, hb7⟩
          · have hk2 : (a0.k == 1) = false := by simpa using hk1
            have hRz : Hid (R = false) := Lib.hid (by rw [hRq2.out, if_neg hk1]; rfl)
            clear hRq2
            go_wp2_with fail
            refine wp_region_ser (S := fun _ v => Below w5.heap.size w5 v) rfl (by kernel_rfl) hdr ?_
            iterate 18 (first | (refine Ser.skip rfl (fun L w1 hS hi => (hS)) ?_; (try simp only [Act.put, List.setIfInBounds_toArray, List.set_cons_zero, List.set_cons_succ])) | ((refine Ser.step (a1 := ?_) rfl (fun L w1 K' Q' hS hi hR hd hK => ?_) ?_ ?_; rotate_left); (· ((replace b3 := keepc hS b3; replace e0 := keepc hS e0); go_simp; (try simp only [Act.put, List.setIfInBounds_toArray, List.set_cons_zero, List.set_cons_succ]); exact hK.out _ (hS))); (· rfl)))
            refine Ser.nil fun w6 hS6 => ?_
            have hb7 := bthen' hb5 hS6
            clear hdr b3 e0
            go_wp2_with fail
            go_ret
            exact ⟨by rw [hRz.out]; rfl, hb7⟩
        · have hfe : fm = ⟨true, false, 2, 2⟩ := formOf_lit hop hfm.out rfl
          have hlen2 : lst.length = 2 := by have := hlen.out; have h9 := hll.out; rw [hfe] at this; dsimp only at this; omega
          have hdv : d = vT r := hd2.out (by rw [hfe])
          have b0 := hX.c 0 _ rfl
          rw [hop] at b0
          obtain ⟨s0, hs0⟩ : ∃ s, lst[0]? = some s := ⟨lst[0]'(by omega), List.getElem?_eq_getElem (by omega)⟩
          obtain ⟨la, rfl, c0, -⟩ := hrow 0 s0 hs0
          replace c0 : wr.cell? la = some (.string s0) := c0
          obtain ⟨s1, hs1⟩ : ∃ s, lst[1]? = some s := ⟨lst[1]'(by omega), List.getElem?_eq_getElem (by omega)⟩
          obtain ⟨la', hla', c1, -⟩ := hrow 1 s1 hs1
          obtain rfl : la = la' := by simpa using hla'
          replace c1 : wr.cell? ⟨la.block, la.off + 1, none⟩ = some (.string s1) := c1
          have hl0I : (0 : Int) < (lst.length : Int) := by omega
          have hl0N : 0 < lst.length := by omega
          have hl1I : (1 : Int) < (lst.length : Int) := by omega
          have hl1N : 1 < lst.length := by omega
          have hRq : R = (decide (vT r = intS) && (isRf s0 && (isRf s1 && (decide (s0 = s1) || (decide (s0 = nullS) || decide (s1 = nullS)))))) := by rw [hR5.out, rq_28 hop, hs0, hs1, hdv]; rfl
          replace hRq := Lib.hid hRq
          have v1 := hV.c 1 _ rfl
          have hG0 := fun v => rref_val s0 v
          have hG1 := fun v => rref_val s1 v
          have hdr := (Below.refl wr.heap.size wr).drew
          clear hR5 hfm hd2 hxr hfv hpv hlen hop hown hfe hrow hlr hs0 hs1 hdv hlen2 hll hP hX hV
          generalize lst.length = nl at *
          obtain ⟨kd, ed⟩ : ∃ k : Bool, k = decide (vT r = intS) := ⟨_, rfl⟩
          obtain ⟨ke, ee⟩ : ∃ k : Bool, k = decide (s0 = s1) := ⟨_, rfl⟩
          obtain ⟨z0, ez0⟩ : ∃ k : Bool, k = decide (s0 = nullS) := ⟨_, rfl⟩
          obtain ⟨z1, ez1⟩ : ∃ k : Bool, k = decide (s1 = nullS) := ⟨_, rfl⟩
          rw [← ed, ← ee, ← ez0, ← ez1] at hRq
          have ed' : ((vT r).toList == [105, 110, 116]) = kd := by rw [ed]; exact lit_b
          have ee' : (s0.toList == s1.toList) = ke := by rw [ee]; exact seq_b
          have ez0' : (s0.toList == [110, 117, 108, 108]) = z0 := by rw [ez0]; exact lit_b
          have ez1' : (s1.toList == [110, 117, 108, 108]) = z1 := by rw [ez1]; exact lit_b
          clear ed ee ez0 ez1
          generalize isRf s0 = k0 at *
          generalize isRf s1 = k1 at *
          have hcase : (kd = false) ∨ (kd = true ∧ k0 = false) ∨ (kd = true ∧ k0 = true ∧ k1 = false) ∨ (kd = true ∧ k0 = true ∧ k1 = true ∧ ke = true) ∨ (kd = true ∧ k0 = true ∧ k1 = true ∧ ke = false ∧ z0 = true) ∨ (kd = true ∧ k0 = true ∧ k1 = true ∧ ke = false ∧ z0 = false) := by
            cases kd <;> cases k0 <;> cases k1 <;> cases ke <;> cases z0 <;> simp
          rcases hcase with rfl | ⟨rfl, rfl⟩ | ⟨rfl, rfl, rfl⟩ | ⟨rfl, rfl, rfl, rfl⟩ | ⟨rfl, rfl, rfl, rfl, rfl⟩ | ⟨rfl, rfl, rfl, rfl, rfl⟩
          all_goals
            go_wp2_with fail
            refine wp_region_ser (S := fun _ v => Below wr.heap.size wr v) rfl (by kernel_rfl) hdr ?_
            iterate 37 (first | (refine Ser.skip rfl (fun L w1 hS hi => (hS)) ?_; (try simp only [Act.put, List.setIfInBounds_toArray, List.set_cons_zero, List.set_cons_succ])) | ((refine Ser.step (a1 := ?_) rfl (fun L w1 K' Q' hS hi hR hd hK => ?_) ?_ ?_; rotate_left); (· ((replace c0 := keepc hS c0; replace c1 := keepc hS c1; replace v1 := keepc hS v1); go_simp; (try simp only [Act.put, List.setIfInBounds_toArray, List.set_cons_zero, List.set_cons_succ]); exact hK.out _ (hS))); (· rfl)) | ((refine Ser.step (a1 := ?_) rfl (fun L w1 K' Q' hS hi hR hd hK => ?_) ?_ ?_; rotate_left); (· (go_simp; go_wp2_with ((first | (refine (hG0 _).mono ?_; rintro e w2 ⟨rfl, rfl⟩) | (refine (hG1 _).mono ?_; rintro e w2 ⟨rfl, rfl⟩))); (try simp only [Act.put, List.setIfInBounds_toArray, List.set_cons_zero, List.set_cons_succ]); exact hK.out _ (hS))); (· rfl)))
            refine Ser.nil fun w4 hS4 => ?_
            have hb5 := bthen' hb3 hS4
            clear c0 c1 v1 hdr hG0 hG1 ed' ee' ez0' ez1'
            go_wp2_with fail
            go_ret
            exact ⟨by rw [hRq.out]; rfl, hb5⟩
        · have hfe : fm = ⟨true, true, 0, 0⟩ := formOf_lit hop hfm.out rfl
          have hlen2 : lst.length = 0 := by have := hlen.out; have h9 := hll.out; rw [hfe] at this; dsimp only at this; omega
          have hdv : d = vT r := hd2.out (by rw [hfe])
          have b0 := hX.c 0 _ rfl
          rw [hop] at b0
          have hGl := rglob_val (bthen' h0 hb3) hpv x.n
          have b2 := hX.c 2 _ rfl
          have q0 := hP.c 0 _ rfl
          have q1 := hP.c 1 _ rfl
          have q2 := hP.c 2 _ rfl
          have q3 := hP.c 3 _ rfl
          have q4 := hP.c 4 _ rfl
          have hRq : R = globB p x d (lst[0]?.getD ⟨#[]⟩) := hR5.out.trans (rq_29 hop)
          unfold globB at hRq
          rw [hdv] at hRq
          obtain ⟨gr, hgr⟩ : ∃ gr, findB Vr.n x.n p.gs = gr := ⟨_, rfl⟩
          rw [hgr] at hRq hGl
          have hRq2 : R = typB (vT r) gr := by
            rw [hRq]
            cases gr with
            | none => rfl
            | some g => show (if x.op = 29 then _ else _) = _; rw [if_pos hop]; rfl
          clear hR5 hfm hd2 hxr hfv hlen hop hown hfe hrow hlr hgr hRq hdv hll
          replace hRq2 := Lib.hid hRq2
          go_wp2_with fail
          refine hGl.mono ?_
          rintro e w5 ⟨hd, ho⟩
          replace ho := ho.eq
          subst ho
          have hda := hd.alloc hd.size (.cells #[.string (vN gr), .string (vT gr)] 60)
          have hD := Box.alloc w5 [.string (vN gr), .string (vT gr)] 60
          clear hGl hP hX q0 q1 q2 q3 q4 b2 hlen2 hd
          go_upto_region 35 with fail
          generalize (w5.alloc (.cells #[.string (vN gr), .string (vT gr)] 60)) = W5 at *
          have hb6 := bthen' hb3 hda
          have d1 := hD.c 1 _ rfl
          have v1 := (hV.nx hda).c 1 _ rfl
          clear hda hD hb3 hV
          cases gr with
          | none =>
            have hRz : Hid (R = false) := Lib.hid hRq2.out
            clear hRq2
            go_wp2_with fail
            go_ret
            exact ⟨by rw [hRz.out]; rfl, hb6⟩
          | some c =>
            have hRq3 : R = decide (c.t = vT r) := hRq2.out
            replace d1 : W5.cell? ⟨w5.heap.size, 1, none⟩ = some (.string c.t) := d1
            clear hRq2
            by_cases ht : c.t = vT r
            · have hRz : Hid (R = true) := Lib.hid (by rw [hRq3, decide_eq_true ht])
              have e8 := seq_t ht
              clear hRq3 ht
              go_wp2_with fail
              go_ret
              exact ⟨by rw [hRz.out]; rfl, hb6⟩
            · have hRz : Hid (R = false) := Lib.hid (by rw [hRq3, decide_eq_false ht])
              have e8 := seq_f ht
              clear hRq3 ht
              go_wp2_with fail
              go_ret
              exact ⟨by rw [hRz.out]; rfl, hb6⟩
        · have hfe : fm = ⟨false, true, 1, 1⟩ := formOf_lit hop hfm.out rfl
          have hlen2 : lst.length = 1 := by have := hlen.out; have h9 := hll.out; rw [hfe] at this; dsimp only at this; omega
          have b0 := hX.c 0 _ rfl
          rw [hop] at b0
          obtain ⟨s0, hs0⟩ : ∃ s, lst[0]? = some s := ⟨lst[0]'(by omega), List.getElem?_eq_getElem (by omega)⟩
          obtain ⟨la, rfl, c0, -⟩ := hrow 0 s0 hs0
          replace c0 : wr.cell? la = some (.string s0) := c0
          have hl0I : (0 : Int) < (lst.length : Int) := by omega
          have hl0N : 0 < lst.length := by omega
          have hGl := rglob_val (bthen' h0 hb3) hpv x.n
          have b2 := hX.c 2 _ rfl
          have q0 := hP.c 0 _ rfl
          have q1 := hP.c 1 _ rfl
          have q2 := hP.c 2 _ rfl
          have q3 := hP.c 3 _ rfl
          have q4 := hP.c 4 _ rfl
          have hRq : R = globB p x d (lst[0]?.getD ⟨#[]⟩) := hR5.out.trans (rq_30 hop)
          unfold globB at hRq
          obtain ⟨gr, hgr⟩ : ∃ gr, findB Vr.n x.n p.gs = gr := ⟨_, rfl⟩
          rw [hgr, hs0] at hRq
          rw [hgr] at hGl
          have hRq2 : R = putB s0 gr := by
            rw [hRq]
            cases gr with
            | none => rfl
            | some g => show (if x.op = 29 then _ else _) = _; rw [if_neg (by omega)]; rfl
          clear hR5 hfm hd2 hxr hfv hlen hop hown hfe hrow hlr hgr hRq hs0 hlen2 hll
          generalize lst.length = nl at *
          replace hRq2 := Lib.hid hRq2
          go_wp2_with fail
          refine hGl.mono ?_
          rintro e w5 ⟨hd, ho⟩
          replace ho := ho.eq
          subst ho
          have hda := hd.alloc hd.size (.cells #[.string (vN gr), .string (vT gr)] 60)
          have hD := Box.alloc w5 [.string (vN gr), .string (vT gr)] 60
          clear hGl hP hX hV hd q0 q1 q2 q3 q4 b2
          go_upto_region 38 with fail
          generalize (w5.alloc (.cells #[.string (vN gr), .string (vT gr)] 60)) = W5 at *
          replace c0 := keepc hda c0
          have hb5 := bthen' hb3 hda
          have d1 := hD.c 1 _ rfl
          have hdr := (Below.refl W5.heap.size W5).drew
          clear hda hD hb3
          cases gr with
          | none =>
            have hRz : Hid (R = false) := Lib.hid hRq2.out
            clear hRq2
            go_wp2_with fail
            refine wp_region_ser (S := fun _ v => Below W5.heap.size W5 v) rfl (by kernel_rfl) hdr ?_
            iterate 10 (first | ((refine Ser.step (a1 := ?_) rfl (fun L w1 K' Q' hS hi hR hd hK => ?_) ?_ ?_; rotate_left); (· ((skip); go_simp; (try simp only [Act.put, List.setIfInBounds_toArray, List.set_cons_zero, List.set_cons_succ]); exact hK.out _ (hS))); (· rfl)) | (refine Ser.skip rfl (fun L w1 hS hi => (hS)) ?_; (try simp only [Act.put, List.setIfInBounds_toArray, List.set_cons_zero, List.set_cons_succ])))
            refine Ser.nil fun w6 hS6 => ?_
            have hb7 := bthen' hb5 hS6
            clear hdr c0 d1
            go_wp2_with fail
            go_ret
            exact ⟨by rw [hRz.out]; rfl, hb7⟩
          | some c =>
            have hRq3 : Hid (R = fitsB s0 c.t) := Lib.hid hRq2.out
            replace d1 : W5.cell? ⟨w5.heap.size, 1, none⟩ = some (.string c.t) := d1
            have hF9 := fun v => rfits_val s0 c.t v
            clear hRq2
            generalize fitsB s0 c.t = kk at *
            go_wp2_with fail
            refine wp_region_ser (S := fun _ v => Below W5.heap.size W5 v) rfl (by kernel_rfl) hdr ?_
            iterate 10 (first | ((refine Ser.step (a1 := ?_) rfl (fun L w1 K' Q' hS hi hR hd hK => ?_) ?_ ?_; rotate_left); (· ((skip); go_simp; (try simp only [Act.put, List.setIfInBounds_toArray, List.set_cons_zero, List.set_cons_succ]); exact hK.out _ (hS))); (· rfl)) | ((refine Ser.step (a1 := ?_) rfl (fun L w1 K' Q' hS hi hR hd hK => ?_) ?_ ?_; rotate_left); (· ((replace c0 := keepc hS c0; replace d1 := keepc hS d1); go_simp; (try simp only [Act.put, List.setIfInBounds_toArray, List.set_cons_zero, List.set_cons_succ]); exact hK.out _ (hS))); (· rfl)) | ((refine Ser.step (a1 := ?_) rfl (fun L w1 K' Q' hS hi hR hd hK => ?_) ?_ ?_; rotate_left); (· (go_simp; go_wp2_with ((refine (hF9 _).mono ?_; rintro e w2 ⟨rfl, rfl⟩)); (try simp only [Act.put, List.setIfInBounds_toArray, List.set_cons_zero, List.set_cons_succ]); exact hK.out _ (hS))); (· rfl)))
            refine Ser.nil fun w6 hS6 => ?_
            have hb7 := bthen' hb5 hS6
            clear hdr c0 d1 hF9
            go_wp2_with fail
            go_ret
            exact ⟨by rw [hRq3.out]; rfl, hb7⟩
        · have hfe : fm = ⟨true, true, 0, 8⟩ := formOf_lit hop hfm.out rfl
          have hlen2 : lst.length ≤ 8 := by have := hlen.out; have h9 := hll.out; rw [hfe] at this; dsimp only at this; omega
          have hdv : d = vT r := hd2.out (by rw [hfe])
          have b0 := hX.c 0 _ rfl
          rw [hop] at b0
          have hRq : R = callB p x d lst := hR5.out.trans (rq_31 hop)
          unfold callB at hRq
          rw [hdv] at hRq
          have hFn := rlookF_val (bthen' h0 hb3) hpv x.n
          have b2 := hX.c 2 _ rfl
          have q0 := hP.c 0 _ rfl
          have q1 := hP.c 1 _ rfl
          have q2 := hP.c 2 _ rfl
          have q3 := hP.c 3 _ rfl
          have q4 := hP.c 4 _ rfl
          clear hR5 hfm hd2 hxr hfv hlen hop hown hfe hrow hdv
          go_wp2_with fail
          refine hFn.mono ?_
          rintro e w5 ⟨hd, ho⟩
          have hb5 := bthen' hb3 hd
          clear q0 q1 q2 q3 q4 hFn b2 hP hX
          cases hcl : findB Fn.n x.n p.fs with
          | none =>
            rw [hcl] at hRq ho
            obtain rfl : e = _ := ho
            have hRz : Hid (R = false) := Lib.hid hRq
            have hb6 := hb5.alloc hb5.size (.cells #[.string ⟨#[]⟩, .string ⟨#[]⟩, .slice none 0 0, .slice none 0 0, .slice none 0 0] 30)
            clear hRq hcl hV hlr
            go_wp2_with fail
            go_ret
            exact ⟨by rw [hRz.out]; rfl, hb6⟩
          | some c =>
            rw [hcl] at hRq ho
            obtain ⟨v, t1, t2, t3, rfl, hvc⟩ := ho
            have e7 := hvc.e
            subst e7
            obtain ⟨q5, c5, rfl⟩ := hvc.p.slice
            obtain ⟨q6, c6, rfl⟩ := hvc.v.slice
            obtain ⟨q7, c7, rfl⟩ := hvc.b.slice
            replace hRq : R = (fitB lst c.ps && decide (vT r = c.r)) := hRq
            have hda := hd.alloc hd.size (.cells #[.string c.n, .string c.r, .slice q5 c.ps.length c5, .slice q6 c.vs.length c6, .slice q7 c.bs.length c7] 30)
            have hK := Box.alloc w5 [.string c.n, .string c.r, .slice q5 c.ps.length c5, .slice q6 c.vs.length c6, .slice q7 c.bs.length c7] 30
            replace hRq := Lib.hid hRq
            clear hcl hb5
            go_upto_region 41 with fail
            generalize (w5.alloc (.cells #[.string c.n, .string c.r, .slice q5 c.ps.length c5, .slice q6 c.vs.length c6, .slice q7 c.bs.length c7] 30)) = W5 at *
            have hb6 := bthen' hb3 hda
            have hEa := each_val (bthen' hda (Below.refl _ _)) (bthen' h0 hb6) hlr hvc.p
            replace hV := hV.nx hda
            have k2 := hK.c 2 _ rfl
            clear hvc hlr hda hd hb3
            generalize fitB lst c.ps = kk at *
            go_wp2_with fail
            refine hEa.mono ?_
            rintro e w6 ⟨rfl, hd⟩
            have hb7 := bthen' hb6 hd
            have k1 := (hK.nx hd).c 1 _ rfl
            have v1 := (hV.nx hd).c 1 _ rfl
            clear hEa hK hV k2 hd
            cases kk
            · have hRz : Hid (R = false) := Lib.hid (by rw [hRq.out]; rfl)
              clear hRq
              go_wp2_with fail
              go_ret
              exact ⟨by rw [hRz.out]; rfl, hb7⟩
            · by_cases ht : c.r = vT r
              · have hRz : Hid (R = true) := Lib.hid (by rw [hRq.out, decide_eq_true ht.symm]; rfl)
                have e9 := seq_t ht
                clear hRq ht
                go_wp2_with fail
                go_ret
                exact ⟨by rw [hRz.out]; rfl, hb7⟩
              · have hRz : Hid (R = false) := Lib.hid (by rw [hRq.out, decide_eq_false (fun h => ht h.symm)]; rfl)
                have e9 := seq_f ht
                clear hRq ht
                go_wp2_with fail
                go_ret
                exact ⟨by rw [hRz.out]; rfl, hb7⟩
        · have hfe : fm = ⟨true, true, 0, 8⟩ := formOf_lit hop hfm.out rfl
          have hlen2 : lst.length ≤ 8 := by have := hlen.out; have h9 := hll.out; rw [hfe] at this; dsimp only at this; omega
          have hdv : d = vT r := hd2.out (by rw [hfe])
          have b0 := hX.c 0 _ rfl
          rw [hop] at b0
          have hRq : R = extB p x d lst := hR5.out.trans (rq_32 hop)
          unfold extB at hRq
          have hFn := rlookX_val (bthen' h0 hb3) hpv x.n
          have b2 := hX.c 2 _ rfl
          have q0 := hP.c 0 _ rfl
          have q1 := hP.c 1 _ rfl
          have q2 := hP.c 2 _ rfl
          have q3 := hP.c 3 _ rfl
          have q4 := hP.c 4 _ rfl
          replace hdv := Lib.hid hdv
          clear hR5 hfm hd2 hxr hfv hlen hop hown hfe hlr
          go_wp2_with fail
          refine hFn.mono ?_
          rintro e w5 ⟨hd, ho⟩
          have hb5 := bthen' hb3 hd
          clear q0 q1 q2 q3 q4 hFn b2 hP hX b0 b3
          cases hcl : findB Ex.n x.n p.xs with
          | none =>
            rw [hcl] at hRq ho
            obtain rfl : e = _ := ho
            have hRz : Hid (R = false) := Lib.hid hRq
            have hb6 := hb5.alloc hb5.size (.cells #[.string ⟨#[]⟩, .int .i64 0] 77)
            clear hRq hcl hV hrow
            go_wp2_with fail
            go_ret
            exact ⟨by rw [hRz.out]; rfl, hb6⟩
          | some c =>
            rw [hcl] at hRq ho
            obtain ⟨rfl, -⟩ := ho
            replace hRq : R = (decide ((lst.length : Int) = c.k) && allB lst intS d intS) := hRq
            have hda := hd.alloc hd.size (.cells #[.string c.n, .int .i64 c.k] 77)
            have hK := Box.alloc w5 [.string c.n, .int .i64 c.k] 77
            replace hRq := Lib.hid hRq
            clear hcl hb5
            go_upto_region 48 with fail
            generalize (w5.alloc (.cells #[.string c.n, .int .i64 c.k] 77)) = W5 at *
            replace hb3 := bthen' hb3 hda
            replace hV := hV.nx hda
            have hrow2 : ∀ (i : Nat) (s : ByteArray), lst[i]? = some s → ∃ a, po = some a ∧ AtS W5 (a.add (i * 1)) s := fun i s h => (hrow i s h).imp fun a h => ⟨h.1, h.2.kp hda⟩
            have k1 := hK.c 1 _ rfl
            clear hrow hda hd hK
            by_cases hk : c.k = (lst.length : Int)
            · have hR6 : Hid (R = allB lst intS d intS) := Lib.hid (by rw [hRq.out, decide_eq_true hk.symm]; rfl)
              have hk2 : (c.k == (lst.length : Int)) = true := by simpa using hk
              rw [hk] at k1
              clear hRq hk
              have hrow := hrow2
              clear hrow2
              obtain ⟨wr, rfl⟩ : ∃ wr : World, wr = W5 := ⟨_, rfl⟩
              go_wp2_with fail
              obtain ⟨wo, rfl⟩ : ∃ wo : World, wo = wr := ⟨_, rfl⟩
              go_loopw [31] (fun i wr => ∃ q : Nat, q ≤ lst.length ∧ i = .int .i64 (q : Int) ∧ Below wo.heap.size wo wr ∧ ∀ k, (h : k < lst.length) → k < q → lst[k] = intS) (fun i _ => lst.length - (intOf i).toNat)
              case atStart => exact ⟨0, Nat.zero_le _, rfl, Below.refl _ _, fun k _ h => by omega⟩
              case round =>
                obtain ⟨q, hq, rfl, hb6, hal⟩ := hrel
                have hb7 := bthen' hb3 hb6
                have v1 := (hV.nx hb6).c 1 _ rfl
                by_cases hend : q = lst.length
                · subst hend
                  have hR7 : R = decide (d = intS) := by rw [hR6.out, all_upto fun q hq => hal q hq hq]
                  clear hrow hal
                  by_cases hde : d = intS
                  · rw [← hdv.out, hde] at v1
                    have hR8 : Hid (R = true) := Lib.hid (by rw [hR7, decide_eq_true hde])
                    clear hR7 hde hR6
                    go_wp2_with fail
                    go_ret
                    exact ⟨by rw [hR8.out]; rfl, hb7⟩
                  · rw [← hdv.out] at v1
                    have hR8 : Hid (R = false) := Lib.hid (by rw [hR7, decide_eq_false hde])
                    have e9 := lit_f (l := [105, 110, 116]) hde
                    clear hR7 hde hR6
                    go_wp2_with fail
                    go_ret
                    exact ⟨by rw [hR8.out]; rfl, hb7⟩
                · have hlt : q < lst.length := by omega
                  have hltI : (q : Int) < (lst.length : Int) := by omega
                  obtain ⟨la, rfl, c0, -⟩ := hrow q lst[q] (by simp [hlt])
                  rw [Nat.mul_one] at c0
                  replace c0 := keepc hb6 c0
                  by_cases hsa : lst[q] = intS
                  · have hal2 : ∀ k, (h : k < lst.length) → k < q + 1 → lst[k] = intS := fun k h h2 => by
                      rcases Nat.lt_or_ge k q with h3 | h3
                      · exact hal k h h3
                      · obtain rfl : k = q := by omega
                        exact hsa
                    have e9 := lit_t (l := [105, 110, 116]) hsa
                    replace hal2 := Lib.hid hal2
                    clear hrow hal hsa hR6
                    generalize hss : lst[q] = s at *
                    clear hss
                    go_wp2_with fail
                    go_roundw
                    case rel => exact ⟨q + 1, by omega, by go_num, hb6, hal2.out⟩
                    case measure => simp [intOf]; omega
                  · have e9 := lit_f (l := [105, 110, 116]) hsa
                    have hR8 : Hid (R = false) := Lib.hid (by rw [hR6.out, all_drop hlt hsa])
                    clear hrow hal hsa hR6
                    generalize hss : lst[q] = s at *
                    clear hss
                    go_wp2_with fail
                    go_ret
                    exact ⟨by rw [hR8.out]; rfl, hb7⟩
            · have hRz : Hid (R = false) := Lib.hid (by rw [hRq.out, decide_eq_false (fun h => hk h.symm)]; rfl)
              have hk2 : (c.k == (lst.length : Int)) = false := by simpa using hk
              clear hRq
              go_wp2_with fail
              go_ret
              exact ⟨by rw [hRz.out]; rfl, hb3⟩
        · have hfe : fm = ⟨false, false, 1, 1⟩ := formOf_lit hop hfm.out rfl
          have hlen2 : lst.length = 1 := by have := hlen.out; have h9 := hll.out; rw [hfe] at this; dsimp only at this; omega
          have b0 := hX.c 0 _ rfl
          rw [hop] at b0
          obtain ⟨s0, hs0⟩ : ∃ s, lst[0]? = some s := ⟨lst[0]'(by omega), List.getElem?_eq_getElem (by omega)⟩
          obtain ⟨la, rfl, c0, -⟩ := hrow 0 s0 hs0
          replace c0 : wr.cell? la = some (.string s0) := c0
          have hl0I : (0 : Int) < (lst.length : Int) := by omega
          have hl0N : 0 < lst.length := by omega
          have hRq : R = !isRf s0 := by rw [hR5.out, rq_33 hop, hs0]; rfl
          clear hR5 hfm hd2 hxr hfv hpv hlen hop hown hfe hrow hlr hs0 hlen2 hll hP hV
          generalize lst.length = nl at *
          by_cases h1 : s0 = intS
          · have hRz : Hid (R = true) := Lib.hid (by rw [hRq]; unfold isRf; rw [decide_eq_false (fun h => h h1)]; rfl)
            have e9 := lit_t (l := [105, 110, 116]) h1
            clear hRq h1
            go_wp2_with fail
            go_ret
            exact ⟨by rw [hRz.out]; rfl, hb3⟩
          · have e9 := lit_f (l := [105, 110, 116]) h1
            by_cases h2 : s0 = floatS
            · have hRz : Hid (R = true) := Lib.hid (by rw [hRq]; unfold isRf; rw [decide_eq_false (p := s0 ≠ floatS) (fun h => h h2), Bool.and_false]; rfl)
              have e8 := lit_t (l := [102, 108, 111, 97, 116]) h2
              clear hRq h1 h2
              go_wp2_with fail
              go_ret
              exact ⟨by rw [hRz.out]; rfl, hb3⟩
            · have hRz : Hid (R = false) := Lib.hid (by rw [hRq]; unfold isRf; rw [decide_eq_true h1, decide_eq_true h2]; rfl)
              have e8 := lit_f (l := [102, 108, 111, 97, 116]) h2
              clear hRq h1 h2
              go_wp2_with fail
              go_ret
              exact ⟨by rw [hRz.out]; rfl, hb3⟩
        · have hfe : fm = ⟨false, false, 0, 0⟩ := formOf_lit hop hfm.out rfl
          have hlen2 : lst.length = 0 := by have := hlen.out; have h9 := hll.out; rw [hfe] at this; dsimp only at this; omega
          have b0 := hX.c 0 _ rfl
          rw [hop] at b0
          have hRz : Hid (R = true) := Lib.hid (hR5.out.trans (rq_34 hop))
          clear hR5 hfm hd2 hxr hfv hpv hlen hop hown hfe hrow hlr hlen2 hll hP hV
          go_wp2_with fail
          go_ret
          exact ⟨by rw [hRz.out]; rfl, hb3⟩
      · have hlt : q < x.as.length := by omega
        have hltI : (q : Int) < (x.as.length : Int) := by omega
        obtain ⟨a, rfl, c0, ⟨c1, -⟩, c2⟩ := hxr q x.as[q] (by simp [hlt])
        have hk := bthen' h0 hb3
        replace c0 := keepc hk c0
        replace c1 := keepc hk c1
        replace c2 := keepc hk c2
        have hOf := fun W (hW : Below wr.heap.size wr W) => rof_val (bthen' hk hW) hfv x.as[q]
        have hts : tysOf f (x.as.drop q) = match tyOf f x.as[q] with
            | none => none
            | some t => match tysOf f (x.as.drop (q + 1)) with
              | none => none
              | some l => some (t :: l) := by
          rw [List.drop_eq_getElem_cons hlt]
          rfl
        have htz := fun t => tyOf_sz hfv (a := x.as[q]) (t := t)
        rw [hts] at hR
        clear hxr hts
        generalize tyOf f x.as[q] = ty at *
        generalize x.as[q].k = ka at *
        generalize x.as[q].s = sa at *
        generalize x.as[q].n = na at *
        have hdr := (Below.refl wr.heap.size wr).drew
        go_wp2_with fail
        refine wp_region_ser (S := fun _ v => Below wr.heap.size wr v) rfl (by kernel_rfl) hdr ?_
        iterate 12 (first | ((refine Ser.step (a1 := ?_) rfl (fun L w1 K' Q' hS hi hR hd hK => ?_) ?_ ?_; rotate_left); (· ((skip); go_simp; (try simp only [Act.put, List.setIfInBounds_toArray, List.set_cons_zero, List.set_cons_succ]); exact hK.out _ (hS))); (· rfl)) | ((refine Ser.step (a1 := ?_) rfl (fun L w1 K' Q' hS hi hR hd hK => ?_) ?_ ?_; rotate_left); (· ((have hB := hF.nx hS; have q0 := hB.c 0 _ rfl; have q1 := hB.c 1 _ rfl; have q2 := hB.c 2 _ rfl; have q3 := hB.c 3 _ rfl; have q4 := hB.c 4 _ rfl); go_simp; (try simp only [Act.put, List.setIfInBounds_toArray, List.set_cons_zero, List.set_cons_succ]); exact hK.out _ (hS))); (· rfl)) | ((refine Ser.step (a1 := ?_) rfl (fun L w1 K' Q' hS hi hR hd hK => ?_) ?_ ?_; rotate_left); (· ((replace b3 := keepc hS b3; replace c0 := keepc hS c0; replace c1 := keepc hS c1; replace c2 := keepc hS c2); go_simp; (try simp only [Act.put, List.setIfInBounds_toArray, List.set_cons_zero, List.set_cons_succ]); exact hK.out _ (hS))); (· rfl)) | ((refine Ser.step (a1 := ?_) rfl (fun L w1 K' Q' hS hi hR hd hK => ?_) ?_ ?_; rotate_left); (· (go_simp; go_wp2_with ((refine (hOf _ hS).mono ?_; rintro e w2 ⟨hb, ho⟩; replace ho := ho.form; subst ho)); (try simp only [Act.put, List.setIfInBounds_toArray, List.set_cons_zero, List.set_cons_succ]); exact hK.out _ (bthen' hS hb))); (· rfl)))
        refine Ser.nil fun w4 hS4 => ?_
        have hb5 := bthen' hb3 hS4
        clear hOf hdr c0 c1 c2 hk
        cases ty with
        | none =>
          have hR2 : Hid (R = false) := Lib.hid (by rw [hR.out])
          clear hP hF hX hV hR hown
          go_wp2_with fail
          go_ret
          exact ⟨by rw [hR2.out]; rfl, hb5⟩
        | some t =>
          have hzt := htz t rfl
          have hR6 : R = match tysOf f (x.as.drop (q + 1)) with
              | none => false
              | some l => rightQ p x d ((lst ++ [t]) ++ l) := by
            rw [hR.out]
            dsimp only
            cases tysOf f (x.as.drop (q + 1)) with
            | none => rfl
            | some l => simp
          replace hR6 := Lib.hid hR6
          replace hown := own_next' hown hS4 (Nat.le_refl _)
          have hb6 := bthen' hb2 hS4
          clear hR htz hP hF hX hV hb3
          go_wp2_with (at_builtin; go_loud (refine wpList_append_own _ rfl _ _ 46 rfl W.heap.size 9 iS _ 1 16 Tryd.underlying46 hjS hy0 hy1 hy2 rfl (by decide) _ _ _ rfl (World.ownsRow.alloc hown _) ⟨w4.heap.size, 0, none⟩ 1 1 [.string t] rfl rfl (strs_one _ _) (fun u hu => by simp at hu; subst hu; rfl) ?c3 ?c4 ?c5 ?_))
          case c3 => have := hll.out; unfold maxLen; omega
          case c4 => have := hll.out; omega
          case c5 => have := hb6.size; simp; omega
          intro v9 W9 hown9 hg9 _
          obtain ⟨p9, k9, rfl⟩ := own_sl hown9
          have hb7 := (hb6.alloc hb6.size (.cells #[.string t] 9)).grown hg9 (by have := hb6.size; simp; omega) fun g e => (hown.lt g e).1
          have hown10 : W9.ownsRow W.heap.size 9 1 (.slice p9 (lst ++ [t]).length k9) (lst ++ [t]).length ((lst ++ [t]).map .string) := by simpa using hown9
          have hll2 : Hid ((lst ++ [t]).length = q + 1) := Lib.hid (by simp [hll.out])
          have hzl2 : ∀ s ∈ lst ++ [t], Sz s := fun s hs => by
            rcases List.mem_append.1 hs with h | h
            · exact hsz s h
            · simp at h; subst h; exact hzt
          have hle : lst.length + 1 = (lst ++ [t]).length := by simp
          rw [hle]
          clear hown9 hg9 hb6
          go_wp2_with fail
          go_roundw
          case rel => exact ⟨q + 1, lst ++ [t], p9, k9, by omega, by go_num, rfl, hb7, hown10, hll2, hzl2, hR6⟩
          case measure => simp [intOf]; omega
end Go.Proofs.YtjohjpjpfglkkaaDoor
