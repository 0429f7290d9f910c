/- Things found by their names: the program's search, at its four types. -/
import Derived.Test.YtjohjpjpfglkkaaDoorPg
import Derived.Test.YtjohjpjpfglkkaaDoorArg
namespace Go.Proofs.YtjohjpjpfglkkaaDoor
open Go.RowKit
theorem seq_t {s x : ByteArray} (h : s = x) : (s.toList == x.toList) = true := by rw [h]; simp
theorem seq_f {s x : ByteArray} (h : s ≠ x) : (s.toList == x.toList) = false := by
  rw [beq_eq_false_iff_ne]
  intro e
  apply h
  rw [ByteArray.toList_eq, ByteArray.toList_eq] at e
  cases s; cases x
  simp only [ByteArray.mk.injEq]
  exact Array.toList_inj.1 e
def findB {α : Type} (nm : α → ByteArray) (x : ByteArray) : List α → Option α
  | [] => none
  | y :: r => if nm y = x then some y else findB nm x r
/-- what a search hands back -/
def OutC (w' : World) (r : Option Cl) (e : Ending) : Prop := match r with
  | some c => ∃ v u, e = .returned (.tuple #[v, .bool true]) ∧ ValC w' v c u
  | none => e = .returned (.tuple #[.agg #[.string ⟨#[]⟩, .slice none 0 0], .bool false])
def OutF (w' : World) (r : Option Fn) (e : Ending) : Prop := match r with
  | some c => ∃ v u1 u2 u3, e = .returned (.tuple #[v, .bool true]) ∧ ValF w' v c u1 u2 u3
  | none => e = .returned (.tuple #[.agg #[.string ⟨#[]⟩, .string ⟨#[]⟩, .slice none 0 0, .slice none 0 0, .slice none 0 0], .bool false])
def OutV (_ : World) (r : Option Vr) (e : Ending) : Prop := match r with
  | some c => e = .returned (.tuple #[.agg #[.string c.n, .string c.t], .bool true]) ∧ Sz c.n ∧ Sz c.t
  | none => e = .returned (.tuple #[.agg #[.string ⟨#[]⟩, .string ⟨#[]⟩], .bool false])
def OutX (_ : World) (r : Option Ex) (e : Ending) : Prop := match r with
  | some c => e = .returned (.tuple #[.agg #[.string c.n, .int .i64 c.k], .bool true]) ∧ Sz c.n
  | none => e = .returned (.tuple #[.agg #[.string ⟨#[]⟩, .int .i64 0], .bool false])

set_option maxHeartbeats 1000000 in
theorem nameC_val (s : ByteArray) (u1 : Value) (w : World) : Calls Tryd.prog 28 #[.agg #[.string s, u1]] w fun e w' => e = .returned (.string s) ∧ Below w.heap.size w w' := by
  go_enter Tryd.func28, Tryd.ntmps28
  go_wp2
  go_ret
  exact ⟨rfl, (Below.refl _ _).alloc (Nat.le_refl _) _⟩
set_option maxHeartbeats 4000000 in
theorem findC_val {w0 w : World} (h0 : Below w0.heap.size w0 w) {l : List Cl} {v : Value} (hl : Row AtC 2 w0 v l) (x : ByteArray) :
    Calls Tryd.prog 61 #[v, .string x, .func (Fn.func 28) #[] #[]] w fun e w' => Below w.heap.size w w' ∧ OutC w0 (findB Cl.n x l) e := by
  obtain ⟨p, cu, rfl, -, hn, hl⟩ := hl
  generalize hf : findB Cl.n x l = r0
  go_enter Tryd.func61, Tryd.ntmps61
  go_wp2
  go_loopw [13] (fun i wr => ∃ q : Nat, q ≤ l.length ∧ i = .int .i64 (q : Int) ∧ Below w.heap.size w wr ∧ Box wr w.heap.size [(.string ⟨#[]⟩), (.slice none 0 0)] ∧ findB Cl.n x (l.drop q) = r0) (fun i _ => l.length - (intOf i).toNat)
  case atStart => exact ⟨0, Nat.zero_le _, rfl, (Below.refl _ _).alloc (Nat.le_refl _) _, Box.alloc w [(.string ⟨#[]⟩), (.slice none 0 0)] _, hf⟩
  case round =>
    obtain ⟨q, hq, rfl, hb, hB, hf⟩ := hrel
    by_cases hend : q = l.length
    · subst hend
      rw [List.drop_length] at hf
      subst hf
      clear hl
      have c0 := (hB.al (.cells #[.string ⟨#[]⟩, .slice none 0 0] 67)).c 0 _ rfl
      have f0 := (hB.al (.cells #[.string ⟨#[]⟩, .slice none 0 0] 67)).f 0 (by simp)
      have c1 := (hB.al (.cells #[.string ⟨#[]⟩, .slice none 0 0] 67)).c 1 _ rfl
      have f1 := (hB.al (.cells #[.string ⟨#[]⟩, .slice none 0 0] 67)).f 1 (by simp)
      have hb2 := hb.alloc hb.size (.cells #[.string ⟨#[]⟩, .slice none 0 0] 67)
      have hb2 := hb2.setCell (p := ⟨w.heap.size, 0, none⟩) (Nat.le_refl _) (.string ⟨#[]⟩)
      have hb2 := hb2.setCell (p := ⟨w.heap.size, 1, none⟩) (Nat.le_refl _) (.slice none 0 0)
      clear hB hb
      go_wp2
      ((try simp only [Exit.inBlock, Exit.then]); refine bodyPost_ret_by (v := (.tuple #[.agg #[.string ⟨#[]⟩, .slice none 0 0], .bool false])) ((results_cell_tmp rfl _ _ _).trans (by go_simp; try rfl)) rfl ?_)
      exact ⟨hb2, rfl⟩
    · have hlt : q < l.length := by omega
      have hltI : (q : Int) < (l.length : Int) := by omega
      rw [List.drop_eq_getElem_cons hlt, findB] at hf
      obtain ⟨a, rfl, hA⟩ := hl q l[q] (by simp [hlt])
      clear hl
      generalize l[q] = y at *
      obtain ⟨⟨c0, z0⟩, u1, c1, r1⟩ := hA
      have hb0 := bthen' h0 hb
      have c0 := keepc hb0 c0
      have c1 := keepc hb0 c1
      obtain ⟨p1, k1, rfl⟩ := r1.slice
      by_cases hy : y.n = x
      · have he := seq_t hy
        rw [if_pos hy] at hf
        subst hf
        clear hend hq hlt hy
        go_wp2_with fail
        refine (nameC_val _ _ _).mono ?_
        rintro e w2 ⟨rfl, hb2⟩
        have hA2 := (Box.alloc wr [(.string y.n), (.slice p1 y.fs.length k1)] 67).nx hb2
        have hB2 := (hB.al (.cells #[.string y.n, .slice p1 y.fs.length k1] 67)).nx hb2
        have hb3 := (hb.alloc hb.size (.cells #[.string y.n, .slice p1 y.fs.length k1] 67)).trans (hb2.mono (hb.alloc hb.size _).size)
        have d0 := hA2.c 0 _ rfl
        have e0 := hB2.c 0 _ rfl
        have f0 := hB2.f 0 (by simp)
        have d1 := hA2.c 1 _ rfl
        have e1 := hB2.c 1 _ rfl
        have f1 := hB2.f 1 (by simp)
        have hlt2 := hA2.lt
        have hlw : w.heap.size ≤ wr.heap.size := hb.size
        have hwl := hB.lt
        have hb4 := hb3
        have hb4 := hb4.setCell (p := ⟨w.heap.size, 0, none⟩) (Nat.le_refl _) (.string y.n)
        have hb4 := hb4.setCell (p := ⟨w.heap.size, 1, none⟩) (Nat.le_refl _) (.slice p1 y.fs.length k1)
        clear hB hb hb2 hA2 hB2 hb3 c0 c1
        go_wp2_with fail
        ((try simp only [Exit.inBlock, Exit.then]); refine bodyPost_ret_by (v := (.tuple #[.agg #[.string y.n, .slice p1 y.fs.length k1], .bool true])) ((results_cell_tmp rfl _ _ _).trans (by go_simp; try rfl)) rfl ?_)
        exact ⟨hb4, _, _, rfl, ⟨rfl, z0, r1⟩⟩
      · have he := seq_f hy
        rw [if_neg hy] at hf
        go_wp2_with fail
        refine (nameC_val _ _ _).mono ?_
        rintro e w2 ⟨rfl, hb2⟩
        have hA2 := (Box.alloc wr [(.string y.n), (.slice p1 y.fs.length k1)] 67).nx hb2
        have hB2 := (hB.al (.cells #[.string y.n, .slice p1 y.fs.length k1] 67)).nx hb2
        have hb3 := (hb.alloc hb.size (.cells #[.string y.n, .slice p1 y.fs.length k1] 67)).trans (hb2.mono (hb.alloc hb.size _).size)
        have d0 := hA2.c 0 _ rfl
        have d1 := hA2.c 1 _ rfl
        clear hB hb hb2 c0 c1 r1
        go_wp2_with fail
        go_roundw
        case rel => exact ⟨q + 1, by omega, by go_num, hb3, hB2, hf⟩
        case measure => simp [intOf]; omega
set_option maxHeartbeats 1000000 in
theorem nameV_val (s t : ByteArray) (w : World) : Calls Tryd.prog 52 #[.agg #[.string s, .string t]] w fun e w' => e = .returned (.string s) ∧ Below w.heap.size w w' := by
  go_enter Tryd.func52, Tryd.ntmps52
  go_wp2
  go_ret
  exact ⟨rfl, (Below.refl _ _).alloc (Nat.le_refl _) _⟩
set_option maxHeartbeats 4000000 in
theorem findV_val {w0 w : World} (h0 : Below w0.heap.size w0 w) {l : List Vr} {v : Value} (hl : Row AtV 2 w0 v l) (x : ByteArray) :
    Calls Tryd.prog 56 #[v, .string x, .func (Fn.func 52) #[] #[]] w fun e w' => Below w.heap.size w w' ∧ OutV w0 (findB Vr.n x l) e := by
  obtain ⟨p, cu, rfl, -, hn, hl⟩ := hl
  generalize hf : findB Vr.n x l = r0
  go_enter Tryd.func56, Tryd.ntmps56
  go_wp2
  go_loopw [13] (fun i wr => ∃ q : Nat, q ≤ l.length ∧ i = .int .i64 (q : Int) ∧ Below w.heap.size w wr ∧ Box wr w.heap.size [(.string ⟨#[]⟩), (.string ⟨#[]⟩)] ∧ findB Vr.n x (l.drop q) = r0) (fun i _ => l.length - (intOf i).toNat)
  case atStart => exact ⟨0, Nat.zero_le _, rfl, (Below.refl _ _).alloc (Nat.le_refl _) _, Box.alloc w [(.string ⟨#[]⟩), (.string ⟨#[]⟩)] _, hf⟩
  case round =>
    obtain ⟨q, hq, rfl, hb, hB, hf⟩ := hrel
    by_cases hend : q = l.length
    · subst hend
      rw [List.drop_length] at hf
      subst hf
      clear hl
      have c0 := (hB.al (.cells #[.string ⟨#[]⟩, .string ⟨#[]⟩] 60)).c 0 _ rfl
      have f0 := (hB.al (.cells #[.string ⟨#[]⟩, .string ⟨#[]⟩] 60)).f 0 (by simp)
      have c1 := (hB.al (.cells #[.string ⟨#[]⟩, .string ⟨#[]⟩] 60)).c 1 _ rfl
      have f1 := (hB.al (.cells #[.string ⟨#[]⟩, .string ⟨#[]⟩] 60)).f 1 (by simp)
      have hb2 := hb.alloc hb.size (.cells #[.string ⟨#[]⟩, .string ⟨#[]⟩] 60)
      have hb2 := hb2.setCell (p := ⟨w.heap.size, 0, none⟩) (Nat.le_refl _) (.string ⟨#[]⟩)
      have hb2 := hb2.setCell (p := ⟨w.heap.size, 1, none⟩) (Nat.le_refl _) (.string ⟨#[]⟩)
      clear hB hb
      go_wp2
      ((try simp only [Exit.inBlock, Exit.then]); refine bodyPost_ret_by (v := (.tuple #[.agg #[.string ⟨#[]⟩, .string ⟨#[]⟩], .bool false])) ((results_cell_tmp rfl _ _ _).trans (by go_simp; try rfl)) rfl ?_)
      exact ⟨hb2, rfl⟩
    · have hlt : q < l.length := by omega
      have hltI : (q : Int) < (l.length : Int) := by omega
      rw [List.drop_eq_getElem_cons hlt, findB] at hf
      obtain ⟨a, rfl, hA⟩ := hl q l[q] (by simp [hlt])
      clear hl
      generalize l[q] = y at *
      obtain ⟨⟨c0, z0⟩, c1, z1⟩ := hA
      have hb0 := bthen' h0 hb
      have c0 := keepc hb0 c0
      have c1 := keepc hb0 c1
      by_cases hy : y.n = x
      · have he := seq_t hy
        rw [if_pos hy] at hf
        subst hf
        clear hend hq hlt hy
        go_wp2_with fail
        refine (nameV_val _ _ _).mono ?_
        rintro e w2 ⟨rfl, hb2⟩
        have hA2 := (Box.alloc wr [(.string y.n), (.string y.t)] 60).nx hb2
        have hB2 := (hB.al (.cells #[.string y.n, .string y.t] 60)).nx hb2
        have hb3 := (hb.alloc hb.size (.cells #[.string y.n, .string y.t] 60)).trans (hb2.mono (hb.alloc hb.size _).size)
        have d0 := hA2.c 0 _ rfl
        have e0 := hB2.c 0 _ rfl
        have f0 := hB2.f 0 (by simp)
        have d1 := hA2.c 1 _ rfl
        have e1 := hB2.c 1 _ rfl
        have f1 := hB2.f 1 (by simp)
        have hlt2 := hA2.lt
        have hlw : w.heap.size ≤ wr.heap.size := hb.size
        have hwl := hB.lt
        have hb4 := hb3
        have hb4 := hb4.setCell (p := ⟨w.heap.size, 0, none⟩) (Nat.le_refl _) (.string y.n)
        have hb4 := hb4.setCell (p := ⟨w.heap.size, 1, none⟩) (Nat.le_refl _) (.string y.t)
        clear hB hb hb2 hA2 hB2 hb3 c0 c1
        go_wp2_with fail
        ((try simp only [Exit.inBlock, Exit.then]); refine bodyPost_ret_by (v := (.tuple #[.agg #[.string y.n, .string y.t], .bool true])) ((results_cell_tmp rfl _ _ _).trans (by go_simp; try rfl)) rfl ?_)
        exact ⟨hb4, rfl, z0, z1⟩
      · have he := seq_f hy
        rw [if_neg hy] at hf
        go_wp2_with fail
        refine (nameV_val _ _ _).mono ?_
        rintro e w2 ⟨rfl, hb2⟩
        have hA2 := (Box.alloc wr [(.string y.n), (.string y.t)] 60).nx hb2
        have hB2 := (hB.al (.cells #[.string y.n, .string y.t] 60)).nx hb2
        have hb3 := (hb.alloc hb.size (.cells #[.string y.n, .string y.t] 60)).trans (hb2.mono (hb.alloc hb.size _).size)
        have d0 := hA2.c 0 _ rfl
        have d1 := hA2.c 1 _ rfl
        clear hB hb hb2 c0 c1
        go_wp2_with fail
        go_roundw
        case rel => exact ⟨q + 1, by omega, by go_num, hb3, hB2, hf⟩
        case measure => simp [intOf]; omega
set_option maxHeartbeats 1000000 in
theorem nameF_val (s t : ByteArray) (u1 u2 u3 : Value) (w : World) : Calls Tryd.prog 32 #[.agg #[.string s, .string t, u1, u2, u3]] w fun e w' => e = .returned (.string s) ∧ Below w.heap.size w w' := by
  go_enter Tryd.func32, Tryd.ntmps32
  go_wp2
  go_ret
  exact ⟨rfl, (Below.refl _ _).alloc (Nat.le_refl _) _⟩
set_option maxHeartbeats 4000000 in
theorem findF_val {w0 w : World} (h0 : Below w0.heap.size w0 w) {l : List Fn} {v : Value} (hl : Row AtF 5 w0 v l) (x : ByteArray) :
    Calls Tryd.prog 59 #[v, .string x, .func (Fn.func 32) #[] #[]] w fun e w' => Below w.heap.size w w' ∧ OutF w0 (findB Fn.n x l) e := by
  obtain ⟨p, cu, rfl, -, hn, hl⟩ := hl
  generalize hf : findB Fn.n x l = r0
  go_enter Tryd.func59, Tryd.ntmps59
  go_wp2
  go_loopw [13] (fun i wr => ∃ q : Nat, q ≤ l.length ∧ i = .int .i64 (q : Int) ∧ Below w.heap.size w wr ∧ Box wr w.heap.size [(.string ⟨#[]⟩), (.string ⟨#[]⟩), (.slice none 0 0), (.slice none 0 0), (.slice none 0 0)] ∧ findB Fn.n x (l.drop q) = r0) (fun i _ => l.length - (intOf i).toNat)
  case atStart => exact ⟨0, Nat.zero_le _, rfl, (Below.refl _ _).alloc (Nat.le_refl _) _, Box.alloc w [(.string ⟨#[]⟩), (.string ⟨#[]⟩), (.slice none 0 0), (.slice none 0 0), (.slice none 0 0)] _, hf⟩
  case round =>
    obtain ⟨q, hq, rfl, hb, hB, hf⟩ := hrel
    by_cases hend : q = l.length
    · subst hend
      rw [List.drop_length] at hf
      subst hf
      clear hl
      have c0 := (hB.al (.cells #[.string ⟨#[]⟩, .string ⟨#[]⟩, .slice none 0 0, .slice none 0 0, .slice none 0 0] 30)).c 0 _ rfl
      have f0 := (hB.al (.cells #[.string ⟨#[]⟩, .string ⟨#[]⟩, .slice none 0 0, .slice none 0 0, .slice none 0 0] 30)).f 0 (by simp)
      have c1 := (hB.al (.cells #[.string ⟨#[]⟩, .string ⟨#[]⟩, .slice none 0 0, .slice none 0 0, .slice none 0 0] 30)).c 1 _ rfl
      have f1 := (hB.al (.cells #[.string ⟨#[]⟩, .string ⟨#[]⟩, .slice none 0 0, .slice none 0 0, .slice none 0 0] 30)).f 1 (by simp)
      have c2 := (hB.al (.cells #[.string ⟨#[]⟩, .string ⟨#[]⟩, .slice none 0 0, .slice none 0 0, .slice none 0 0] 30)).c 2 _ rfl
      have f2 := (hB.al (.cells #[.string ⟨#[]⟩, .string ⟨#[]⟩, .slice none 0 0, .slice none 0 0, .slice none 0 0] 30)).f 2 (by simp)
      have c3 := (hB.al (.cells #[.string ⟨#[]⟩, .string ⟨#[]⟩, .slice none 0 0, .slice none 0 0, .slice none 0 0] 30)).c 3 _ rfl
      have f3 := (hB.al (.cells #[.string ⟨#[]⟩, .string ⟨#[]⟩, .slice none 0 0, .slice none 0 0, .slice none 0 0] 30)).f 3 (by simp)
      have c4 := (hB.al (.cells #[.string ⟨#[]⟩, .string ⟨#[]⟩, .slice none 0 0, .slice none 0 0, .slice none 0 0] 30)).c 4 _ rfl
      have f4 := (hB.al (.cells #[.string ⟨#[]⟩, .string ⟨#[]⟩, .slice none 0 0, .slice none 0 0, .slice none 0 0] 30)).f 4 (by simp)
      have hb2 := hb.alloc hb.size (.cells #[.string ⟨#[]⟩, .string ⟨#[]⟩, .slice none 0 0, .slice none 0 0, .slice none 0 0] 30)
      have hb2 := hb2.setCell (p := ⟨w.heap.size, 0, none⟩) (Nat.le_refl _) (.string ⟨#[]⟩)
      have hb2 := hb2.setCell (p := ⟨w.heap.size, 1, none⟩) (Nat.le_refl _) (.string ⟨#[]⟩)
      have hb2 := hb2.setCell (p := ⟨w.heap.size, 2, none⟩) (Nat.le_refl _) (.slice none 0 0)
      have hb2 := hb2.setCell (p := ⟨w.heap.size, 3, none⟩) (Nat.le_refl _) (.slice none 0 0)
      have hb2 := hb2.setCell (p := ⟨w.heap.size, 4, none⟩) (Nat.le_refl _) (.slice none 0 0)
      clear hB hb
      go_wp2
      ((try simp only [Exit.inBlock, Exit.then]); refine bodyPost_ret_by (v := (.tuple #[.agg #[.string ⟨#[]⟩, .string ⟨#[]⟩, .slice none 0 0, .slice none 0 0, .slice none 0 0], .bool false])) ((results_cell_tmp rfl _ _ _).trans (by go_simp; try rfl)) rfl ?_)
      exact ⟨hb2, rfl⟩
    · have hlt : q < l.length := by omega
      have hltI : (q : Int) < (l.length : Int) := by omega
      rw [List.drop_eq_getElem_cons hlt, findB] at hf
      obtain ⟨a, rfl, hA⟩ := hl q l[q] (by simp [hlt])
      clear hl
      generalize l[q] = y at *
      obtain ⟨⟨c0, z0⟩, ⟨c1, z1⟩, ⟨u1, c2, r1⟩, ⟨u2, c3, r2⟩, u3, c4, r3⟩ := hA
      have hb0 := bthen' h0 hb
      have c0 := keepc hb0 c0
      have c1 := keepc hb0 c1
      have c2 := keepc hb0 c2
      have c3 := keepc hb0 c3
      have c4 := keepc hb0 c4
      obtain ⟨p1, k1, rfl⟩ := r1.slice
      obtain ⟨p2, k2, rfl⟩ := r2.slice
      obtain ⟨p3, k3, rfl⟩ := r3.slice
      by_cases hy : y.n = x
      · have he := seq_t hy
        rw [if_pos hy] at hf
        subst hf
        clear hend hq hlt hy
        go_wp2_with fail
        refine (nameF_val _ _ _ _ _ _).mono ?_
        rintro e w2 ⟨rfl, hb2⟩
        have hA2 := (Box.alloc wr [(.string y.n), (.string y.r), (.slice p1 y.ps.length k1), (.slice p2 y.vs.length k2), (.slice p3 y.bs.length k3)] 30).nx hb2
        have hB2 := (hB.al (.cells #[.string y.n, .string y.r, .slice p1 y.ps.length k1, .slice p2 y.vs.length k2, .slice p3 y.bs.length k3] 30)).nx hb2
        have hb3 := (hb.alloc hb.size (.cells #[.string y.n, .string y.r, .slice p1 y.ps.length k1, .slice p2 y.vs.length k2, .slice p3 y.bs.length k3] 30)).trans (hb2.mono (hb.alloc hb.size _).size)
        have d0 := hA2.c 0 _ rfl
        have e0 := hB2.c 0 _ rfl
        have f0 := hB2.f 0 (by simp)
        have d1 := hA2.c 1 _ rfl
        have e1 := hB2.c 1 _ rfl
        have f1 := hB2.f 1 (by simp)
        have d2 := hA2.c 2 _ rfl
        have e2 := hB2.c 2 _ rfl
        have f2 := hB2.f 2 (by simp)
        have d3 := hA2.c 3 _ rfl
        have e3 := hB2.c 3 _ rfl
        have f3 := hB2.f 3 (by simp)
        have d4 := hA2.c 4 _ rfl
        have e4 := hB2.c 4 _ rfl
        have f4 := hB2.f 4 (by simp)
        have hlt2 := hA2.lt
        have hlw : w.heap.size ≤ wr.heap.size := hb.size
        have hwl := hB.lt
        have hb4 := hb3
        have hb4 := hb4.setCell (p := ⟨w.heap.size, 0, none⟩) (Nat.le_refl _) (.string y.n)
        have hb4 := hb4.setCell (p := ⟨w.heap.size, 1, none⟩) (Nat.le_refl _) (.string y.r)
        have hb4 := hb4.setCell (p := ⟨w.heap.size, 2, none⟩) (Nat.le_refl _) (.slice p1 y.ps.length k1)
        have hb4 := hb4.setCell (p := ⟨w.heap.size, 3, none⟩) (Nat.le_refl _) (.slice p2 y.vs.length k2)
        have hb4 := hb4.setCell (p := ⟨w.heap.size, 4, none⟩) (Nat.le_refl _) (.slice p3 y.bs.length k3)
        clear hB hb hb2 hA2 hB2 hb3 c0 c1 c2 c3 c4
        go_wp2_with fail
        ((try simp only [Exit.inBlock, Exit.then]); refine bodyPost_ret_by (v := (.tuple #[.agg #[.string y.n, .string y.r, .slice p1 y.ps.length k1, .slice p2 y.vs.length k2, .slice p3 y.bs.length k3], .bool true])) ((results_cell_tmp rfl _ _ _).trans (by go_simp; try rfl)) rfl ?_)
        exact ⟨hb4, _, _, _, _, rfl, ⟨rfl, ⟨z0, z1⟩, r1, r2, r3⟩⟩
      · have he := seq_f hy
        rw [if_neg hy] at hf
        go_wp2_with fail
        refine (nameF_val _ _ _ _ _ _).mono ?_
        rintro e w2 ⟨rfl, hb2⟩
        have hA2 := (Box.alloc wr [(.string y.n), (.string y.r), (.slice p1 y.ps.length k1), (.slice p2 y.vs.length k2), (.slice p3 y.bs.length k3)] 30).nx hb2
        have hB2 := (hB.al (.cells #[.string y.n, .string y.r, .slice p1 y.ps.length k1, .slice p2 y.vs.length k2, .slice p3 y.bs.length k3] 30)).nx hb2
        have hb3 := (hb.alloc hb.size (.cells #[.string y.n, .string y.r, .slice p1 y.ps.length k1, .slice p2 y.vs.length k2, .slice p3 y.bs.length k3] 30)).trans (hb2.mono (hb.alloc hb.size _).size)
        have d0 := hA2.c 0 _ rfl
        have d1 := hA2.c 1 _ rfl
        have d2 := hA2.c 2 _ rfl
        have d3 := hA2.c 3 _ rfl
        have d4 := hA2.c 4 _ rfl
        clear hB hb hb2 c0 c1 c2 c3 c4 r1 r2 r3
        go_wp2_with fail
        go_roundw
        case rel => exact ⟨q + 1, by omega, by go_num, hb3, hB2, hf⟩
        case measure => simp [intOf]; omega
set_option maxHeartbeats 1000000 in
theorem nameX_val (s : ByteArray) (k : Int) (w : World) : Calls Tryd.prog 30 #[.agg #[.string s, .int .i64 k]] w fun e w' => e = .returned (.string s) ∧ Below w.heap.size w w' := by
  go_enter Tryd.func30, Tryd.ntmps30
  go_wp2
  go_ret
  exact ⟨rfl, (Below.refl _ _).alloc (Nat.le_refl _) _⟩
set_option maxHeartbeats 4000000 in
theorem findX_val {w0 w : World} (h0 : Below w0.heap.size w0 w) {l : List Ex} {v : Value} (hl : Row AtX 2 w0 v l) (x : ByteArray) :
    Calls Tryd.prog 60 #[v, .string x, .func (Fn.func 30) #[] #[]] w fun e w' => Below w.heap.size w w' ∧ OutX w0 (findB Ex.n x l) e := by
  obtain ⟨p, cu, rfl, -, hn, hl⟩ := hl
  generalize hf : findB Ex.n x l = r0
  go_enter Tryd.func60, Tryd.ntmps60
  go_wp2
  go_loopw [13] (fun i wr => ∃ q : Nat, q ≤ l.length ∧ i = .int .i64 (q : Int) ∧ Below w.heap.size w wr ∧ Box wr w.heap.size [(.string ⟨#[]⟩), (.int .i64 0)] ∧ findB Ex.n x (l.drop q) = r0) (fun i _ => l.length - (intOf i).toNat)
  case atStart => exact ⟨0, Nat.zero_le _, rfl, (Below.refl _ _).alloc (Nat.le_refl _) _, Box.alloc w [(.string ⟨#[]⟩), (.int .i64 0)] _, hf⟩
  case round =>
    obtain ⟨q, hq, rfl, hb, hB, hf⟩ := hrel
    by_cases hend : q = l.length
    · subst hend
      rw [List.drop_length] at hf
      subst hf
      clear hl
      have c0 := (hB.al (.cells #[.string ⟨#[]⟩, .int .i64 0] 77)).c 0 _ rfl
      have f0 := (hB.al (.cells #[.string ⟨#[]⟩, .int .i64 0] 77)).f 0 (by simp)
      have c1 := (hB.al (.cells #[.string ⟨#[]⟩, .int .i64 0] 77)).c 1 _ rfl
      have f1 := (hB.al (.cells #[.string ⟨#[]⟩, .int .i64 0] 77)).f 1 (by simp)
      have hb2 := hb.alloc hb.size (.cells #[.string ⟨#[]⟩, .int .i64 0] 77)
      have hb2 := hb2.setCell (p := ⟨w.heap.size, 0, none⟩) (Nat.le_refl _) (.string ⟨#[]⟩)
      have hb2 := hb2.setCell (p := ⟨w.heap.size, 1, none⟩) (Nat.le_refl _) (.int .i64 0)
      clear hB hb
      go_wp2
      ((try simp only [Exit.inBlock, Exit.then]); refine bodyPost_ret_by (v := (.tuple #[.agg #[.string ⟨#[]⟩, .int .i64 0], .bool false])) ((results_cell_tmp rfl _ _ _).trans (by go_simp; try rfl)) rfl ?_)
      exact ⟨hb2, rfl⟩
    · have hlt : q < l.length := by omega
      have hltI : (q : Int) < (l.length : Int) := by omega
      rw [List.drop_eq_getElem_cons hlt, findB] at hf
      obtain ⟨a, rfl, hA⟩ := hl q l[q] (by simp [hlt])
      clear hl
      generalize l[q] = y at *
      obtain ⟨⟨c0, z0⟩, c1⟩ := hA
      have hb0 := bthen' h0 hb
      have c0 := keepc hb0 c0
      have c1 := keepc hb0 c1
      by_cases hy : y.n = x
      · have he := seq_t hy
        rw [if_pos hy] at hf
        subst hf
        clear hend hq hlt hy
        go_wp2_with fail
        refine (nameX_val _ _ _).mono ?_
        rintro e w2 ⟨rfl, hb2⟩
        have hA2 := (Box.alloc wr [(.string y.n), (.int .i64 y.k)] 77).nx hb2
        have hB2 := (hB.al (.cells #[.string y.n, .int .i64 y.k] 77)).nx hb2
        have hb3 := (hb.alloc hb.size (.cells #[.string y.n, .int .i64 y.k] 77)).trans (hb2.mono (hb.alloc hb.size _).size)
        have d0 := hA2.c 0 _ rfl
        have e0 := hB2.c 0 _ rfl
        have f0 := hB2.f 0 (by simp)
        have d1 := hA2.c 1 _ rfl
        have e1 := hB2.c 1 _ rfl
        have f1 := hB2.f 1 (by simp)
        have hlt2 := hA2.lt
        have hlw : w.heap.size ≤ wr.heap.size := hb.size
        have hwl := hB.lt
        have hb4 := hb3
        have hb4 := hb4.setCell (p := ⟨w.heap.size, 0, none⟩) (Nat.le_refl _) (.string y.n)
        have hb4 := hb4.setCell (p := ⟨w.heap.size, 1, none⟩) (Nat.le_refl _) (.int .i64 y.k)
        clear hB hb hb2 hA2 hB2 hb3 c0 c1
        go_wp2_with fail
        ((try simp only [Exit.inBlock, Exit.then]); refine bodyPost_ret_by (v := (.tuple #[.agg #[.string y.n, .int .i64 y.k], .bool true])) ((results_cell_tmp rfl _ _ _).trans (by go_simp; try rfl)) rfl ?_)
        exact ⟨hb4, rfl, z0⟩
      · have he := seq_f hy
        rw [if_neg hy] at hf
        go_wp2_with fail
        refine (nameX_val _ _ _).mono ?_
        rintro e w2 ⟨rfl, hb2⟩
        have hA2 := (Box.alloc wr [(.string y.n), (.int .i64 y.k)] 77).nx hb2
        have hB2 := (hB.al (.cells #[.string y.n, .int .i64 y.k] 77)).nx hb2
        have hb3 := (hb.alloc hb.size (.cells #[.string y.n, .int .i64 y.k] 77)).trans (hb2.mono (hb.alloc hb.size _).size)
        have d0 := hA2.c 0 _ rfl
        have d1 := hA2.c 1 _ rfl
        clear hB hb hb2 c0 c1
        go_wp2_with fail
        go_roundw
        case rel => exact ⟨q + 1, by omega, by go_num, hb3, hB2, hf⟩
        case measure => simp [intOf]; omega
end Go.Proofs.YtjohjpjpfglkkaaDoor
