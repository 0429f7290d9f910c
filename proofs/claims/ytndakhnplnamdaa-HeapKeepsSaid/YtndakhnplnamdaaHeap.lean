/- Heaps in memory: values, objects; the small functions of package heap and of its reference. -/
import Derived.Test.YtndakhnplnamdaaBox
import Derived.Test.YtndakhnplnamdaaArg
import Derived.Test.YtndakhnplnamdaaOpen
namespace Go.Proofs.Ytndakhnplnamdaa
open Go.RowKit

/-- a value: its type, its number -/
abbrev Vl := ByteArray × Int
structure Vals (w : World) (pa : Option Addr) (l : Nat) (vs : Nat → Vl) : Prop where
  at' : 0 < l → ∃ B o, pa = some ⟨B, o, none⟩ ∧ B < w.heap.size ∧ ∀ i, i < l → w.cell? ⟨B, o + i * 2, none⟩ = some (.string (vs i).1) ∧ w.cell? ⟨B, o + i * 2 + 1, none⟩ = some (.int .i64 (vs i).2)
  r : ∀ i, i < l → -9223372036854775808 ≤ (vs i).2 ∧ (vs i).2 ≤ 9223372036854775807
  m : l ≤ 9223372036854775807
theorem Vals.below {w w1 : World} {pa : Option Addr} {l : Nat} {vs : Nat → Vl} (h : Vals w pa l vs) (hb : Below w.heap.size w w1) : Vals w1 pa l vs :=
  { at' := fun hl => by
      obtain ⟨B, o, e, hB, hc⟩ := h.at' hl
      refine ⟨B, o, e, Nat.lt_of_lt_of_le hB hb.size, fun i hi => ?_⟩
      rw [hb.cell hB, hb.cell hB]
      exact hc i hi
    r := h.r
    m := h.m }
/-- an object as it lies: its class, where its values lie, and these -/
structure ObjD where
  c : ByteArray
  p : Option Addr
  l : Nat
  k : Nat
  vs : Nat → Vl
structure Objs (w : World) (ph : Option Addr) (n : Nat) (ob : Nat → ObjD) : Prop where
  at' : 0 < n → ∃ B o, ph = some ⟨B, o, none⟩ ∧ B < w.heap.size ∧ ∀ i, i < n → w.cell? ⟨B, o + i * 2, none⟩ = some (.string (ob i).c) ∧ w.cell? ⟨B, o + i * 2 + 1, none⟩ = some (.slice (ob i).p (ob i).l (ob i).k)
  v : ∀ i, i < n → Vals w (ob i).p (ob i).l (ob i).vs
  m : n ≤ 9223372036854775807
theorem Objs.below {w w1 : World} {ph : Option Addr} {n : Nat} {ob : Nat → ObjD} (h : Objs w ph n ob) (hb : Below w.heap.size w w1) : Objs w1 ph n ob :=
  { at' := fun hl => by
      obtain ⟨B, o, e, hB, hc⟩ := h.at' hl
      refine ⟨B, o, e, Nat.lt_of_lt_of_le hB hb.size, fun i hi => ?_⟩
      rw [hb.cell hB, hb.cell hB]
      exact hc i hi
    v := fun i hi => (h.v i hi).below hb
    m := h.m }

def isRef (s : ByteArray) : Bool := s.toList == [114, 101, 102]
def leadsB (n : Nat) (v : Vl) : Bool := isRef v.1 && decide (1 ≤ v.2) && decide (v.2 ≤ (n : Int))

theorem leadsI {n : Nat} {s : ByteArray} {x : Int} (h : leadsB n (s, x) = true) : 1 ≤ x ∧ x ≤ (n : Int) := by
  unfold leadsB at h
  simp only [Bool.and_eq_true, decide_eq_true_eq] at h
  exact ⟨h.1.2, h.2⟩
set_option maxHeartbeats 400000 in
theorem leads_val (ph : Option Addr) (n ch : Nat) (hn : n ≤ 9223372036854775807) (s : ByteArray) (k : Int) (b : Bool) (h : leadsB n (s, k) = b) (w : World) :
    Calls Try.prog 19 #[.slice ph n ch, .agg #[.string s, .int .i64 k]] w fun e w' => e = .returned (.bool b) ∧ Below w.heap.size w w' := by
  unfold leadsB isRef at h
  dsimp only at h
  rcases e1 : (s.toList == [114, 101, 102]) with _ | _ <;> by_cases h1 : 1 ≤ k <;> by_cases h2 : k ≤ (n : Int)
  all_goals first | (exfalso; omega) | skip
  all_goals
    rw [e1] at h
    simp only [h1, h2, decide_true, decide_false, Bool.and_true, Bool.and_false] at h
    subst h
    go_enter Try.func19, Try.ntmps19
    go_wp2
    go_ret
    exact ⟨by first | rfl | simp, (Below.refl _ _).alloc (Nat.le_refl _) _⟩

/-- the object to which a value leads -/
def objAt (n : Nat) (ob : Nat → ObjD) (v : Vl) : Option ObjD := if leadsB n v = true then some (ob (v.2 - 1).toNat) else none

set_option maxHeartbeats 1000000 in
theorem object_yes (ph : Option Addr) (n ch : Nat) (ob : Nat → ObjD) (s : ByteArray) (k : Int) (h : leadsB n (s, k) = true) (w : World) (hO : Objs w ph n ob) :
    Calls Try.prog 27 #[.slice ph n ch, .agg #[.string s, .int .i64 k]] w fun e w' => e = .returned (.tuple #[.agg #[.string (ob (k - 1).toNat).c, .slice (ob (k - 1).toNat).p (ob (k - 1).toNat).l (ob (k - 1).toNat).k], .bool true]) ∧ Below w.heap.size w w' := by
  unfold leadsB isRef at h
  dsimp only at h
  simp only [Bool.and_eq_true, decide_eq_true_eq] at h
  obtain ⟨⟨e1, h1⟩, h2⟩ := h
  have hm := hO.m
  obtain ⟨B, o, rfl, hB, hc⟩ := hO.at' (by omega)
  obtain ⟨q, rfl⟩ : ∃ q : Nat, k = (q : Int) + 1 := ⟨(k - 1).toNat, by omega⟩
  have hq : q < n := by omega
  have hqq : ((q : Int) + 1 - 1).toNat = q := by omega
  rw [hqq]
  obtain ⟨c0, c1⟩ := hc q hq
  have hB1 : B < w.heap.size + 1 := by omega
  have hB2 : B < w.heap.size + 1 + 1 := by omega
  have ee : s.toList = [114, 101, 102] := by simpa using e1
  have e3 : IntKind.i64.wrap ((q : Int) + 1 - 1) = (q : Int) := by
    have : (q : Int) + 1 - 1 = q := by omega
    rw [this]
    exact IntWalk.i64_in _ (by omega)
  clear e1 hc hO hqq
  go_enter Try.func27, Try.ntmps27
  go_wp2
  ((try simp only [Exit.inBlock, Exit.then]); refine bodyPost_ret_by (v := (.tuple #[.agg #[.string _, .slice _ _ _], .bool true])) ((results_cell_tmp rfl _ _ _).trans (by go_simp; try rfl)) rfl ⟨rfl, ?_⟩)
  (repeat (first | with_reducible assumption | exact (Below.refl _ _).alloc (Nat.le_refl _) _ | exact Below.refl _ _ | (refine Below.drew ?_) | (refine Below.setCell ?_ ?_ _; rotate_left; first | exact Nat.le_refl _ | (dsimp only; omega)) | (refine Below.alloc ?_ ?_ _; rotate_left; first | exact Nat.le_refl _ | (simp; omega) | simp)))
set_option maxHeartbeats 1000000 in
theorem object_no (ph : Option Addr) (n ch : Nat) (_ : n ≤ 9223372036854775807) (s : ByteArray) (k : Int) (h : leadsB n (s, k) = false) (w : World) :
    Calls Try.prog 27 #[.slice ph n ch, .agg #[.string s, .int .i64 k]] w fun e w' => e = .returned (.tuple #[.agg #[.string .empty, .slice none 0 0], .bool false]) ∧ Below w.heap.size w w' := by
  unfold leadsB isRef at h
  dsimp only at h
  have hc : (¬ s.toList = [114, 101, 102]) ∨ (s.toList = [114, 101, 102] ∧ k < 1) ∨ (s.toList = [114, 101, 102] ∧ 1 ≤ k ∧ (n : Int) < k) := by
    by_cases e1 : s.toList = [114, 101, 102]
    · by_cases h1 : 1 ≤ k
      · by_cases h2 : k ≤ (n : Int)
        · simp [e1, h1, h2] at h
        · exact .inr (.inr ⟨e1, h1, by omega⟩)
      · exact .inr (.inl ⟨e1, by omega⟩)
    · exact .inl e1
  clear h
  rcases hc with e1 | ⟨e1, h1⟩ | ⟨e1, h1, h2⟩
  all_goals
    go_enter Try.func27, Try.ntmps27
    go_wp2
    ((try simp only [Exit.inBlock, Exit.then]); refine bodyPost_ret_by (v := (.tuple #[.agg #[.string .empty, .slice none 0 0], .bool false])) ((results_cell_tmp rfl _ _ _).trans (by go_simp; try rfl)) rfl ⟨rfl, ?_⟩)
    (repeat (first | with_reducible assumption | exact (Below.refl _ _).alloc (Nat.le_refl _) _ | exact Below.refl _ _ | (refine Below.drew ?_) | (refine Below.setCell ?_ ?_ _; rotate_left; first | exact Nat.le_refl _ | (dsimp only; omega)) | (refine Below.alloc ?_ ?_ _; rotate_left; first | exact Nat.le_refl _ | (simp; omega) | simp)))
end Go.Proofs.Ytndakhnplnamdaa
