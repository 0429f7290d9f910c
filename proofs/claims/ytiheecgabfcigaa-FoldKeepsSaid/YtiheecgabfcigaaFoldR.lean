/- The walks of the reference's package fold: the small functions; a region that ends in a store of its result. -/
import Derived.Test.YtiheecgabfcigaaFoldG
import Derived.Test.YtiheecgabfcigaaNumE
import Derived.Test.YtiheecgabfcigaaFloW
import Derived.Test.YtiheecgabfcigaaFloIW
namespace Go.Proofs.Ytiheecgabfcigaa
open Go.RowKit Num Flo

theorem rn_val (n : Int) (w : World) : Calls Try.prog 24 #[.int .i64 n] w fun e w' => e = .returned (.agg #[.int .i64 2, .string .empty, .int .i64 n]) ∧ Below w.heap.size w w' := by
  go_enter Try.func24, Try.ntmps24
  go_wp2
  ((try simp only [Exit.inBlock, Exit.then]); refine bodyPost_ret_by (v := (.agg #[.int .i64 2, .string .empty, .int .i64 n])) ((results_cell1 rfl _ _ _).trans (by go_simp; try rfl)) rfl ⟨rfl, ?_⟩)
  (repeat (first | with_reducible assumption | exact (Below.refl _ _).alloc (Nat.le_refl _) _ | exact Below.refl _ _ | (refine Below.drew ?_) | (refine Below.setCell ?_ ?_ _; rotate_left; first | exact Nat.le_refl _ | (dsimp only; omega)) | (refine Below.alloc ?_ ?_ _; rotate_left; first | exact Nat.le_refl _ | (simp; omega) | simp)))
theorem rf_val (n : Int) (w : World) : Calls Try.prog 22 #[.int .i64 n] w fun e w' => e = .returned (.agg #[.int .i64 3, .string .empty, .int .i64 n]) ∧ Below w.heap.size w w' := by
  go_enter Try.func22, Try.ntmps22
  go_wp2
  ((try simp only [Exit.inBlock, Exit.then]); refine bodyPost_ret_by (v := (.agg #[.int .i64 3, .string .empty, .int .i64 n])) ((results_cell1 rfl _ _ _).trans (by go_simp; try rfl)) rfl ⟨rfl, ?_⟩)
  (repeat (first | with_reducible assumption | exact (Below.refl _ _).alloc (Nat.le_refl _) _ | exact Below.refl _ _ | (refine Below.drew ?_) | (refine Below.setCell ?_ ?_ _; rotate_left; first | exact Nat.le_refl _ | (dsimp only; omega)) | (refine Below.alloc ?_ ?_ _; rotate_left; first | exact Nat.le_refl _ | (simp; omega) | simp)))
/-- the first of two that applies -/
def eitherV (f : Bool) (K : Int) (s : ByteArray) (n : Int) (g : Bool) (K2 : Int) (s2 : ByteArray) (n2 : Int) : Int × ByteArray × Int × Bool :=
  if f then (K, s, n, true) else if g then (K2, s2, n2, true) else (0, .empty, 0, false)
theorem either_val (f : Bool) (K : Int) (s : ByteArray) (n : Int) (g : Bool) (K2 : Int) (s2 : ByteArray) (n2 : Int) (k : Int) (t : ByteArray) (j : Int) (b : Bool) (h : eitherV f K s n g K2 s2 n2 = (k, t, j, b)) (w : World) :
    Calls Try.prog 28 #[.bool f, .agg #[.int .i64 K, .string s, .int .i64 n], .bool g, .agg #[.int .i64 K2, .string s2, .int .i64 n2]] w fun e w' => e = .returned (.tuple #[.agg #[.int .i64 k, .string t, .int .i64 j], .bool b]) ∧ Below w.heap.size w w' := by
  unfold eitherV at h
  cases f <;> cases g <;> simp only [Bool.false_eq_true, if_true, if_false, Prod.mk.injEq] at h <;> obtain ⟨rfl, rfl, rfl, rfl⟩ := h
  all_goals
    go_enter Try.func28, Try.ntmps28
    go_wp2
    ((try simp only [Exit.inBlock, Exit.then]); refine bodyPost_ret_by (v := (.tuple #[.agg #[.int .i64 _, .string _, .int .i64 _], .bool _])) ((results_cell_tmp rfl _ _ _).trans (by go_simp; try rfl)) rfl ⟨rfl, ?_⟩)
    (repeat (first | with_reducible assumption | exact (Below.refl _ _).alloc (Nat.le_refl _) _ | exact Below.refl _ _ | (refine Below.drew ?_) | (refine Below.setCell ?_ ?_ _; rotate_left; first | exact Nat.le_refl _ | (dsimp only; omega)) | (refine Below.alloc ?_ ?_ _; rotate_left; first | exact Nat.le_refl _ | (simp; omega) | simp)))

/-- a region whose one store comes behind all else: what holds ahead of the store, number st, and behind it -/
def SStore (st : Nat) (I J : World → Prop) (L : Nat → Bool) (w : World) : Prop := (L st = false → I w) ∧ (L st = true → J w)
theorem SStore.start {st : Nat} {I J : World → Prop} {w : World} (h : I w) : SStore st I J (fun _ => false) w := ⟨fun _ => h, fun e => Bool.noConfusion e⟩
theorem SStore.keep {st : Nat} {I J : World → Prop} {L : Nat → Bool} {i : Nat} {w : World} (hl : L st = false) (h : I w) (hne : (st == i) = false) : SStore st I J (upd L i) w := by
  have e : upd L i st = false := by rw [upd_ne hne]; exact hl
  exact ⟨fun _ => h, fun e' => by rw [e] at e'; cases e'⟩
theorem SStore.done {st : Nat} {I J : World → Prop} {L : Nat → Bool} {w : World} (h : J w) : SStore st I J (upd L st) w := ⟨(fun e => by rw [upd_self] at e; cases e), fun _ => h⟩
theorem SStore.pass {st : Nat} {I J : World → Prop} {L : Nat → Bool} {i : Nat} {w : World} (h : SStore st I J L w) (hne : (st == i) = false) : SStore st I J (upd L i) w := by
  unfold SStore
  rw [upd_ne hne]
  exact h
theorem SStore.behind {st : Nat} {I J : World → Prop} {L : Nat → Bool} {i : Nat} {w : World} (h : SStore st I J L w) (hl : L st = true) (hne : (st == i) = false) : SStore st I J (upd L i) w := by
  have e : upd L i st = true := by rw [upd_ne hne]; exact hl
  exact ⟨(fun e' => by rw [e] at e'; cases e'), fun _ => h.2 hl⟩

/-- what the reference's 'Instr' has made ahead of its switch -/
structure RefSt (w wx : World) (p14 p15 : Nat) (K : Int) (s : ByteArray) (n K2 : Int) (s2 : ByteArray) (n2 : Int) : Prop where
  r : Box wx (w.heap.size + 1) [.int .i64 0, .string { data := #[] }, .int .i64 0]
  z : Box wx (w.heap.size + 1 + 1) [.int .i64 0, .string { data := #[] }, .int .i64 0]
  a : Box wx (w.heap.size + 1 + 1 + 1) [.int .i64 K, .string s, .int .i64 n]
  b : Box wx (w.heap.size + 1 + 1 + 1 + 1) [.int .i64 K2, .string s2, .int .i64 n2]
  m : Box wx p14 [.int .i64 3, .string .empty, .int .i64 (-9223372036854775808)]
  u : Box wx p15 [.int .i64 3, .string .empty, .int .i64 4607182418800017408]
  h : Below w.heap.size w wx
theorem RefSt.next {w wx w1 : World} {p14 p15 : Nat} {K : Int} {s : ByteArray} {n K2 : Int} {s2 : ByteArray} {n2 : Int} (h : RefSt w wx p14 p15 K s n K2 s2 n2) (hb : Below wx.heap.size wx w1) : RefSt w w1 p14 p15 K s n K2 s2 n2 :=
  { r := h.r.nx hb, z := h.z.nx hb, a := h.a.nx hb, b := h.b.nx hb, m := h.m.nx hb, u := h.u.nx hb, h := bthen h.h hb }
theorem RefSt.drew {w wx : World} {p14 p15 : Nat} {K : Int} {s : ByteArray} {n K2 : Int} {s2 : ByteArray} {n2 : Int} (h : RefSt w wx p14 p15 K s n K2 s2 n2) : RefSt w wx.drew p14 p15 K s n K2 s2 n2 :=
  { r := h.r.drew, z := h.z.drew, a := h.a.drew, b := h.b.drew, m := h.m.drew, u := h.u.drew, h := h.h.drew }
/-- behind the store of the result -/
def RefEnd (w : World) (k : Int) (t : ByteArray) (j : Int) (wx : World) : Prop := Box wx (w.heap.size + 1) [.int .i64 k, .string t, .int .i64 j] ∧ Below w.heap.size w wx
theorem RefSt.put {w wx : World} {p14 p15 : Nat} {K : Int} {s : ByteArray} {n K2 : Int} {s2 : ByteArray} {n2 : Int} (h : RefSt w wx p14 p15 K s n K2 s2 n2) (k : Int) (t : ByteArray) (j : Int) :
    RefEnd w k t j (((wx.setCell ⟨w.heap.size + 1, 0, none⟩ (.int .i64 k)).setCell ⟨w.heap.size + 1, 1, none⟩ (.string t)).setCell ⟨w.heap.size + 1, 2, none⟩ (.int .i64 j)) :=
  ⟨h.r.set3 _ _ _, ((h.h.setCell (p := ⟨w.heap.size + 1, 0, none⟩) (Nat.le_succ _) _).setCell (p := ⟨w.heap.size + 1, 1, none⟩) (Nat.le_succ _) _).setCell (p := ⟨w.heap.size + 1, 2, none⟩) (Nat.le_succ _) _⟩

/-- what the reference folds two arguments to -/
def eqN (K : Int) (s : ByteArray) (n m : Int) : Bool := sameV K s n 2 .empty m
def eqF (K : Int) (s : ByteArray) (n m : Int) : Bool := sameV K s n 3 .empty m
def oneB (K : Int) (s : ByteArray) (n K2 : Int) (s2 : ByteArray) (n2 : Int) : Bool := K == 1 && sameV K s n K2 s2 n2
/-- where neither numbers nor floats are reckoned -/
def swV (op K : Int) (s : ByteArray) (n K2 : Int) (s2 : ByteArray) (n2 : Int) : Int × ByteArray × Int × Bool :=
  if op = 1 then eitherV (eqN K2 s2 n2 0) K s n (eqN K s n 0) K2 s2 n2
  else if op = 2 then eitherV (eqN K2 s2 n2 0) K s n (oneB K s n K2 s2 n2) 2 .empty 0
  else if op = 3 then if (eqN K s n 0 || eqN K2 s2 n2 0) = true then (2, .empty, 0, true) else eitherV (eqN K2 s2 n2 1) K s n (eqN K s n 1) K2 s2 n2
  else if op = 4 then eitherV (eqN K2 s2 n2 1) K s n false K s n
  else if op = 5 then eitherV (eqN K2 s2 n2 1 || eqN K2 s2 n2 (-1)) 2 .empty 0 false K s n
  else if op = 6 then if (eqN K s n 0 || eqN K2 s2 n2 0) = true then (2, .empty, 0, true) else eitherV (eqN K2 s2 n2 (-1) || oneB K s n K2 s2 n2) K s n (eqN K s n (-1)) K2 s2 n2
  else if op = 7 then eitherV (eqN K2 s2 n2 0 || oneB K s n K2 s2 n2) K s n (eqN K s n 0) K2 s2 n2
  else if op = 8 then if oneB K s n K2 s2 n2 = true then (2, .empty, 0, true) else eitherV (eqN K2 s2 n2 0) K s n (eqN K s n 0) K2 s2 n2
  else if op = 9 ∨ op = 10 then if eqN K s n 0 = true then (2, .empty, 0, true) else eitherV (K2 == 2 && (IntKind.u64.wrap n2).tmod 64 == 0) K s n false K s n
  else if op = 11 ∨ op = 14 then eitherV (oneB K s n K2 s2 n2) 2 .empty 1 false K s n
  else if op = 12 ∨ op = 13 ∨ op = 20 then eitherV (oneB K s n K2 s2 n2) 2 .empty 0 false K s n
  else if op = 15 then eitherV (eqF K2 s2 n2 (-9223372036854775808)) K s n (eqF K s n (-9223372036854775808)) K2 s2 n2
  else if op = 16 then eitherV (eqF K2 s2 n2 0) K s n false K s n
  else if op = 17 then eitherV (eqF K2 s2 n2 4607182418800017408) K s n (eqF K s n 4607182418800017408) K2 s2 n2
  else if op = 18 then eitherV (eqF K2 s2 n2 4607182418800017408) K s n false K s n
  else if op = 28 then eitherV (oneB K s n K2 s2 n2 || K == 4 && K2 == 4) 2 .empty 1 false K s n
  else (0, .empty, 0, false)
def refV (op K : Int) (s : ByteArray) (n K2 : Int) (s2 : ByteArray) (n2 : Int) : Int × ByteArray × Int × Bool :=
  if K = 2 ∧ K2 = 2 ∧ (doN op n n2).2 = true then (2, .empty, (doN op n n2).1, true)
  else if K = 3 ∧ K2 = 3 ∧ (doV op n n2).2 = true then (if op ≤ 18 then 3 else 2, .empty, (doV op n n2).1, true)
  else swV op K s n K2 s2 n2
end Go.Proofs.Ytiheecgabfcigaa
