/- The walks of words: reading an argument. -/
import Derived.Test.YtafigegbjcbdoaaWordC
import Derived.Test.YtafigegbjcbdoaaNumB
namespace Go.Proofs.Ytafigegbjcbdoaa
open Go.RowKit Word Num Flo

def numberV (l : List UInt8) : Int × Int × Bool :=
  if (getV l).2 = true then (3, (getV l).1, true) else if (getN l).2 = true then (2, (getN l).1, true) else (0, 0, false)

theorem gget_val (s : ByteArray) (k : Int) (b : Bool) (h : getV s.data.toList = (k, b)) (w : World) :
    Calls Try.prog 30 #[.string s] w fun e w' => e = .returned (.tuple #[.int .i64 k, .bool b]) ∧ Below w.heap.size w w' := by
  refine (get_any s w).mono fun e w' ⟨he, hb⟩ => ⟨?_, hb⟩
  rw [GetIs, h] at he
  exact he
theorem gnget_val (s : ByteArray) (k : Int) (b : Bool) (h : getN s.data.toList = (k, b)) (w : World) :
    Calls Try.prog 20 #[.string s] w fun e w' => e = .returned (.tuple #[.int .i64 k, .bool b]) ∧ Below w.heap.size w w' := by
  refine (nget_any s w).mono fun e w' ⟨he, hb⟩ => ⟨?_, hb⟩
  rw [NGetIs, h] at he
  exact he

theorem box6 {w w1 : World} {a b c : Value} {t : TypeId} (h : Below (w.alloc (Obj.cells #[a, b, c] t)).heap.size (w.alloc (Obj.cells #[a, b, c] t)) w1) :
    w1.cell? ⟨w.heap.size, 0, none⟩ = some a ∧ w1.cell? ⟨w.heap.size, 1, none⟩ = some b ∧ w1.cell? ⟨w.heap.size, 2, none⟩ = some c ∧
      w1.frozen? ⟨w.heap.size, 0, none⟩ = false ∧ w1.frozen? ⟨w.heap.size, 1, none⟩ = false ∧ w1.frozen? ⟨w.heap.size, 2, none⟩ = false := by
  have hl : w.heap.size < (w.alloc (Obj.cells #[a, b, c] t)).heap.size := by simp
  refine ⟨?_, ?_, ?_, ?_, ?_, ?_⟩
  · rw [h.cell hl, World.cell?_alloc_mark]; rfl
  · rw [h.cell hl, World.cell?_alloc_mark]; rfl
  · rw [h.cell hl, World.cell?_alloc_mark]; rfl
  · rw [h.frozen hl, World.frozen?_alloc_mark]; rfl
  · rw [h.frozen hl, World.frozen?_alloc_mark]; rfl
  · rw [h.frozen hl, World.frozen?_alloc_mark]; rfl


set_option maxHeartbeats 1000000 in
theorem number_val (s : ByteArray) (K n : Int) (b : Bool) (h : numberV s.data.toList = (K, n, b)) (w : World) :
    Calls Try.prog 21 #[.string s] w fun e w' => e = .returned (.tuple #[.agg #[.int .i64 K, .string .empty, .int .i64 n], .bool b]) ∧ Below w.heap.size w w' := by
  have hz := (Below.refl w.heap.size w).alloc (Nat.le_refl _) (Obj.cells #[.int .i64 0, .string { data := #[] }, .int .i64 0] 25)
  have hzs : w.heap.size ≤ (w.alloc (Obj.cells #[.int .i64 0, .string { data := #[] }, .int .i64 0] 25)).heap.size := hz.size
  unfold numberV at h
  rcases hv : getV s.data.toList with ⟨k1, b1⟩
  rcases hn : getN s.data.toList with ⟨k2, b2⟩
  rw [hv, hn] at h
  have Hv := Lib.hid hv
  have Hn := Lib.hid hn
  clear hv hn
  cases b1
  · cases b2
    · have hh : ((0:Int), (0:Int), false) = (K, n, b) := h
      obtain ⟨rfl, rfl, rfl⟩ := hh
      clear h
      go_enter Try.func21, Try.ntmps21
      go_wp2_with (first | ((with_reducible refine (gget_val _ _ _ Hv.out _).mono ?_); rintro e w1 ⟨rfl, h0⟩; have hB := hz.trans (h0.mono hzs); obtain ⟨c0, c1, c2, f0, f1, f2⟩ := box6 h0) | ((with_reducible refine (gnget_val _ _ _ Hn.out _).mono ?_); rintro e w2 ⟨rfl, h1⟩; clear c0 c1 c2 f0 f1 f2; replace h0 := h0.trans (h1.mono h0.size); replace hB := hz.trans (h0.mono hzs); obtain ⟨c0, c1, c2, f0, f1, f2⟩ := box6 h0))
      ((try simp only [Exit.inBlock, Exit.then]); refine bodyPost_ret_by (v := (.tuple #[.agg #[.int .i64 0, .string .empty, .int .i64 0], .bool false])) ((results_cell_tmp rfl _ _ _).trans (by go_simp; try rfl)) rfl ⟨rfl, ?_⟩)
      (repeat (first | with_reducible assumption | exact (Below.refl _ _).alloc (Nat.le_refl _) _ | exact Below.refl _ _ | (refine Below.drew ?_) | (refine Below.setCell ?_ ?_ _; rotate_left; first | exact Nat.le_refl _ | (dsimp only; omega)) | (refine Below.alloc ?_ ?_ _; rotate_left; first | exact Nat.le_refl _ | (simp; omega) | simp)))
    · have hh : ((2:Int), k2, true) = (K, n, b) := h
      obtain ⟨rfl, rfl, rfl⟩ := hh
      clear h
      go_enter Try.func21, Try.ntmps21
      go_wp2_with (first | ((with_reducible refine (gget_val _ _ _ Hv.out _).mono ?_); rintro e w1 ⟨rfl, h0⟩; have hB := hz.trans (h0.mono hzs); obtain ⟨c0, c1, c2, f0, f1, f2⟩ := box6 h0) | ((with_reducible refine (gnget_val _ _ _ Hn.out _).mono ?_); rintro e w2 ⟨rfl, h1⟩; clear c0 c1 c2 f0 f1 f2; replace h0 := h0.trans (h1.mono h0.size); replace hB := hz.trans (h0.mono hzs); obtain ⟨c0, c1, c2, f0, f1, f2⟩ := box6 h0))
      ((try simp only [Exit.inBlock, Exit.then]); refine bodyPost_ret_by (v := (.tuple #[.agg #[.int .i64 2, .string .empty, .int .i64 n], .bool true])) ((results_cell_tmp rfl _ _ _).trans (by go_simp; try rfl)) rfl ⟨rfl, ?_⟩)
      (repeat (first | with_reducible assumption | exact (Below.refl _ _).alloc (Nat.le_refl _) _ | exact Below.refl _ _ | (refine Below.drew ?_) | (refine Below.setCell ?_ ?_ _; rotate_left; first | exact Nat.le_refl _ | (dsimp only; omega)) | (refine Below.alloc ?_ ?_ _; rotate_left; first | exact Nat.le_refl _ | (simp; omega) | simp)))
  · have hh : ((3:Int), k1, true) = (K, n, b) := h
    obtain ⟨rfl, rfl, rfl⟩ := hh
    clear h
    go_enter Try.func21, Try.ntmps21
    go_wp2_with (first | ((with_reducible refine (gget_val _ _ _ Hv.out _).mono ?_); rintro e w1 ⟨rfl, h0⟩; have hB := hz.trans (h0.mono hzs); obtain ⟨c0, c1, c2, f0, f1, f2⟩ := box6 h0) | ((with_reducible refine (gnget_val _ _ _ Hn.out _).mono ?_); rintro e w2 ⟨rfl, h1⟩; clear c0 c1 c2 f0 f1 f2; replace h0 := h0.trans (h1.mono h0.size); replace hB := hz.trans (h0.mono hzs); obtain ⟨c0, c1, c2, f0, f1, f2⟩ := box6 h0))
    ((try simp only [Exit.inBlock, Exit.then]); refine bodyPost_ret_by (v := (.tuple #[.agg #[.int .i64 3, .string .empty, .int .i64 n], .bool true])) ((results_cell_tmp rfl _ _ _).trans (by go_simp; try rfl)) rfl ⟨rfl, ?_⟩)
    (repeat (first | with_reducible assumption | exact (Below.refl _ _).alloc (Nat.le_refl _) _ | exact Below.refl _ _ | (refine Below.drew ?_) | (refine Below.setCell ?_ ?_ _; rotate_left; first | exact Nat.le_refl _ | (dsimp only; omega)) | (refine Below.alloc ?_ ?_ _; rotate_left; first | exact Nat.le_refl _ | (simp; omega) | simp)))

end Go.Proofs.Ytafigegbjcbdoaa
