/- The example of the laws. -/
import Derived.Test.YtjohjpjpfglkkaaDoorRth
import Derived.Test.YtjohjpjpfglkkaaDoorSerF
namespace Go.Proofs.YtjohjpjpfglkkaaDoor
open Go.RowKit

def exF : Fn := ⟨⟨#[102]⟩, ⟨#[80]⟩, [⟨⟨#[111]⟩, ⟨#[80]⟩⟩], [⟨⟨#[120]⟩, intS⟩, ⟨⟨#[121]⟩, intS⟩], []⟩
def exP : Pg := ⟨false, [⟨⟨#[80]⟩, [⟨⟨#[97]⟩, intS⟩]⟩], [], [], [exF]⟩

theorem right_on {md : Region.Mode} {ops : Array Oper} {L : Nat → Bool} {i j : Nat} (h : Right md ops L) (hw : waits md ops j i = true) (hj : L j = true) : L i = true := by
  cases e : L i with
  | true => rfl
  | false => have := h j i hw e; rw [hj] at this; cases this
/-- a slice of one element in a block of its own -/
def MadeR (w : World) (b : Nat) (v : Value) (cs : List Value) : Prop := ∃ p, v = .slice (some ⟨p, 0, none⟩) 1 1 ∧ b ≤ p ∧ p < w.heap.size ∧ Box w p cs
theorem MadeR.sl {w : World} {b : Nat} {v : Value} {cs : List Value} (h : MadeR w b v cs) : v = .slice (some ⟨Classical.choose h, 0, none⟩) 1 1 := (Classical.choose_spec h).1
theorem MadeR.nx {w w1 : World} {b : Nat} {v : Value} {cs : List Value} (h : MadeR w b v cs) (hb : Below w.heap.size w w1) : MadeR w1 b v cs := by
  obtain ⟨p, e, h1, h2, h3⟩ := h
  exact ⟨p, e, h1, Nat.lt_of_lt_of_le h2 hb.size, h3.below h2 hb⟩
theorem MadeR.far {w : World} {b : Nat} {v : Value} {cs : List Value} (h : MadeR w b v cs) {q : Addr} (hq : q.block < b) (u : Value) : MadeR (w.setCell q u) b v cs := by
  obtain ⟨p, e, h1, h2, h3⟩ := h
  exact ⟨p, e, h1, by simpa using h2, h3.far (by omega) u⟩
theorem MadeR.new {w : World} {b : Nat} (hb : b ≤ w.heap.size) (cs : List Value) (t : TypeId) : MadeR (w.alloc (Obj.cells cs.toArray t)) b (.slice (some ⟨w.heap.size, 0, none⟩) 1 1) cs := ⟨_, rfl, hb, by simp, Box.alloc w cs t⟩
/-- while the example is made -/
structure ExS (w0 : World) (p0 p1 p2 : Nat) (ca zp zf fc : List Value) (V : Nat → Value) (L : Nat → Bool) (w : World) : Prop where
  b : Below w0.heap.size w0 w
  z : p2 < w.heap.size
  f : Box w p2 fc
  c1 : L 1 = true → MadeR w (p2 + 1) (V 1) ca
  c3 : L 3 = true → MadeR w (p2 + 1) (V 3) [.string ⟨#[80]⟩, V 1]
  c5 : L 5 = true → MadeR w (p2 + 1) (V 5) fc
  p : Box w p0 (if L 8 then [.bool false, V 3, .slice none 0 0, .slice none 0 0, V 5] else zp)
  q : Box w p1 (if L 9 then fc else zf)
section
variable {w0 w : World} {p0 p1 p2 : Nat} {ca zp zf fc : List Value} {V : Nat → Value} {L : Nat → Bool}
theorem ExS.pass (h : ExS w0 p0 p1 p2 ca zp zf fc V L w) {i : Nat} (h1 : (1 == i) = false) (h3 : (3 == i) = false) (h5 : (5 == i) = false) (h8 : (8 == i) = false) (h9 : (9 == i) = false) : ExS w0 p0 p1 p2 ca zp zf fc V (upd L i) w := by
  obtain ⟨a1, a2, a3, a4, a5, a6, a7, a8⟩ := h
  constructor
  · exact a1
  · exact a2
  · exact a3
  · rwa [upd_ne h1]
  · rwa [upd_ne h3]
  · rwa [upd_ne h5]
  · rwa [upd_ne h8]
  · rwa [upd_ne h9]
theorem ExS.m1 (h : ExS w0 p0 p1 p2 ca zp zf fc V L w) (hp : p0 < p2 ∧ p1 < p2) (t : TypeId) (e3 : L 3 = false) (e8 : L 8 = false) : ExS w0 p0 p1 p2 ca zp zf fc (setV V 1 (.slice (some ⟨w.heap.size, 0, none⟩) 1 1)) (upd L 1) (w.alloc (Obj.cells ca.toArray t)) := by
  obtain ⟨a1, a2, a3, a4, a5, a6, a7, a8⟩ := h
  have hb := (Below.refl w.heap.size w).alloc (Nat.le_refl _) (Obj.cells ca.toArray t)
  refine ⟨bthen' a1 hb, by simp; omega, a3.below a2 hb, fun _ => ?_, fun h => ?_, fun h => ?_, ?_, ?_⟩
  · rw [setV_self]; exact MadeR.new a2 _ _
  · rw [upd_ne rfl, e3] at h; cases h
  · rw [upd_ne rfl] at h; rw [setV_ne V _ (by decide)]; exact (a6 h).nx hb
  · rw [upd_ne rfl, e8]; rw [e8] at a7; exact a7.below (by omega) hb
  · rw [upd_ne rfl]; exact a8.below (by omega) hb
theorem ExS.m3 (h : ExS w0 p0 p1 p2 ca zp zf fc V L w) (hp : p0 < p2 ∧ p1 < p2) (t : TypeId) (e8 : L 8 = false) : ExS w0 p0 p1 p2 ca zp zf fc (setV V 3 (.slice (some ⟨w.heap.size, 0, none⟩) 1 1)) (upd L 3) (w.alloc (Obj.cells #[.string ⟨#[80]⟩, V 1] t)) := by
  obtain ⟨a1, a2, a3, a4, a5, a6, a7, a8⟩ := h
  have hb := (Below.refl w.heap.size w).alloc (Nat.le_refl _) (Obj.cells #[.string ⟨#[80]⟩, V 1] t)
  refine ⟨bthen' a1 hb, by simp; omega, a3.below a2 hb, fun h => ?_, fun _ => ?_, fun h => ?_, ?_, ?_⟩
  · rw [upd_ne rfl] at h; rw [setV_ne V _ (by decide)]; exact (a4 h).nx hb
  · rw [setV_self, setV_ne V _ (by decide)]; exact MadeR.new (cs := [.string ⟨#[80]⟩, V 1]) a2 t
  · rw [upd_ne rfl] at h; rw [setV_ne V _ (by decide)]; exact (a6 h).nx hb
  · rw [upd_ne rfl, e8]; rw [e8] at a7; exact a7.below (by omega) hb
  · rw [upd_ne rfl]; exact a8.below (by omega) hb
theorem ExS.m5 (h : ExS w0 p0 p1 p2 ca zp zf fc V L w) (hp : p0 < p2 ∧ p1 < p2) (t : TypeId) (e8 : L 8 = false) : ExS w0 p0 p1 p2 ca zp zf fc (setV V 5 (.slice (some ⟨w.heap.size, 0, none⟩) 1 1)) (upd L 5) (w.alloc (Obj.cells fc.toArray t)) := by
  obtain ⟨a1, a2, a3, a4, a5, a6, a7, a8⟩ := h
  have hb := (Below.refl w.heap.size w).alloc (Nat.le_refl _) (Obj.cells fc.toArray t)
  refine ⟨bthen' a1 hb, by simp; omega, a3.below a2 hb, fun h => ?_, fun h => ?_, fun _ => ?_, ?_, ?_⟩
  · rw [upd_ne rfl] at h; rw [setV_ne V _ (by decide)]; exact (a4 h).nx hb
  · rw [upd_ne rfl] at h; rw [setV_ne V _ (by decide), setV_ne V _ (by decide)]; exact (a5 h).nx hb
  · rw [setV_self]; exact MadeR.new a2 _ _
  · rw [upd_ne rfl, e8]; rw [e8] at a7; exact a7.below (by omega) hb
  · rw [upd_ne rfl]; exact a8.below (by omega) hb
/-- one cell written -/
theorem ExS.set0 (h : ExS w0 p0 p1 p2 ca zp zf fc V L w) (hp : p0 < p2 ∧ p0 ≠ p1 ∧ w0.heap.size ≤ p0) (e8 : L 8 = false) {i : Nat} (hi : i < zp.length) (v : Value) : ExS w0 p0 p1 p2 ca (zp.set i v) zf fc V L (w.setCell ⟨p0, i, none⟩ v) := by
  obtain ⟨a1, a2, a3, a4, a5, a6, a7, a8⟩ := h
  rw [e8] at a7
  refine ⟨a1.setCell (p := ⟨p0, i, none⟩) hp.2.2 v, by simpa using a2, a3.far (by dsimp only; omega) v, fun h => (a4 h).far (by dsimp only; omega) v, fun h => (a5 h).far (by dsimp only; omega) v, fun h => (a6 h).far (by dsimp only; omega) v, ?_, a8.far (by dsimp only; omega) v⟩
  rw [e8]
  exact Box.set a7 hi v
theorem ExS.set1 (h : ExS w0 p0 p1 p2 ca zp zf fc V L w) (hp : p1 < p2 ∧ p0 ≠ p1 ∧ w0.heap.size ≤ p1) (e9 : L 9 = false) {i : Nat} (hi : i < zf.length) (v : Value) : ExS w0 p0 p1 p2 ca zp (zf.set i v) fc V L (w.setCell ⟨p1, i, none⟩ v) := by
  obtain ⟨a1, a2, a3, a4, a5, a6, a7, a8⟩ := h
  rw [e9] at a8
  refine ⟨a1.setCell (p := ⟨p1, i, none⟩) hp.2.2 v, by simpa using a2, a3.far (by dsimp only; omega) v, fun h => (a4 h).far (by dsimp only; omega) v, fun h => (a5 h).far (by dsimp only; omega) v, fun h => (a6 h).far (by dsimp only; omega) v, a7.far (by dsimp only; omega) v, ?_⟩
  rw [e9]
  exact Box.set a8 hi v
theorem ExS.d8 {zp' : List Value} (h : ExS w0 p0 p1 p2 ca [.bool false, V 3, .slice none 0 0, .slice none 0 0, V 5] zf fc V L w) (e8 : L 8 = false) : ExS w0 p0 p1 p2 ca zp' zf fc V (upd L 8) w := by
  obtain ⟨a1, a2, a3, a4, a5, a6, a7, a8⟩ := h
  rw [e8] at a7
  refine ⟨a1, a2, a3, ?_, ?_, ?_, ?_, ?_⟩
  · rwa [upd_ne rfl]
  · rwa [upd_ne rfl]
  · rwa [upd_ne rfl]
  · rw [upd_self]; exact a7
  · rwa [upd_ne rfl]
theorem ExS.d9 {zf' : List Value} (h : ExS w0 p0 p1 p2 ca zp fc fc V L w) (e9 : L 9 = false) : ExS w0 p0 p1 p2 ca zp zf' fc V (upd L 9) w := by
  obtain ⟨a1, a2, a3, a4, a5, a6, a7, a8⟩ := h
  rw [e9] at a8
  refine ⟨a1, a2, a3, ?_, ?_, ?_, ?_, ?_⟩
  · rwa [upd_ne rfl]
  · rwa [upd_ne rfl]
  · rwa [upd_ne rfl]
  · rwa [upd_ne rfl]
  · rw [upd_self]; exact a8
end
end Go.Proofs.YtjohjpjpfglkkaaDoor
