/- A drawn region that asks for a class and lays it into a box of its own; each other operation has a fixed value. -/
import Derived.Test.YtjohjpjpfglkkaaLfio
namespace Go.Proofs.Ytjohjpjpfglkkaa
open Go.RowKit

abbrev clT (n : ByteArray) (m : Nat) (ok : Bool) (q : Option Addr) (c : Nat) : Value := .tuple #[.agg #[.string n, .slice q m c], .bool ok]
/-- number ca asks, mv takes over, ex extracts, al makes the box -/
def ClS (w0 : World) (ca mv ex al : Nat) (n : ByteArray) (m : Nat) (ok : Bool) (V : Nat → Value) (L : Nat → Bool) (w1 : World) : Prop :=
  Below w0.heap.size w0 w1 ∧ (L ca = true → ∃ q c, V ca = clT n m ok q c) ∧ (L mv = true → ∃ q c, V mv = clT n m ok q c) ∧ (L ex = true → ∃ q c, V ex = .agg #[.string n, .slice q m c]) ∧
    (L al = true → ∃ p x y, V al = .pointer (some ⟨p, 0, none⟩) ∧ w0.heap.size ≤ p ∧ p < w1.heap.size ∧ Box w1 p [x, y])
section
variable {w0 w1 w2 : World} {ca mv ex al : Nat} {n : ByteArray} {m : Nat} {ok : Bool} {V : Nat → Value} {L : Nat → Bool}
theorem ClS.start {V : Nat → Value} (h : Below w0.heap.size w0 w1) : ClS w0 ca mv ex al n m ok V (fun _ => false) w1 := ⟨h, (fun e => by cases e), (fun e => by cases e), (fun e => by cases e), fun e => by cases e⟩
theorem ClS.keep (h : ClS w0 ca mv ex al n m ok V L w1) {i : Nat} (h1 : (ca == i) = false) (h2 : (mv == i) = false) (h3 : (ex == i) = false) (h4 : (al == i) = false) : ClS w0 ca mv ex al n m ok V (upd L i) w1 := by
  unfold ClS
  rw [upd_ne h1, upd_ne h2, upd_ne h3, upd_ne h4]
  exact h
theorem ClS.world (h : ClS w0 ca mv ex al n m ok V L w1) (hb : Below w1.heap.size w1 w2) : ClS w0 ca mv ex al n m ok V L w2 := by
  refine ⟨bthen' h.1 hb, h.2.1, h.2.2.1, h.2.2.2.1, fun e => ?_⟩
  obtain ⟨p, x, y, h1, h2, h3, h4⟩ := h.2.2.2.2 e
  exact ⟨p, x, y, h1, h2, Nat.lt_of_lt_of_le h3 hb.size, h4.nx hb⟩
theorem ClS.put (h : ClS w0 ca mv ex al n m ok V L w1) {i : Nat} {v : Value} (a1 : ca = i → ∃ q c, v = clT n m ok q c) (a2 : mv = i → ∃ q c, v = clT n m ok q c) (a3 : ex = i → ∃ q c, v = .agg #[.string n, .slice q m c])
    (a4 : al = i → ∃ p x y, v = .pointer (some ⟨p, 0, none⟩) ∧ w0.heap.size ≤ p ∧ p < w1.heap.size ∧ Box w1 p [x, y]) : ClS w0 ca mv ex al n m ok (setV V i v) (upd L i) w1 := by
  refine ⟨h.1, fun e => ?_, fun e => ?_, fun e => ?_, fun e => ?_⟩
  · by_cases hi : ca = i
    · rw [hi, setV_self]; exact a1 hi
    · rw [setV_ne V v hi]; rw [upd_ne (beq_false_of_ne hi)] at e; exact h.2.1 e
  · by_cases hi : mv = i
    · rw [hi, setV_self]; exact a2 hi
    · rw [setV_ne V v hi]; rw [upd_ne (beq_false_of_ne hi)] at e; exact h.2.2.1 e
  · by_cases hi : ex = i
    · rw [hi, setV_self]; exact a3 hi
    · rw [setV_ne V v hi]; rw [upd_ne (beq_false_of_ne hi)] at e; exact h.2.2.2.1 e
  · by_cases hi : al = i
    · rw [hi, setV_self]; exact a4 hi
    · rw [setV_ne V v hi]; rw [upd_ne (beq_false_of_ne hi)] at e; exact h.2.2.2.2 e
theorem ClS.fill (h : ClS w0 ca mv ex al n m ok V L w1) {p : Nat} (hl : L al = true) (hp : V al = .pointer (some ⟨p, 0, none⟩)) (x y : Value) : ClS w0 ca mv ex al n m ok V L ((w1.setCell ⟨p, 0, none⟩ x).setCell ⟨p, 1, none⟩ y) := by
  obtain ⟨p', x', y', h1, h2, h3, h4⟩ := h.2.2.2.2 hl
  rw [hp] at h1
  obtain rfl : p = p' := by simpa using h1
  refine ⟨(h.1.setCell (p := ⟨p, 0, none⟩) h2 _).setCell (p := ⟨p, 1, none⟩) h2 _, h.2.1, h.2.2.1, h.2.2.2.1, fun _ => ⟨p, x, y, hp, h2, by simpa using h3, ?_⟩⟩
  exact (h4.set (i := 0) (by simp) x).set (i := 1) (by simp) y
end
end Go.Proofs.Ytjohjpjpfglkkaa
