/- A drawn region that appends two rows to an empty slice of its own, and lays the slice into a cell; the second row may be a slice of one element, made there. -/
import Derived.Test.YtjohjpjpfglkkaaCel
import Derived.Test.YtjohjpjpfglkkaaSerF
namespace Go.Proofs.Ytjohjpjpfglkkaa
open Go Go.RowKit

/-- numbers: b0 makes the empty slice, a1 and a2 append, bs makes the slice of one, st stores -/
def ApS (Wd : World) (b0 a1 bs a2 st : Nat) (T : TypeId) (sz n m : Nat) (C D one : List Value) (dst : Addr) (V : Nat → Value) (L : Nat → Bool) (v : World) : Prop :=
  (L st = false → Below Wd.heap.size Wd v ∧ (L b0 = true → L a1 = false → v.ownsRow Wd.heap.size T sz (V b0) 0 []) ∧ (L a1 = true → L a2 = false → v.ownsRow Wd.heap.size T sz (V a1) n C) ∧
    (L a2 = true → v.ownsRow Wd.heap.size T sz (V a2) (n + m) (C ++ D)) ∧ (L bs = true → L a2 = false → ∃ pb, V bs = .slice (some ⟨pb, 0, none⟩) 1 1 ∧ Wd.heap.size ≤ pb ∧ pb < v.heap.size ∧ Box v pb one ∧ (L b0 = true → L a1 = false → (V b0).ownBlock ≠ some pb))) ∧
  (L st = true → ∃ W1, Below Wd.heap.size Wd W1 ∧ W1.ownsRow Wd.heap.size T sz (V a2) (n + m) (C ++ D) ∧ v = W1.setCell dst (V a2))
section
variable {Wd v w' : World} {b0 a1 bs a2 st : Nat} {T : TypeId} {sz n m : Nat} {C D one : List Value} {dst : Addr} {V : Nat → Value} {L : Nat → Bool}
theorem ApS.start {V : Nat → Value} (h : Below Wd.heap.size Wd v) : ApS Wd b0 a1 bs a2 st T sz n m C D one dst V (fun _ => false) v :=
  ⟨fun _ => ⟨h, (fun e => by cases e), (fun e => by cases e), (fun e => by cases e), fun e => by cases e⟩, fun e => by cases e⟩
theorem ApS.keep (h : ApS Wd b0 a1 bs a2 st T sz n m C D one dst V L v) {i : Nat} (h0 : (b0 == i) = false) (h1 : (a1 == i) = false) (h2 : (bs == i) = false) (h3 : (a2 == i) = false) (h4 : (st == i) = false) : ApS Wd b0 a1 bs a2 st T sz n m C D one dst V (upd L i) v := by
  unfold ApS
  rw [upd_ne h0, upd_ne h1, upd_ne h2, upd_ne h3, upd_ne h4]
  exact h
theorem ApS.below (h : ApS Wd b0 a1 bs a2 st T sz n m C D one dst V L v) (hst : L st = false) : Below Wd.heap.size Wd v := (h.1 hst).1
/-- the empty slice is made -/
theorem ApS.made (h : ApS Wd b0 a1 bs a2 st T sz n m C D one dst V L v) (hst : L st = false) (h1 : L a1 = false) (h2 : L a2 = false) (n1 : a1 ≠ b0) (n2 : bs ≠ b0) (n3 : a2 ≠ b0) (n4 : st ≠ b0) :
    ApS Wd b0 a1 bs a2 st T sz n m C D one dst (setV V b0 (.slice (some ⟨v.heap.size, 0, none⟩) 0 0)) (upd L b0) (v.alloc (Obj.cells #[] T)) := by
  obtain ⟨hb, -, -, -, h5⟩ := h.1 hst
  have u1 := upd_ne (L := L) (beq_false_of_ne n1)
  have u2 := upd_ne (L := L) (beq_false_of_ne n2)
  have u3 := upd_ne (L := L) (beq_false_of_ne n3)
  have u4 := upd_ne (L := L) (beq_false_of_ne n4)
  refine ⟨fun _ => ⟨hb.alloc hb.size _, fun _ _ => ?_, fun e => ?_, fun e => ?_, fun e e2 => ?_⟩, fun e => ?_⟩
  · rw [setV_self]
    exact own_made' hb.size
  · rw [u1, h1] at e; cases e
  · rw [u3, h2] at e; cases e
  · rw [u2] at e
    obtain ⟨pb, e1, e2, e3, e4, -⟩ := h5 e h2
    refine ⟨pb, by rw [setV_ne _ _ n2]; exact e1, e2, by simp; omega, e4.below e3 ((Below.refl _ _).alloc (Nat.le_refl _) _), fun _ _ => ?_⟩
    rw [setV_self]
    intro e
    have : v.heap.size = pb := by simpa [Value.ownBlock] using e
    omega
  · rw [u4, hst] at e; cases e
/-- the slice of one is made -/
theorem ApS.single (h : ApS Wd b0 a1 bs a2 st T sz n m C D one dst V L v) (hst : L st = false) (h2 : L a2 = false) (n0 : b0 ≠ bs) (n1 : a1 ≠ bs) (n3 : a2 ≠ bs) (n4 : st ≠ bs) :
    ApS Wd b0 a1 bs a2 st T sz n m C D one dst (setV V bs (.slice (some ⟨v.heap.size, 0, none⟩) 1 1)) (upd L bs) (v.alloc (Obj.cells one.toArray T)) := by
  obtain ⟨hb, h3, h4, h5, h6⟩ := h.1 hst
  have u0 := upd_ne (L := L) (beq_false_of_ne n0)
  have u1 := upd_ne (L := L) (beq_false_of_ne n1)
  have u3 := upd_ne (L := L) (beq_false_of_ne n3)
  have u4 := upd_ne (L := L) (beq_false_of_ne n4)
  refine ⟨fun _ => ⟨hb.alloc hb.size _, fun e e1 => ?_, fun e e1 => ?_, fun e => ?_, fun _ _ => ⟨v.heap.size, setV_self _ _ _, hb.size, by simp, Box.alloc _ _ _, fun e e1 => ?_⟩⟩, fun e => ?_⟩
  · rw [u0] at e; rw [u1] at e1
    rw [setV_ne _ _ n0]
    exact World.ownsRow.alloc (h3 e e1) _
  · rw [u1] at e; rw [u3] at e1
    rw [setV_ne _ _ n1]
    exact World.ownsRow.alloc (h4 e e1) _
  · rw [u3, h2] at e; cases e
  · rw [u0] at e
    rw [u1] at e1
    rw [setV_ne _ _ n0]
    intro e8
    have := ((h3 e e1).lt _ e8).2
    omega
  · rw [u4, hst] at e; cases e
/-- the first row is appended -/
theorem ApS.first (h : ApS Wd b0 a1 bs a2 st T sz n m C D one dst V L v) (hst : L st = false) (hb0 : L b0 = true) (h1 : L a1 = false) (h2 : L a2 = false) (n2 : bs ≠ a1) (n3 : a2 ≠ a1) (n4 : st ≠ a1)
    {v' : Value} (ho : w'.ownsRow Wd.heap.size T sz v' n C) (hg : v.grownBy w' (V b0).ownBlock) : ApS Wd b0 a1 bs a2 st T sz n m C D one dst (setV V a1 v') (upd L a1) w' := by
  obtain ⟨hb, h3, h4, h5, h6⟩ := h.1 hst
  have u2 := upd_ne (L := L) (beq_false_of_ne n2)
  have u3 := upd_ne (L := L) (beq_false_of_ne n3)
  have u4 := upd_ne (L := L) (beq_false_of_ne n4)
  have ho0 := h3 hb0 h1
  refine ⟨fun _ => ⟨hb.grown hg hb.size fun k e => (ho0.lt k e).1, fun _ e1 => ?_, fun _ _ => ?_, fun e => ?_, fun e _ => ?_⟩, fun e => ?_⟩
  · rw [upd_self] at e1; cases e1
  · rw [setV_self]; exact ho
  · rw [u3, h2] at e; cases e
  · rw [u2] at e
    obtain ⟨pb, e1, e2, e3, e4, e5⟩ := h6 e h2
    exact ⟨pb, by rw [setV_ne _ _ n2]; exact e1, e2, Nat.lt_of_lt_of_le e3 hg.size, e4.same (hg.block pb e3 fun e => e5 hb0 h1 e.symm), fun _ e1 => by rw [upd_self] at e1; cases e1⟩
  · rw [u4, hst] at e; cases e
/-- the second one -/
theorem ApS.second (h : ApS Wd b0 a1 bs a2 st T sz n m C D one dst V L v) (hst : L st = false) (ha1 : L a1 = true) (h2 : L a2 = false) (n1 : a1 ≠ a2) (n4 : st ≠ a2)
    {v' : Value} (ho : w'.ownsRow Wd.heap.size T sz v' (n + m) (C ++ D)) (hg : v.grownBy w' (V a1).ownBlock) : ApS Wd b0 a1 bs a2 st T sz n m C D one dst (setV V a2 v') (upd L a2) w' := by
  obtain ⟨hb, h3, h4, h5, h6⟩ := h.1 hst
  have u1 := upd_ne (L := L) (beq_false_of_ne n1)
  have u4 := upd_ne (L := L) (beq_false_of_ne n4)
  have ho0 := h4 ha1 h2
  refine ⟨fun _ => ⟨hb.grown hg hb.size fun k e => (ho0.lt k e).1, fun _ e1 => ?_, fun _ e1 => ?_, fun _ => ?_, fun _ e1 => ?_⟩, fun e => ?_⟩
  · rw [u1, ha1] at e1; cases e1
  · rw [upd_self] at e1; cases e1
  · rw [setV_self]; exact ho
  · rw [upd_self] at e1; cases e1
  · rw [u4, hst] at e; cases e
theorem ApS.stored (h : ApS Wd b0 a1 bs a2 st T sz n m C D one dst V L v) (hst : L st = false) (ha2 : L a2 = true) : ApS Wd b0 a1 bs a2 st T sz n m C D one dst V (upd L st) (v.setCell dst (V a2)) :=
  ⟨(fun e => by rw [upd_self] at e; cases e), fun _ => ⟨v, (h.1 hst).1, (h.1 hst).2.2.2.1 ha2, rfl⟩⟩
theorem ApS.done (h : ApS Wd b0 a1 bs a2 st T sz n m C D one dst V L v) (hst : L st = true) : ∃ W1 p c, V a2 = .slice p (n + m) c ∧ Below Wd.heap.size Wd W1 ∧ W1.ownsRow Wd.heap.size T sz (.slice p (n + m) c) (n + m) (C ++ D) ∧ v = W1.setCell dst (.slice p (n + m) c) := by
  obtain ⟨W1, h1, h2, h3⟩ := h.2 hst
  obtain ⟨p, c, e⟩ := own_sl h2
  rw [e] at h2 h3
  exact ⟨W1, p, c, e, h1, h2, h3⟩
end
end Go.Proofs.Ytjohjpjpfglkkaa
