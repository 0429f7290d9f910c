/- The walk of the reference's Instr: two arguments. -/
import Derived.Test.YtiheecgabfcigaaFoldR
import Derived.Deep.Cut
import Derived.Deep.CutRange
namespace Go.Proofs.Ytiheecgabfcigaa
open Go.RowKit Num Flo

theorem nrdo_val (op a b n : Int) (ok : Bool) (h : doN op a b = (n, ok)) (ha : Hid (-9223372036854775808 ≤ a ∧ a ≤ 9223372036854775807)) (hb : Hid (-9223372036854775808 ≤ b ∧ b ≤ 9223372036854775807)) (w : World) :
    Calls Try.prog 26 #[.int .i64 op, .int .i64 a, .int .i64 b] w fun e w' => e = .returned (.tuple #[.int .i64 n, .bool ok]) ∧ Below w.heap.size w w' := by
  have := nrdo_any op a b ha hb w
  rw [h] at this
  exact this
theorem frdo_val (op a b n : Int) (ok : Bool) (h : doV op a b = (n, ok)) (w : World) :
    Calls Try.prog 27 #[.int .i64 op, .int .i64 a, .int .i64 b] w fun e w' => e = .returned (.tuple #[.int .i64 n, .bool ok]) ∧ Below w.heap.size w w' := by
  have := rdo_any op a b w
  rw [h] at this
  exact this
/-- the boxes ahead of the numbers' own arms -/
structure RefPre (w wx : World) (K : Int) (s : ByteArray) (n K2 : Int) (s2 : ByteArray) (n2 : Int) : Prop where
  r : Box wx (w.heap.size + 1) [.int .i64 0, .string { data := #[] }, .int .i64 0]
  z : Box wx (w.heap.size + 1 + 1) [.int .i64 0, .string { data := #[] }, .int .i64 0]
  a : Box wx (w.heap.size + 1 + 1 + 1) [.int .i64 K, .string s, .int .i64 n]
  b : Box wx (w.heap.size + 1 + 1 + 1 + 1) [.int .i64 K2, .string s2, .int .i64 n2]
  h : Below w.heap.size w wx
theorem RefPre.next {w wx w1 : World} {K : Int} {s : ByteArray} {n K2 : Int} {s2 : ByteArray} {n2 : Int} (h : RefPre w wx K s n K2 s2 n2) (hb : Below wx.heap.size wx w1) : RefPre w w1 K s n K2 s2 n2 :=
  { r := h.r.nx hb, z := h.z.nx hb, a := h.a.nx hb, b := h.b.nx hb, h := bthen h.h hb }

theorem RefPre.start {w : World} {op : Int} {d nm : ByteArray} {va vf vo : Value} {K : Int} {s : ByteArray} {n K2 : Int} {s2 : ByteArray} {n2 : Int} :
    RefPre w (((((w.alloc (Obj.cells #[.int .i64 op, .string d, .string nm, va, vf, vo] 26)).alloc (Obj.cells #[.int .i64 0, .string { data := #[] }, .int .i64 0] 30)).alloc (Obj.cells #[.int .i64 0, .string { data := #[] }, .int .i64 0] 30)).alloc
      (Obj.cells #[.int .i64 K, .string s, .int .i64 n] 30)).alloc (Obj.cells #[.int .i64 K2, .string s2, .int .i64 n2] 30)) K s n K2 s2 n2 := by
  obtain ⟨b5, h4⟩ := boxes1 (c1 := [.int .i64 K2, .string s2, .int .i64 n2]) (t1 := 30) (Below.refl _ _)
  obtain ⟨b4, h3⟩ := boxes1 (c1 := [.int .i64 K, .string s, .int .i64 n]) (t1 := 30) h4
  obtain ⟨-, b2, b3, h⟩ := boxes3 (w := w) (c1 := [.int .i64 op, .string d, .string nm, va, vf, vo]) (c2 := [.int .i64 0, .string { data := #[] }, .int .i64 0]) (c3 := [.int .i64 0, .string { data := #[] }, .int .i64 0]) (t1 := 26) (t2 := 30) (t3 := 30) h3
  exact { r := b2, z := b3, a := by simpa using b4, b := by simpa using b5, h := h }

end Go.Proofs.Ytiheecgabfcigaa
