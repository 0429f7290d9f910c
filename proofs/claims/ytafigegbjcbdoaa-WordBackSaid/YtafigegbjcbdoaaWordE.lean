/- Two arguments compared: '==' on api.Arg. -/
import Derived.Test.YtafigegbjcbdoaaWordP
namespace Go.Proofs.Ytafigegbjcbdoaa
open Go.RowKit Word Num Flo

@[go_sem] theorem eqArg (a c b d : Int) (s t : ByteArray) (w : World) : (Op.equalIn 10000 25 (.agg #[.int .i64 a, .string s, .int .i64 b]) (.agg #[.int .i64 c, .string t, .int .i64 d])).run Try.prog w = .ok (a == c && (s.toList == t.toList) && b == d) w := by
  have u3 := Try.underlying3
  have u9 := Try.underlying9
  have u2 := Try.underlying2
  have a3 := Try.isAgg3
  have z3 := Try.sizeOf3
  have a9 := Try.isAgg9
  have z9 := Try.sizeOf9
  have a2 := Try.isAgg2
  have z2 := Try.sizeOf2
  have hS : Try.prog.underlying 25 = some (.struct (Try.prog.fieldsOf 25)) := by kernel_rfl
  have hp : Try.prog.stoodInHeld 25 = false := by kernel_rfl
  rw [show (10000 : Nat) = 9999 + 1 from rfl, run_equalIn_agg w 9999 25 _ _ hS hp]
  simp only [Program.fieldsOf, Try.underlying25]
  go_simp
  by_cases h1 : a = c <;> by_cases h2 : b = d <;> by_cases h3 : s.toList = t.toList <;> simp [h1, h2, h3]

@[go_sem] theorem bld0 (w : World) : (Instr.build 25 #[]).run Try.prog w = .ok (.agg #[.int .i64 0, .string { data := #[] }, .int .i64 0]) w := run_build w 25 _ _ (by kernel_rfl)
@[go_sem] theorem bld1 (a : Int) (s : ByteArray) (w : World) : (Instr.build 25 #[(0, .int .i64 a), (1, .string s)]).run Try.prog w = .ok (.agg #[.int .i64 a, .string s, .int .i64 0]) w := run_build w 25 _ _ (by kernel_rfl)
@[go_sem] theorem bld2 (a b : Int) (w : World) : (Instr.build 25 #[(0, .int .i64 a), (2, .int .i64 b)]).run Try.prog w = .ok (.agg #[.int .i64 a, .string { data := #[] }, .int .i64 b]) w := run_build w 25 _ _ (by kernel_rfl)

theorem aw1 : getA ({ data := #[120, 49] } : ByteArray).data.toList = (1, ({ data := #[120, 49] } : ByteArray).data.toList, 0, true) := by decide +kernel
theorem aw2 : getA ({ data := #[45, 53] } : ByteArray).data.toList = (2, ({ data := #[] } : ByteArray).data.toList, -5, true) := by decide +kernel
theorem aw3 : getA ({ data := #[35, 51] } : ByteArray).data.toList = (5, ({ data := #[] } : ByteArray).data.toList, 3, true) := by decide +kernel
theorem aw4 : getA ({ data := #[105, 110, 116] } : ByteArray).data.toList = (0, ({ data := #[] } : ByteArray).data.toList, 0, false) := by decide +kernel
theorem aw5 : getA ({ data := #[35, 48, 51] } : ByteArray).data.toList = (0, ({ data := #[] } : ByteArray).data.toList, 0, false) := by decide +kernel
theorem aw6 : nameB ({ data := #[95, 97] } : ByteArray).data.toList = true := by decide +kernel
theorem aw7 : nameB ({ data := #[49, 97] } : ByteArray).data.toList = false := by decide +kernel

theorem bnext {a w w' : World} {o : Obj} (h : Below a.heap.size a w) (h2 : Below (w.alloc o).heap.size (w.alloc o) w') : Below a.heap.size a w' :=
  have := h.alloc h.size o
  this.trans (h2.mono this.size)
theorem box3 {w w1 : World} {a b c : Value} {t : TypeId} (h : Below (w.alloc (Obj.cells #[a, b, c] t)).heap.size (w.alloc (Obj.cells #[a, b, c] t)) w1) :
    (∀ o, (w1.alloc o).cell? ⟨w.heap.size, 0, none⟩ = some a) ∧ (∀ o, (w1.alloc o).cell? ⟨w.heap.size, 1, none⟩ = some b) ∧ (∀ o, (w1.alloc o).cell? ⟨w.heap.size, 2, none⟩ = some c) :=
  ⟨fun o => (box6 (h.alloc h.size o)).1, fun o => (box6 (h.alloc h.size o)).2.1, fun o => (box6 (h.alloc h.size o)).2.2.1⟩

set_option maxRecDepth 100000 in
set_option maxHeartbeats 1000000 in
theorem wawake_any (w : World) : Calls Try.prog 8 #[] w fun e w' => e = .returned (.bool true) ∧ Below w.heap.size w w' := by
  have hb := Below.refl w.heap.size w
  go_enter Try.func8, Try.ntmps8
  go_wp2_with (first | ((with_reducible refine (get3_val _ _ _ _ _ aw1 _).mono ?_); rintro e w1 ⟨rfl, h1⟩) | ((with_reducible refine (get3_val _ _ _ _ _ aw2 _).mono ?_); rintro e w2 ⟨rfl, h2⟩) | ((with_reducible refine (get3_val _ _ _ _ _ aw3 _).mono ?_); rintro e w3 ⟨rfl, h3⟩) | ((with_reducible refine (get3_val _ _ _ _ _ aw4 _).mono ?_); rintro e w4 ⟨rfl, h4⟩) | ((with_reducible refine (get3_val _ _ _ _ _ aw5 _).mono ?_); rintro e w5 ⟨rfl, h5⟩; obtain ⟨a0, a1, a2⟩ := box3 (bnext (bnext (bnext h2 h3) h4) h5); obtain ⟨b0, b1, b2⟩ := box3 (bnext (bnext h3 h4) h5); obtain ⟨c0, c1, c2⟩ := box3 (bnext h4 h5)) | ((with_reducible refine (name_val _ _ aw6 _).mono ?_); rintro e w6 ⟨rfl, rfl⟩) | ((with_reducible refine (name_val _ _ aw7 _).mono ?_); rintro e w7 ⟨rfl, rfl⟩))
  go_ret
  exact ⟨rfl, ((bnext (bnext (bnext (bnext (bthen hb h1) h2) h3) h4) h5).alloc (bnext (bnext (bnext (bnext (bthen hb h1) h2) h3) h4) h5).size _)⟩

end Go.Proofs.Ytafigegbjcbdoaa
