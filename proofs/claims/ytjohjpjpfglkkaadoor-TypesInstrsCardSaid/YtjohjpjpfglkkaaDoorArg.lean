/- api.Arg in memory: a struct of three cells behind calls, compared, built, handed back. -/
import Derived.Test.YtjohjpjpfglkkaaDoorKit
import Derived.Test.YtjohjpjpfglkkaaDoorLift
import Derived.Deep.QuietTactic
import Derived.BigQuiet
import Derived.Deep.RegionHeld3
namespace Go.Proofs.YtjohjpjpfglkkaaDoor
open Go.RowKit

theorem str_of {a b : ByteArray} (h : a.data.toList = b.data.toList) : Ending.returned (.string a) = .returned (.string b) := by
  refine ret_str ?_
  cases a; cases b; simpa using h
theorem box6 {w w1 : World} {a b c : Value} {t : TypeId} (h : Below (w.alloc (Obj.cells #[a, b, c] t)).heap.size (w.alloc (Obj.cells #[a, b, c] t)) w1) :
    w1.cell? ⟨w.heap.size, 0, none⟩ = some a ∧ w1.cell? ⟨w.heap.size, 1, none⟩ = some b ∧ w1.cell? ⟨w.heap.size, 2, none⟩ = some c ∧
      w1.frozen? ⟨w.heap.size, 0, none⟩ = false ∧ w1.frozen? ⟨w.heap.size, 1, none⟩ = false ∧ w1.frozen? ⟨w.heap.size, 2, none⟩ = false := by
  have hl : w.heap.size < (w.alloc (Obj.cells #[a, b, c] t)).heap.size := by simp
  refine ⟨?_, ?_, ?_, ?_, ?_, ?_⟩
  · rw [h.cell hl, World.cell?_alloc_mark]; rfl
  · rw [h.cell hl, World.cell?_alloc_mark]; rfl
  · rw [h.cell hl, World.cell?_alloc_mark]; rfl
  · rw [h.frozen hl, World.frozen?_alloc_mark]; rfl
  · rw [h.frozen hl, World.frozen?_alloc_mark]; rfl
  · rw [h.frozen hl, World.frozen?_alloc_mark]; rfl


@[go_sem] theorem eqArg (a c b d : Int) (s t : ByteArray) (w : World) : (Op.equalIn 10000 42 (.agg #[.int .i64 a, .string s, .int .i64 b]) (.agg #[.int .i64 c, .string t, .int .i64 d])).run Tryd.prog w = .ok (a == c && (s.toList == t.toList) && b == d) w := by
  have u3 := Tryd.underlying3
  have u9 := Tryd.underlying9
  have u2 := Tryd.underlying2
  have a3 := Tryd.isAgg3
  have z3 := Tryd.sizeOf3
  have a9 := Tryd.isAgg9
  have z9 := Tryd.sizeOf9
  have a2 := Tryd.isAgg2
  have z2 := Tryd.sizeOf2
  have hS : Tryd.prog.underlying 42 = some (.struct (Tryd.prog.fieldsOf 42)) := by kernel_rfl
  have hp : Tryd.prog.stoodInHeld 42 = false := by kernel_rfl
  rw [show (10000 : Nat) = 9999 + 1 from rfl, run_equalIn_agg w 9999 42 _ _ hS hp]
  simp only [Program.fieldsOf, Tryd.underlying42]
  go_simp
  by_cases h1 : a = c <;> by_cases h2 : b = d <;> by_cases h3 : s.toList = t.toList <;> simp [h1, h2, h3]

@[go_sem] theorem bld0 (w : World) : (Instr.build 42 #[]).run Tryd.prog w = .ok (.agg #[.int .i64 0, .string { data := #[] }, .int .i64 0]) w := run_build w 42 _ _ (by kernel_rfl)
@[go_sem] theorem bld1 (a : Int) (s : ByteArray) (w : World) : (Instr.build 42 #[(0, .int .i64 a), (1, .string s)]).run Tryd.prog w = .ok (.agg #[.int .i64 a, .string s, .int .i64 0]) w := run_build w 42 _ _ (by kernel_rfl)
@[go_sem] theorem bld2 (a b : Int) (w : World) : (Instr.build 42 #[(0, .int .i64 a), (2, .int .i64 b)]).run Tryd.prog w = .ok (.agg #[.int .i64 a, .string { data := #[] }, .int .i64 b]) w := run_build w 42 _ _ (by kernel_rfl)

theorem bnext {a w w' : World} {o : Obj} (h : Below a.heap.size a w) (h2 : Below (w.alloc o).heap.size (w.alloc o) w') : Below a.heap.size a w' :=
  have := h.alloc h.size o
  this.trans (h2.mono this.size)
theorem box3 {w w1 : World} {a b c : Value} {t : TypeId} (h : Below (w.alloc (Obj.cells #[a, b, c] t)).heap.size (w.alloc (Obj.cells #[a, b, c] t)) w1) :
    (∀ o, (w1.alloc o).cell? ⟨w.heap.size, 0, none⟩ = some a) ∧ (∀ o, (w1.alloc o).cell? ⟨w.heap.size, 1, none⟩ = some b) ∧ (∀ o, (w1.alloc o).cell? ⟨w.heap.size, 2, none⟩ = some c) :=
  ⟨fun o => (box6 (h.alloc h.size o)).1, fun o => (box6 (h.alloc h.size o)).2.1, fun o => (box6 (h.alloc h.size o)).2.2.1⟩


theorem results_cell1 {fn : Func} {p : Tmp} {ty : TypeId} (h : fn.results = #[.cell p ty]) (tmps : Array Value) (P : Program) (w : World) :
    (results fn tmps).run P w = ((asAddr (tmps.getD p undef)).run P w).andThen fun a w₁ => (loadVar ty a).run P w₁ := by
  simp only [results, h]
  simp [Sem.run_bind, Result.andThen]

theorem results_tmp_cell {fn : Func} {p u : Tmp} {ty : TypeId} (h : fn.results = #[.tmp u, .cell p ty]) (tmps : Array Value) (P : Program) (w : World) :
    (results fn tmps).run P w =
      ((asAddr (tmps.getD p undef)).run P w).andThen fun a w₁ => ((loadVar ty a).run P w₁).andThen fun v w₂ => .ok (.tuple #[tmps.getD u undef, v]) w₂ := by
  simp only [results, h]
  simp [Sem.run_bind, Result.andThen]

/-! two boxed arguments and a result's cell, behind calls -/
def oArg (K : Int) (s : ByteArray) (n : Int) : Obj := Obj.cells #[.int .i64 K, .string s, .int .i64 n] 42
def In3 (w w' : World) (K : Int) (s : ByteArray) (n K2 : Int) (s2 : ByteArray) (n2 : Int) : Prop :=
  Below (((w.alloc (oArg K s n)).alloc (oArg K2 s2 n2)).alloc (oArg 0 { data := #[] } 0)).heap.size (((w.alloc (oArg K s n)).alloc (oArg K2 s2 n2)).alloc (oArg 0 { data := #[] } 0)) w'
theorem In3.refl {w : World} {K n K2 n2 : Int} {s s2 : ByteArray} : In3 w (((w.alloc (Obj.cells #[.int .i64 K, .string s, .int .i64 n] 42)).alloc (Obj.cells #[.int .i64 K2, .string s2, .int .i64 n2] 42)).alloc (Obj.cells #[.int .i64 0, .string { data := #[] }, .int .i64 0] 42)) K s n K2 s2 n2 := Below.refl _ _
theorem In3.drew {w w1 : World} {K n K2 n2 : Int} {s s2 : ByteArray} (h : In3 w w1 K s n K2 s2 n2) : In3 w w1.drew K s n K2 s2 n2 := Below.drew h
theorem In3.next {w w1 w2 : World} {K n K2 n2 : Int} {s s2 : ByteArray} (h : In3 w w1 K s n K2 s2 n2) (h2 : Below w1.heap.size w1 w2) : In3 w w2 K s n K2 s2 n2 := Below.trans h (h2.mono (Below.size h))
theorem In3.below {w w1 : World} {K n K2 n2 : Int} {s s2 : ByteArray} (h : In3 w w1 K s n K2 s2 n2) : Below w.heap.size w w1 := by
  have hz := (Below.refl w.heap.size w).alloc (Nat.le_refl _) (oArg K s n)
  have hz2 := hz.alloc hz.size (oArg K2 s2 n2)
  have hz3 := hz2.alloc hz2.size (oArg 0 { data := #[] } 0)
  exact hz3.trans (Below.mono h hz3.size)
def In3F (w w1 : World) (K : Int) (s : ByteArray) (n K2 : Int) (s2 : ByteArray) (n2 : Int) : Prop :=
    w1.cell? ⟨w.heap.size, 0, none⟩ = some (.int .i64 K) ∧ w1.cell? ⟨w.heap.size, 1, none⟩ = some (.string s) ∧ w1.cell? ⟨w.heap.size, 2, none⟩ = some (.int .i64 n) ∧
    w1.cell? ⟨w.heap.size + 1, 0, none⟩ = some (.int .i64 K2) ∧ w1.cell? ⟨w.heap.size + 1, 1, none⟩ = some (.string s2) ∧ w1.cell? ⟨w.heap.size + 1, 2, none⟩ = some (.int .i64 n2) ∧
    w1.cell? ⟨w.heap.size + 1 + 1, 0, none⟩ = some (.int .i64 0) ∧ w1.cell? ⟨w.heap.size + 1 + 1, 1, none⟩ = some (.string { data := #[] }) ∧ w1.cell? ⟨w.heap.size + 1 + 1, 2, none⟩ = some (.int .i64 0) ∧
    w1.frozen? ⟨w.heap.size + 1 + 1, 0, none⟩ = false ∧ w1.frozen? ⟨w.heap.size + 1 + 1, 1, none⟩ = false ∧ w1.frozen? ⟨w.heap.size + 1 + 1, 2, none⟩ = false
theorem In3.all {w w1 : World} {K n K2 n2 : Int} {s s2 : ByteArray} (h : In3 w w1 K s n K2 s2 n2) : In3F w w1 K s n K2 s2 n2 := by
  have hs : (w.alloc (oArg K s n)).heap.size = w.heap.size + 1 := by simp
  have hs2 : ((w.alloc (oArg K s n)).alloc (oArg K2 s2 n2)).heap.size = w.heap.size + 1 + 1 := by simp
  have hb2 : Below ((w.alloc (oArg K s n)).alloc (oArg K2 s2 n2)).heap.size ((w.alloc (oArg K s n)).alloc (oArg K2 s2 n2)) w1 := by
    have hz := (Below.refl ((w.alloc (oArg K s n)).alloc (oArg K2 s2 n2)).heap.size ((w.alloc (oArg K s n)).alloc (oArg K2 s2 n2))).alloc (Nat.le_refl _) (oArg 0 { data := #[] } 0)
    exact hz.trans (Below.mono h hz.size)
  have hb : Below (w.alloc (oArg K s n)).heap.size (w.alloc (oArg K s n)) w1 := by
    have hz := (Below.refl (w.alloc (oArg K s n)).heap.size (w.alloc (oArg K s n))).alloc (Nat.le_refl _) (oArg K2 s2 n2)
    exact hz.trans (Below.mono hb2 hz.size)
  obtain ⟨a0, a1, a2, _⟩ := box6 (w := w) (a := .int .i64 K) (b := .string s) (c := .int .i64 n) (t := 42) hb
  obtain ⟨b0, b1, b2, _⟩ := box6 (w := w.alloc (oArg K s n)) (a := .int .i64 K2) (b := .string s2) (c := .int .i64 n2) (t := 42) hb2
  obtain ⟨c0, c1, c2, f0, f1, f2⟩ := box6 (w := (w.alloc (oArg K s n)).alloc (oArg K2 s2 n2)) (a := .int .i64 0) (b := .string { data := #[] }) (c := .int .i64 0) (t := 42) h
  rw [hs] at b0 b1 b2
  rw [hs2] at c0 c1 c2 f0 f1 f2
  exact ⟨a0, a1, a2, b0, b1, b2, c0, c1, c2, f0, f1, f2⟩
end Go.Proofs.YtjohjpjpfglkkaaDoor
