/- api.Arg in memory: a struct of three cells behind calls, compared, built, handed back. -/
import Derived.Test.YtejfienogljboaaDoorKit
import Derived.Test.YtejfienogljboaaDoorLift
import Derived.Deep.QuietTactic
import Derived.BigQuiet
import Derived.Deep.RegionHeld3
namespace Go.Proofs.YtejfienogljboaaDoor
open Go.RowKit

theorem str_of {a b : ByteArray} (h : a.data.toList = b.data.toList) : Ending.returned (.string a) = .returned (.string b) := by
  refine ret_str ?_
  cases a; cases b; simpa using h
theorem box6 {w w1 : World} {a b c : Value} {t : TypeId} (h : Below (w.alloc (Obj.cells #[a, b, c] t)).heap.size (w.alloc (Obj.cells #[a, b, c] t)) w1) :
    w1.cell? ⟨w.heap.size, 0, none⟩ = some a ∧ w1.cell? ⟨w.heap.size, 1, none⟩ = some b ∧ w1.cell? ⟨w.heap.size, 2, none⟩ = some c ∧
      w1.frozen? ⟨w.heap.size, 0, none⟩ = false ∧ w1.frozen? ⟨w.heap.size, 1, none⟩ = false ∧ w1.frozen? ⟨w.heap.size, 2, none⟩ = false := by
  have hl : w.heap.size < (w.alloc (Obj.cells #[a, b, c] t)).heap.size := by simp
  refine ⟨?_, ?_, ?_, ?_, ?_, ?_⟩
  · rw [h.cell hl, World.cell?_alloc_mark]; rfl
  · rw [h.cell hl, World.cell?_alloc_mark]; rfl
  · rw [h.cell hl, World.cell?_alloc_mark]; rfl
  · rw [h.frozen hl, World.frozen?_alloc_mark]; rfl
  · rw [h.frozen hl, World.frozen?_alloc_mark]; rfl
  · rw [h.frozen hl, World.frozen?_alloc_mark]; rfl


theorem bnext {a w w' : World} {o : Obj} (h : Below a.heap.size a w) (h2 : Below (w.alloc o).heap.size (w.alloc o) w') : Below a.heap.size a w' :=
  have := h.alloc h.size o
  this.trans (h2.mono this.size)
theorem box3 {w w1 : World} {a b c : Value} {t : TypeId} (h : Below (w.alloc (Obj.cells #[a, b, c] t)).heap.size (w.alloc (Obj.cells #[a, b, c] t)) w1) :
    (∀ o, (w1.alloc o).cell? ⟨w.heap.size, 0, none⟩ = some a) ∧ (∀ o, (w1.alloc o).cell? ⟨w.heap.size, 1, none⟩ = some b) ∧ (∀ o, (w1.alloc o).cell? ⟨w.heap.size, 2, none⟩ = some c) :=
  ⟨fun o => (box6 (h.alloc h.size o)).1, fun o => (box6 (h.alloc h.size o)).2.1, fun o => (box6 (h.alloc h.size o)).2.2.1⟩


theorem results_cell1 {fn : Func} {p : Tmp} {ty : TypeId} (h : fn.results = #[.cell p ty]) (tmps : Array Value) (P : Program) (w : World) :
    (results fn tmps).run P w = ((asAddr (tmps.getD p undef)).run P w).andThen fun a w₁ => (loadVar ty a).run P w₁ := by
  simp only [results, h]
  simp [Sem.run_bind, Result.andThen]

theorem results_tmp_cell {fn : Func} {p u : Tmp} {ty : TypeId} (h : fn.results = #[.tmp u, .cell p ty]) (tmps : Array Value) (P : Program) (w : World) :
    (results fn tmps).run P w =
      ((asAddr (tmps.getD p undef)).run P w).andThen fun a w₁ => ((loadVar ty a).run P w₁).andThen fun v w₂ => .ok (.tuple #[tmps.getD u undef, v]) w₂ := by
  simp only [results, h]
  simp [Sem.run_bind, Result.andThen]

/-! two boxed arguments and a result's cell, behind calls -/
def In3F (w w1 : World) (K : Int) (s : ByteArray) (n K2 : Int) (s2 : ByteArray) (n2 : Int) : Prop :=
    w1.cell? ⟨w.heap.size, 0, none⟩ = some (.int .i64 K) ∧ w1.cell? ⟨w.heap.size, 1, none⟩ = some (.string s) ∧ w1.cell? ⟨w.heap.size, 2, none⟩ = some (.int .i64 n) ∧
    w1.cell? ⟨w.heap.size + 1, 0, none⟩ = some (.int .i64 K2) ∧ w1.cell? ⟨w.heap.size + 1, 1, none⟩ = some (.string s2) ∧ w1.cell? ⟨w.heap.size + 1, 2, none⟩ = some (.int .i64 n2) ∧
    w1.cell? ⟨w.heap.size + 1 + 1, 0, none⟩ = some (.int .i64 0) ∧ w1.cell? ⟨w.heap.size + 1 + 1, 1, none⟩ = some (.string { data := #[] }) ∧ w1.cell? ⟨w.heap.size + 1 + 1, 2, none⟩ = some (.int .i64 0) ∧
    w1.frozen? ⟨w.heap.size + 1 + 1, 0, none⟩ = false ∧ w1.frozen? ⟨w.heap.size + 1 + 1, 1, none⟩ = false ∧ w1.frozen? ⟨w.heap.size + 1 + 1, 2, none⟩ = false
end Go.Proofs.YtejfienogljboaaDoor
