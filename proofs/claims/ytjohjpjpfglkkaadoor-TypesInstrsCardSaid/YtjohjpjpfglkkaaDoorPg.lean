/- Programs in memory. -/
import Derived.Test.YtjohjpjpfglkkaaDoorSee
import Derived.Test.YtjohjpjpfglkkaaDoorBox
namespace Go.Proofs.YtjohjpjpfglkkaaDoor
open Go Go.RowKit

structure Vr where (n t : ByteArray)
structure Cl where (n : ByteArray) (fs : List Vr)
structure Ex where (n : ByteArray) (k : Int)
structure Ag where (k : Int) (s : ByteArray) (n : Int)
structure Bd where (n : ByteArray) (a : Ag)
structure Fr where (f b : ByteArray) (i : Int) (vs : List Bd)
structure Vt where (c : ByteArray) (vs : List Ag)
structure Is where (op : Int) (d n : ByteArray) (as : List Ag) (fr : List Fr) (ob : List Vt)
structure Inn where (b : ByteArray) (a : Ag)
structure Ph where (d : ByteArray) (is : List Inn)
structure Tm where (k : Int) (a : Ag) (to : List ByteArray) (n : Int)
structure Bk where (n : ByteArray) (ps : List Ph) (cs : List Is) (e : Tm)
structure Fn where (n r : ByteArray) (ps vs : List Vr) (bs : List Bk)
structure Pg where (ssa : Bool) (cs : List Cl) (gs : List Vr) (xs : List Ex) (fs : List Fn)

abbrev At (w : World) (a : Addr) (k : Nat) (v : Value) : Prop := w.cell? ⟨a.block, a.off + k, none⟩ = some v
abbrev Sz (s : ByteArray) : Prop := s.size ≤ 140737488351232
/-! what lies at an address -/
def AtS (w : World) (a : Addr) (x : ByteArray) : Prop := w.cell? a = some (.string x) ∧ Sz x
def AtV (w : World) (a : Addr) (x : Vr) : Prop := (w.cell? a = some (.string x.n) ∧ Sz x.n) ∧ At w a 1 (.string x.t) ∧ Sz x.t
def AtC (w : World) (a : Addr) (x : Cl) : Prop := (w.cell? a = some (.string x.n) ∧ Sz x.n) ∧ ∃ u, At w a 1 u ∧ Row AtV 2 w u x.fs
def AtX (w : World) (a : Addr) (x : Ex) : Prop := (w.cell? a = some (.string x.n) ∧ Sz x.n) ∧ At w a 1 (.int .i64 x.k)
def AtA (w : World) (a : Addr) (x : Ag) : Prop := w.cell? a = some (.int .i64 x.k) ∧ (At w a 1 (.string x.s) ∧ Sz x.s) ∧ At w a 2 (.int .i64 x.n)
/-- an argument, k cells further on -/
def AtA' (w : World) (a : Addr) (k : Nat) (x : Ag) : Prop := At w a k (.int .i64 x.k) ∧ (At w a (k + 1) (.string x.s) ∧ Sz x.s) ∧ At w a (k + 2) (.int .i64 x.n)
def AtB (w : World) (a : Addr) (x : Bd) : Prop := (w.cell? a = some (.string x.n) ∧ Sz x.n) ∧ AtA' w a 1 x.a
def AtFr (w : World) (a : Addr) (x : Fr) : Prop := (w.cell? a = some (.string x.f) ∧ Sz x.f) ∧ (At w a 1 (.string x.b) ∧ Sz x.b) ∧ At w a 2 (.int .i64 x.i) ∧ ∃ u, At w a 3 u ∧ Row AtB 4 w u x.vs
def AtVt (w : World) (a : Addr) (x : Vt) : Prop := (w.cell? a = some (.string x.c) ∧ Sz x.c) ∧ ∃ u, At w a 1 u ∧ Row AtA 3 w u x.vs
def AtI (w : World) (a : Addr) (x : Is) : Prop := w.cell? a = some (.int .i64 x.op) ∧ (At w a 1 (.string x.d) ∧ Sz x.d) ∧ (At w a 2 (.string x.n) ∧ Sz x.n) ∧
  (∃ u, At w a 3 u ∧ Row AtA 3 w u x.as) ∧ (∃ u, At w a 4 u ∧ Row AtFr 4 w u x.fr) ∧ ∃ u, At w a 5 u ∧ Row AtVt 2 w u x.ob
def AtIn (w : World) (a : Addr) (x : Inn) : Prop := (w.cell? a = some (.string x.b) ∧ Sz x.b) ∧ AtA' w a 1 x.a
def AtPh (w : World) (a : Addr) (x : Ph) : Prop := (w.cell? a = some (.string x.d) ∧ Sz x.d) ∧ ∃ u, At w a 1 u ∧ Row AtIn 4 w u x.is
/-- an end, k cells further on -/
def AtT' (w : World) (a : Addr) (k : Nat) (x : Tm) : Prop := At w a k (.int .i64 x.k) ∧ AtA' w a (k + 1) x.a ∧ (∃ u, At w a (k + 4) u ∧ Row AtS 1 w u x.to) ∧ At w a (k + 5) (.int .i64 x.n)
def AtBk (w : World) (a : Addr) (x : Bk) : Prop := (w.cell? a = some (.string x.n) ∧ Sz x.n) ∧ (∃ u, At w a 1 u ∧ Row AtPh 2 w u x.ps) ∧ (∃ u, At w a 2 u ∧ Row AtI 6 w u x.cs) ∧ AtT' w a 3 x.e
def AtF (w : World) (a : Addr) (x : Fn) : Prop := (w.cell? a = some (.string x.n) ∧ Sz x.n) ∧ (At w a 1 (.string x.r) ∧ Sz x.r) ∧
  (∃ u, At w a 2 u ∧ Row AtV 2 w u x.ps) ∧ (∃ u, At w a 3 u ∧ Row AtV 2 w u x.vs) ∧ ∃ u, At w a 4 u ∧ Row AtBk 9 w u x.bs

/-! what stays while old memory stays -/
section
variable {w w' : World} (hb : Below w.heap.size w w')
include hb
theorem keepc {a : Addr} {v : Value} (h : w.cell? a = some v) : w'.cell? a = some v := by rw [hb.cell (World.block_lt_of_cell? w _ h)]; exact h
theorem AtS.kp {a x} (h : AtS w a x) : AtS w' a x := ⟨keepc hb h.1, h.2⟩
theorem AtV.kp {a x} (h : AtV w a x) : AtV w' a x := ⟨⟨keepc hb h.1.1, h.1.2⟩, keepc hb h.2.1, h.2.2⟩
theorem AtC.kp {a x} (h : AtC w a x) : AtC w' a x := by
  obtain ⟨h1, u, h2, h3⟩ := h
  exact ⟨⟨keepc hb h1.1, h1.2⟩, u, keepc hb h2, h3.map fun _ _ => AtV.kp hb⟩
theorem AtX.kp {a x} (h : AtX w a x) : AtX w' a x := ⟨⟨keepc hb h.1.1, h.1.2⟩, keepc hb h.2⟩
theorem AtA.kp {a x} (h : AtA w a x) : AtA w' a x := ⟨keepc hb h.1, ⟨keepc hb h.2.1.1, h.2.1.2⟩, keepc hb h.2.2⟩
theorem AtA'.kp {a k x} (h : AtA' w a k x) : AtA' w' a k x := ⟨keepc hb h.1, ⟨keepc hb h.2.1.1, h.2.1.2⟩, keepc hb h.2.2⟩
theorem AtB.kp {a x} (h : AtB w a x) : AtB w' a x := ⟨⟨keepc hb h.1.1, h.1.2⟩, h.2.kp hb⟩
theorem AtFr.kp {a x} (h : AtFr w a x) : AtFr w' a x := by
  obtain ⟨h1, h2, h3, u, h4, h5⟩ := h
  exact ⟨⟨keepc hb h1.1, h1.2⟩, ⟨keepc hb h2.1, h2.2⟩, keepc hb h3, u, keepc hb h4, h5.map fun _ _ => AtB.kp hb⟩
theorem AtVt.kp {a x} (h : AtVt w a x) : AtVt w' a x := by
  obtain ⟨h1, u, h4, h5⟩ := h
  exact ⟨⟨keepc hb h1.1, h1.2⟩, u, keepc hb h4, h5.map fun _ _ => AtA.kp hb⟩
theorem AtI.kp {a x} (h : AtI w a x) : AtI w' a x := by
  obtain ⟨h1, h2, h3, ⟨u, h4, h5⟩, ⟨u2, h6, h7⟩, u3, h8, h9⟩ := h
  exact ⟨keepc hb h1, ⟨keepc hb h2.1, h2.2⟩, ⟨keepc hb h3.1, h3.2⟩, ⟨u, keepc hb h4, h5.map fun _ _ => AtA.kp hb⟩, ⟨u2, keepc hb h6, h7.map fun _ _ => AtFr.kp hb⟩, u3, keepc hb h8, h9.map fun _ _ => AtVt.kp hb⟩
theorem AtIn.kp {a x} (h : AtIn w a x) : AtIn w' a x := ⟨⟨keepc hb h.1.1, h.1.2⟩, h.2.kp hb⟩
theorem AtPh.kp {a x} (h : AtPh w a x) : AtPh w' a x := by
  obtain ⟨h1, u, h4, h5⟩ := h
  exact ⟨⟨keepc hb h1.1, h1.2⟩, u, keepc hb h4, h5.map fun _ _ => AtIn.kp hb⟩
theorem AtT'.kp {a k x} (h : AtT' w a k x) : AtT' w' a k x := by
  obtain ⟨h1, h2, ⟨u, h4, h5⟩, h6⟩ := h
  exact ⟨keepc hb h1, h2.kp hb, ⟨u, keepc hb h4, h5.map fun _ _ => AtS.kp hb⟩, keepc hb h6⟩
theorem AtBk.kp {a x} (h : AtBk w a x) : AtBk w' a x := by
  obtain ⟨h1, ⟨u, h2, h3⟩, ⟨u2, h4, h5⟩, h6⟩ := h
  exact ⟨⟨keepc hb h1.1, h1.2⟩, ⟨u, keepc hb h2, h3.map fun _ _ => AtPh.kp hb⟩, ⟨u2, keepc hb h4, h5.map fun _ _ => AtI.kp hb⟩, h6.kp hb⟩
theorem AtF.kp {a x} (h : AtF w a x) : AtF w' a x := by
  obtain ⟨h1, h0, ⟨u, h2, h3⟩, ⟨u2, h4, h5⟩, u3, h6, h7⟩ := h
  exact ⟨⟨keepc hb h1.1, h1.2⟩, ⟨keepc hb h0.1, h0.2⟩, ⟨u, keepc hb h2, h3.map fun _ _ => AtV.kp hb⟩, ⟨u2, keepc hb h4, h5.map fun _ _ => AtV.kp hb⟩, u3, keepc hb h6, h7.map fun _ _ => AtBk.kp hb⟩
theorem Row.v {v l} (h : Row AtV 2 w v l) : Row AtV 2 w' v l := h.map fun _ _ => AtV.kp hb
theorem Row.cl {v l} (h : Row AtC 2 w v l) : Row AtC 2 w' v l := h.map fun _ _ => AtC.kp hb
theorem Row.x {v l} (h : Row AtX 2 w v l) : Row AtX 2 w' v l := h.map fun _ _ => AtX.kp hb
theorem Row.a {v l} (h : Row AtA 3 w v l) : Row AtA 3 w' v l := h.map fun _ _ => AtA.kp hb
theorem Row.fn {v l} (h : Row AtF 5 w v l) : Row AtF 5 w' v l := h.map fun _ _ => AtF.kp hb
theorem Row.bk {v l} (h : Row AtBk 9 w v l) : Row AtBk 9 w' v l := h.map fun _ _ => AtBk.kp hb
theorem Row.s {v l} (h : Row AtS 1 w v l) : Row AtS 1 w' v l := h.map fun _ _ => AtS.kp hb
end

/-! values -/
structure ValC (w : World) (v : Value) (x : Cl) (u : Value) : Prop where
  e : v = .agg #[.string x.n, u]
  z : Sz x.n
  f : Row AtV 2 w u x.fs
structure ValF (w : World) (v : Value) (x : Fn) (u1 u2 u3 : Value) : Prop where
  e : v = .agg #[.string x.n, .string x.r, u1, u2, u3]
  z : Sz x.n ∧ Sz x.r
  p : Row AtV 2 w u1 x.ps
  v : Row AtV 2 w u2 x.vs
  b : Row AtBk 9 w u3 x.bs
structure ValP (w : World) (v : Value) (x : Pg) (u1 u2 u3 u4 : Value) : Prop where
  e : v = .agg #[.bool x.ssa, u1, u2, u3, u4]
  c : Row AtC 2 w u1 x.cs
  g : Row AtV 2 w u2 x.gs
  xt : Row AtX 2 w u3 x.xs
  f : Row AtF 5 w u4 x.fs
theorem ValC.kp {w w' : World} {v : Value} {x : Cl} {u : Value} (h : ValC w v x u) (hb : Below w.heap.size w w') : ValC w' v x u := ⟨h.e, h.z, h.f.v hb⟩
theorem ValF.kp {w w' : World} {v : Value} {x : Fn} {u1 u2 u3 : Value} (h : ValF w v x u1 u2 u3) (hb : Below w.heap.size w w') : ValF w' v x u1 u2 u3 := ⟨h.e, h.z, h.p.v hb, h.v.v hb, h.b.bk hb⟩
theorem ValP.kp {w w' : World} {v : Value} {x : Pg} {u1 u2 u3 u4 : Value} (h : ValP w v x u1 u2 u3 u4) (hb : Below w.heap.size w w') : ValP w' v x u1 u2 u3 u4 := ⟨h.e, h.c.cl hb, h.g.v hb, h.xt.x hb, h.f.fn hb⟩
end Go.Proofs.YtjohjpjpfglkkaaDoor
