/- Rows of variables appended to rows of the call's own. -/
import Derived.Test.YtjohjpjpfglkkaaDoorPg
import Derived.Test.YtjohjpjpfglkkaaDoorKit
import Derived.Test.YtjohjpjpfglkkaaDoorRowC
namespace Go.Proofs.YtjohjpjpfglkkaaDoor
open Go Go.RowKit

/-- 'append(s, x...)' as one operation of a region, whatever x is -/
theorem wp_append_any {P : Program} {w : World} {o : Oper} {a : Act} {K : Act → World → Prop} {Q : Exit → Act → World → Prop} (s x : Operand) (t : TypeId)
    (ho : o.op = .call { callee := .builtin .append, args := #[s, x], argTypes := #[t, t] })
    (base : Nat) (e : TypeId) (i : TypeInfo) (z : Value) (size bytes : Nat) (ht : P.underlying t = some (.slice e)) (hi : P.info? e = some i) (hz : i.zero = some z)
    (hsize : i.size = size) (hby : i.bytes = bytes) (hzs : z.cells.size = size) (hsz : 0 < size)
    (v : Value) (n : Nat) (xs : List Value) (hs : a.eval s = v) (hown : w.ownsRow base e size v n xs)
    (pa : Option Addr) (m c : Nat) (news : List Value) (hx : a.eval x = .slice pa m c) (hnone : pa = none → m = 0 ∧ c = 0) (hl : news.length = m * size)
    (hnews : ∀ ad, pa = some ad → ∀ j u, news[j]? = some u → w.cell? (ad.add j) = some u) (h1 : ∀ u ∈ news, u.oneCell' = true)
    (h63 : n + m ≤ maxLen) (hbytes : (n + m) * bytes ≤ 140737488355328) (hbase : base ≤ w.heap.size)
    (h : ∀ v' w', w'.ownsRow base e size v' (n + m) (xs ++ news) → w.grownBy w' v.ownBlock → K (a.put o.dst v') w') : o.wp P a w K Q := by
  cases pa with
  | none =>
    obtain ⟨rfl, rfl⟩ := hnone rfl
    have hn : news = [] := List.length_eq_zero_iff.1 (by rw [hl]; simp)
    subst hn
    have hrun := run_append_owned_none (P := P) (w := w) base t o.type e i size ht hi v n xs hown
    unfold Oper.wp
    simp [execOp, ho, resolve, invoke, builtin, hs, hx, hrun, Result.andThen]
    exact h v w (by simpa using hown) (grown_refl _ _)
  | some ad => exact wp_append_own s x t ho base e i z size bytes ht hi hz hsize hby hzs hsz v n xs hs hown ad m c news hx hl (hnews ad rfl) h1 h63 hbytes hbase h
theorem own_made' {W : World} {B : Nat} {e : TypeId} {size : Nat} (hB : B ≤ W.heap.size) : (W.alloc (Obj.cells #[] e)).ownsRow B e size (.slice (some ⟨W.heap.size, 0, none⟩) 0 0) 0 [] :=
  World.ownsRow_made W #[] 0 hB (by decide) (by simp)

/-- the cells of variables -/
def cellsV (l : List Vr) : List Value := l.flatMap fun v => [.string v.n, .string v.t]
theorem cellsV_len (l : List Vr) : (cellsV l).length = l.length * 2 := by
  induction l with
  | nil => rfl
  | cons x r ih => simp [cellsV] at ih ⊢; omega
theorem cellsV_app (a b : List Vr) : cellsV (a ++ b) = cellsV a ++ cellsV b := by simp [cellsV]
theorem cellsV_at : ∀ {l : List Vr} {i : Nat} {x : Vr}, l[i]? = some x → (cellsV l)[i * 2]? = some (.string x.n) ∧ (cellsV l)[i * 2 + 1]? = some (.string x.t)
  | [], i, x, h => by simp at h
  | y :: r, 0, x, h => by
    obtain rfl : y = x := by simpa using h
    simp [cellsV]
  | y :: r, i + 1, x, h => by
    have ih := cellsV_at (l := r) (i := i) (by simpa using h)
    have e : cellsV (y :: r) = .string y.n :: .string y.t :: cellsV r := by simp [cellsV]
    rw [e, show (i + 1) * 2 = i * 2 + 1 + 1 by omega]
    simpa using ih
theorem cellsV_one (l : List Vr) : ∀ u ∈ cellsV l, u.oneCell' = true := by
  intro u hu
  obtain ⟨v, _, hv⟩ := List.mem_flatMap.1 hu
  simp only [List.mem_cons, List.not_mem_nil, or_false] at hv
  rcases hv with rfl | rfl <;> rfl
theorem addAdd (a : Addr) (i j : Nat) : (a.add i).add j = a.add (i + j) := by
  unfold Addr.add
  by_cases hi : i = 0 <;> by_cases hj : j = 0 <;> simp [hi, hj, Nat.add_assoc]
theorem At1 (w : World) (a : Addr) (v : Value) : At w a 1 v ↔ w.cell? (a.add 1) = some v := Iff.rfl
theorem cellsV_cell {w : World} {p : Option Addr} {l : List Vr} (h : ∀ (i : Nat) x, l[i]? = some x → ∃ a, p = some a ∧ AtV w (a.add (i * 2)) x) : ∀ ad, p = some ad → ∀ j u, (cellsV l)[j]? = some u → w.cell? (ad.add j) = some u := by
  intro ad hp j u hu
  have hj : j < l.length * 2 := by
    rcases Nat.lt_or_ge j (l.length * 2) with h1 | h1
    · exact h1
    · rw [List.getElem?_eq_none (by rw [cellsV_len]; exact h1)] at hu; cases hu
  have hi : j / 2 < l.length := by omega
  obtain ⟨h1, h2⟩ := cellsV_at (l := l) (i := j / 2) (x := l[j / 2]) (by simp [hi])
  obtain ⟨a, e, hA⟩ := h (j / 2) l[j / 2] (by simp [hi])
  rw [hp] at e
  obtain rfl : ad = a := by simpa using e
  obtain ⟨⟨g0, -⟩, g1, -⟩ := hA
  rcases Nat.mod_two_eq_zero_or_one j with e | e
  · have e2 : j / 2 * 2 = j := by omega
    rw [e2] at h1 g0
    rw [h1] at hu
    rw [g0]; exact hu
  · have e2 : j / 2 * 2 + 1 = j := by omega
    rw [e2] at h2
    rw [h2] at hu
    have g2 : w.cell? ((ad.add (j / 2 * 2)).add 1) = some (.string l[j / 2].t) := g1
    rw [addAdd, e2] at g2
    rw [g2]; exact hu
/-- a row of the call's own, as variables -/
theorem own_vars {w : World} {B : Nat} {T : TypeId} {v : Value} {l : List Vr} (h : w.ownsRow B T 2 v l.length (cellsV l)) (hz : ∀ x ∈ l, Sz x.n ∧ Sz x.t) (hn : l.length ≤ 140737488351232) : Row AtV 2 w v l := by
  rcases h.2 with ⟨rfl, h0⟩ | ⟨g, cap, cur, rfl, _⟩
  · refine ⟨none, 0, by rw [h0], fun _ => ⟨h0, rfl⟩, hn, fun i x hx => ?_⟩
    have : l = [] := List.length_eq_zero_iff.1 h0
    subst this
    cases hx
  · refine ⟨some ⟨g, 0, none⟩, cap, rfl, (fun e => by cases e), hn, fun i x hx => ⟨_, rfl, ?_⟩⟩
    obtain ⟨h1, h2⟩ := cellsV_at hx
    have z := hz x (List.mem_of_getElem? hx)
    refine ⟨⟨h.cells rfl _ _ h1, z.1⟩, ?_, z.2⟩
    have := h.cells rfl _ _ h2
    rw [add_at] at this
    show w.cell? ⟨_, _, none⟩ = _
    rw [add_at]
    simpa [Nat.add_assoc] using this
theorem Row.sz {w : World} {v : Value} {l : List Vr} (h : Row AtV 2 w v l) : ∀ x ∈ l, Sz x.n ∧ Sz x.t := by
  intro x hx
  obtain ⟨p, cu, -, -, -, h⟩ := h
  obtain ⟨i, hi, rfl⟩ := List.getElem_of_mem hx
  obtain ⟨a, -, ⟨-, z1⟩, -, z2⟩ := h i l[i] (by simp [hi])
  exact ⟨z1, z2⟩
end Go.Proofs.YtjohjpjpfglkkaaDoor
