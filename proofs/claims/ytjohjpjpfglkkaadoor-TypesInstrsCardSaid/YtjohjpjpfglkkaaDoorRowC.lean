/- Rows of elements of s cells each, by element and cell; rows of the call's own. -/
import Derived.Test.YtjohjpjpfglkkaaDoorBox
import Derived.Laws.OwnMore
import Derived.Laws.AppendOwn
namespace Go.Proofs.YtjohjpjpfglkkaaDoor
open Go Go.RowKit

/-- n elements of s cells: cell k of element i is f i k -/
def rowC (s n : Nat) (f : Nat → Nat → Value) : List Value := (List.range (n * s)).map fun j => f (j / s) (j % s)
theorem rowC_len (s n : Nat) (f : Nat → Nat → Value) : (rowC s n f).length = n * s := by simp [rowC]
theorem rowC_at {s n : Nat} {f : Nat → Nat → Value} {j : Nat} (h : j < n * s) : (rowC s n f)[j]? = some (f (j / s) (j % s)) := by simp [rowC, h]
theorem div_of {s i k : Nat} (hk : k < s) : (i * s + k) / s = i := by
  rw [Nat.mul_comm, Nat.mul_add_div (by omega), Nat.div_eq_of_lt hk, Nat.add_zero]
theorem mod_of {s i k : Nat} (hk : k < s) : (i * s + k) % s = k := by
  rw [Nat.mul_comm, Nat.mul_add_mod, Nat.mod_eq_of_lt hk]
theorem lt_of {s n i k : Nat} (hi : i < n) (hk : k < s) : i * s + k < n * s := by
  have : (i + 1) * s ≤ n * s := Nat.mul_le_mul_right s hi
  rw [Nat.add_mul, Nat.one_mul] at this
  omega
theorem rowC_get {s n : Nat} {f : Nat → Nat → Value} {i k : Nat} (hi : i < n) (hk : k < s) : (rowC s n f)[i * s + k]? = some (f i k) := by
  rw [rowC_at (lt_of hi hk), div_of hk, mod_of hk]
theorem rowC_none {s n : Nat} {f : Nat → Nat → Value} {j : Nat} (h : n * s ≤ j) : (rowC s n f)[j]? = none := List.getElem?_eq_none (by rw [rowC_len]; exact h)
theorem rowC_congr {s n : Nat} {f g : Nat → Nat → Value} (h : ∀ i k, i < n → k < s → f i k = g i k) : rowC s n f = rowC s n g := by
  apply List.ext_getElem?
  intro j
  by_cases hj : j < n * s
  · have hs : 0 < s := by
      rcases Nat.eq_zero_or_pos s with e | e
      · subst e; omega
      · exact e
    rw [rowC_at hj, rowC_at hj, h _ _ ((Nat.div_lt_iff_lt_mul hs).2 hj) (Nat.mod_lt _ hs)]
  · rw [rowC_none (by omega), rowC_none (by omega)]
theorem rowC_zero (s : Nat) (f : Nat → Nat → Value) : rowC s 0 f = [] := by simp [rowC]
theorem rowC_succ (s n : Nat) (f : Nat → Nat → Value) : rowC s (n + 1) f = rowC s n f ++ (List.range s).map (f n) := by
  apply List.ext_getElem?
  intro j
  have e : (n + 1) * s = n * s + s := by rw [Nat.add_mul, Nat.one_mul]
  by_cases hj : j < n * s
  · rw [List.getElem?_append_left (by rw [rowC_len]; exact hj), rowC_at hj, rowC_at (by omega)]
  · rw [List.getElem?_append_right (by rw [rowC_len]; omega), rowC_len]
    by_cases hj2 : j < n * s + s
    · obtain ⟨k, rfl⟩ : ∃ k, j = n * s + k := ⟨j - n * s, by omega⟩
      have hk : k < s := by omega
      rw [rowC_get (by omega) hk]
      have : n * s + k - n * s = k := by omega
      rw [this]
      simp [hk]
    · rw [rowC_none (by omega), List.getElem?_eq_none (by simp; omega)]
theorem rowC_set {s n : Nat} {f : Nat → Nat → Value} {i k : Nat} (hk : k < s) (v : Value) : (rowC s n f).set (i * s + k) v = rowC s n (fun a b => if a = i ∧ b = k then v else f a b) := by
  apply List.ext_getElem?
  intro j
  rw [List.getElem?_set]
  by_cases hj : j < n * s
  · rw [rowC_at hj, rowC_at hj, rowC_len]
    have hs : 0 < s := by omega
    by_cases e : i * s + k = j
    · subst e
      rw [if_pos rfl, if_pos hj, div_of hk, mod_of hk, if_pos ⟨rfl, rfl⟩]
    · rw [if_neg e]
      rw [if_neg]
      rintro ⟨rfl, rfl⟩
      apply e
      rw [Nat.mul_comm]
      exact Nat.div_add_mod j s
  · rw [rowC_none (by omega), rowC_none (by omega), rowC_len]
    split
    · rw [if_neg (by omega)]
    · rfl
theorem rowC_take {s n m : Nat} {f : Nat → Nat → Value} (h : m ≤ n) : (rowC s n f).take (m * s) = rowC s m f := by
  have : m * s ≤ n * s := Nat.mul_le_mul_right s h
  apply List.ext_getElem?
  intro j
  rw [List.getElem?_take]
  by_cases hj : j < m * s
  · rw [if_pos hj, rowC_at hj, rowC_at (by omega)]
  · rw [if_neg hj, rowC_none (by omega)]
theorem rowC_one {s n : Nat} {f : Nat → Nat → Value} (h : ∀ i k, i < n → k < s → (f i k).oneCell' = true) : ∀ u ∈ rowC s n f, u.oneCell' = true := by
  intro u hu
  obtain ⟨j, hj, rfl⟩ := List.mem_map.1 hu
  have hj := List.mem_range.1 hj
  have hs : 0 < s := by
    rcases Nat.eq_zero_or_pos s with e | e
    · subst e; omega
    · exact e
  exact h _ _ ((Nat.div_lt_iff_lt_mul hs).2 hj) (Nat.mod_lt _ hs)
theorem rowC_mem {s n : Nat} {f : Nat → Nat → Value} {j : Nat} {u : Value} (h : (rowC s n f)[j]? = some u) : ∃ i k, i < n ∧ k < s ∧ j = i * s + k ∧ u = f i k := by
  by_cases hj : j < n * s
  · have hs : 0 < s := by
      rcases Nat.eq_zero_or_pos s with e | e
      · subst e; omega
      · exact e
    rw [rowC_at hj] at h
    refine ⟨j / s, j % s, (Nat.div_lt_iff_lt_mul hs).2 hj, Nat.mod_lt _ hs, ?_, by simpa using h.symm⟩
    rw [Nat.mul_comm]
    exact (Nat.div_add_mod j s).symm
  · rw [rowC_none (by omega)] at h
    cases h
theorem add_at {g o j : Nat} : (⟨g, o, none⟩ : Addr).add j = ⟨g, o + j, none⟩ := by
  unfold Addr.add
  split <;> simp_all

/-- 'append(out, ..)' as one operation of a region -/
theorem wp_append_own {P : Program} {w : World} {o : Oper} {a : Act} {K : Act → World → Prop} {Q : Exit → Act → World → Prop} (s x : Operand) (t : TypeId)
    (ho : o.op = .call { callee := .builtin .append, args := #[s, x], argTypes := #[t, t] })
    (base : Nat) (e : TypeId) (i : TypeInfo) (z : Value) (size bytes : Nat) (ht : P.underlying t = some (.slice e)) (hi : P.info? e = some i) (hz : i.zero = some z)
    (hsize : i.size = size) (hby : i.bytes = bytes) (hzs : z.cells.size = size) (hsz : 0 < size)
    (v : Value) (n : Nat) (xs : List Value) (hs : a.eval s = v) (hown : w.ownsRow base e size v n xs)
    (ad : Addr) (m c : Nat) (news : List Value) (hx : a.eval x = .slice (some ad) m c) (hl : news.length = m * size) (hnews : ∀ j u, news[j]? = some u → w.cell? (ad.add j) = some u) (h1 : ∀ u ∈ news, u.oneCell' = true)
    (h63 : n + m ≤ maxLen) (hbytes : (n + m) * bytes ≤ 140737488355328) (hbase : base ≤ w.heap.size)
    (h : ∀ v' w', w'.ownsRow base e size v' (n + m) (xs ++ news) → w.grownBy w' v.ownBlock → K (a.put o.dst v') w') : o.wp P a w K Q := by
  obtain ⟨v', w', hrun, h2, h3, _⟩ := run_append_own (P := P) w base t o.type e i z size bytes ht hi hz hsize hby hzs hsz v n xs hown ad m c news hl hnews h1 h63 hbytes hbase
  unfold Oper.wp
  simp [execOp, ho, resolve, invoke, builtin, hs, hx, hrun, Result.andThen]
  exact h v' w' h2 h3

/-- a row of the call's own: n elements of s cells -/
def Owns (w : World) (B : Nat) (e : TypeId) (s : Nat) (v : Value) (n : Nat) (f : Nat → Nat → Value) : Prop := w.ownsRow B e s v n (rowC s n f)
section
variable {w w' : World} {B : Nat} {e : TypeId} {s : Nat} {v : Value} {n : Nat} {f : Nat → Nat → Value}
theorem Owns.nil : Owns w B e s (.slice none 0 0) 0 f := by
  unfold Owns
  rw [rowC_zero]
  exact World.ownsRow_nil _ _ _ _
theorem Owns.slice (h : Owns w B e s v n f) : ∃ pu cu, v = .slice pu n cu := by
  rcases h.2 with ⟨rfl, rfl⟩ | ⟨g, cap, cur, rfl, _⟩ <;> exact ⟨_, _, rfl⟩
theorem own_sl {xs : List Value} (h : w.ownsRow B e s v n xs) : ∃ pu cu, v = .slice pu n cu := by
  rcases h.2 with ⟨rfl, rfl⟩ | ⟨g, cap, cur, rfl, _⟩ <;> exact ⟨_, _, rfl⟩
theorem Owns.at (h : Owns w B e s v n f) (h0 : 0 < n) : ∃ g cu, v = .slice (some ⟨g, 0, none⟩) n cu ∧ B ≤ g ∧ g < w.heap.size ∧ n ≤ cu ∧ (∀ i k, i < n → k < s → w.cell? ⟨g, i * s + k, none⟩ = some (f i k)) ∧ ∀ j, w.frozen? ⟨g, j, none⟩ = false := by
  rcases h.2 with ⟨_, h1⟩ | ⟨g, cap, cur, rfl, hb, hg, hn, _⟩
  · omega
  · exact ⟨g, cap, rfl, hb, (h.lt g rfl).2, hn, fun i k hi hk => by rw [h.cellAt _ (lt_of hi hk), rowC_get hi hk], fun j => h.frozenAt j⟩
theorem Owns.congr {f' : Nat → Nat → Value} (h : Owns w B e s v n f) (hf : ∀ i k, i < n → k < s → f i k = f' i k) : Owns w B e s v n f' := by
  unfold Owns at h ⊢
  rw [← rowC_congr hf]
  exact h
theorem Owns.kept {row : Option Nat} (h : Owns w B e s v n f) (hg : w.grownBy w' row) (hne : v.ownBlock = none ∨ v.ownBlock ≠ row) : Owns w' B e s v n f := World.ownsRow.kept h hg hne
theorem grown_below {w w' : World} {C : Nat} (hb : Below C w w') (hC : w.heap.size ≤ C) : w.grownBy w' none := ⟨hb.os, hb.tape, hb.output, hb.size, fun k hk _ => hb.block k (by omega)⟩
theorem Owns.next {C : Nat} (h : Owns w B e s v n f) (hb : Below C w w') (hC : w.heap.size ≤ C) : Owns w' B e s v n f := h.kept (grown_below hb hC) (by cases v.ownBlock <;> simp)
theorem Owns.drew (h : Owns w B e s v n f) : Owns w.drew B e s v n f := h.next (Below.refl _ _).drew (Nat.le_refl _)
theorem Owns.alloc (h : Owns w B e s v n f) (o : Obj) : Owns (w.alloc o) B e s v n f := World.ownsRow.alloc h o
theorem Owns.lt (h : Owns w B e s v n f) : ∀ k, v.ownBlock = some k → B ≤ k ∧ k < w.heap.size := World.ownsRow.lt h
/-- one element more -/
theorem Owns.push {v' : Value} {xs : List Value} {f' : Nat → Nat → Value} (h : w.ownsRow B e s v' (n + 1) (rowC s n f ++ xs)) (hf : ∀ i k, i < n → k < s → f' i k = f i k) (hx : xs = (List.range s).map (f' n)) : Owns w B e s v' (n + 1) f' := by
  unfold Owns
  rw [rowC_succ, rowC_congr hf, ← hx]
  exact h
/-- cell k of element i is written -/
theorem Owns.set {g cu i k : Nat} (h : Owns w B e s (.slice (some ⟨g, 0, none⟩) n cu) n f) (hk : k < s) (u : Value) :
    Owns (w.setCell ⟨g, i * s + k, none⟩ u) B e s (.slice (some ⟨g, 0, none⟩) n cu) n (fun a b => if a = i ∧ b = k then u else f a b) := by
  have := (World.ownsRow.stored h (i * s + k) u).1
  unfold Owns
  rw [← rowC_set hk]
  exact this
theorem Owns.typ (h : Owns w B e s v n f) {g : Nat} (hg : v.ownBlock = some g) : ∃ cur m, w.heap[g]? = some (.cells cur e m) := by
  rcases h.2 with ⟨rfl, rfl⟩ | ⟨g', cap, cur, rfl, hb, hheap, hn, hm, hs, hx⟩
  · cases hg
  · obtain rfl : g' = g := by simpa [Value.ownBlock] using hg
    exact ⟨cur, (0, 0), hheap⟩
/-- rows of unlike types are unlike -/
theorem Owns.unlike {B' : Nat} {e' : TypeId} {s' : Nat} {v' : Value} {n' : Nat} {f' : Nat → Nat → Value} (h : Owns w B e s v n f) (h' : Owns w B' e' s' v' n' f') (hne : e ≠ e') {g : Nat} (hg : v.ownBlock = some g) : v'.ownBlock ≠ some g := fun e1 => by
  obtain ⟨cur, m, a⟩ := h.typ hg
  obtain ⟨cur', m', b⟩ := h'.typ e1
  rw [a] at b
  injection b with b
  injection b with _ b
  exact hne b
theorem Typ.notRowC {p : Nat} {t : TypeId} (ht : Typ w p t) (he : e ≠ t) (h : Owns w B e s v n f) : v.ownBlock ≠ some p := fun e1 => by
  obtain ⟨cur, m, a⟩ := ht
  obtain ⟨cur', m', b⟩ := h.typ e1
  rw [a] at b
  injection b with b
  injection b with _ b
  exact he b.symm
end
end Go.Proofs.YtjohjpjpfglkkaaDoor
