/- Types' sizes; rows of the call's own behind stores; five boxes. -/
import Derived.Test.YtjohjpjpfglkkaaCnu
import Derived.Test.YtjohjpjpfglkkaaApS
import Derived.Laws.AppendOwnNone
namespace Go.Proofs.Ytjohjpjpfglkkaa
open Go Go.RowKit

theorem infoCl : (Try.prog.info? 36).map (fun i => (i.zero, i.size, i.bytes)) = some (some (.agg #[.string ⟨#[]⟩, .slice none 0 0]), 2, 40) := by kernel_rfl
theorem infoEx : (Try.prog.info? 47).map (fun i => (i.zero, i.size, i.bytes)) = some (some (.agg #[.string ⟨#[]⟩, .int .i64 0]), 2, 24) := by kernel_rfl
theorem infoFn : (Try.prog.info? 30).map (fun i => (i.zero, i.size, i.bytes)) = some (some (.agg #[.string ⟨#[]⟩, .string ⟨#[]⟩, .slice none 0 0, .slice none 0 0, .slice none 0 0]), 5, 104) := by kernel_rfl
theorem infoVr : (Try.prog.info? 40).map (fun i => (i.zero, i.size, i.bytes)) = some (some (.agg #[.string ⟨#[]⟩, .string ⟨#[]⟩]), 2, 32) := by kernel_rfl
theorem ValI.kp {w w' : World} {v : Value} {x : Is} {u1 u2 u3 : Value} (h : ValI w v x u1 u2 u3) (hb : Below w.heap.size w w') : ValI w' v x u1 u2 u3 := ⟨h.e, h.z, h.a.map fun _ _ => AtA.kp hb, h.f.map fun _ _ => AtFr.kp hb, h.o.map fun _ _ => AtVt.kp hb⟩
theorem own_next {w w' : World} {B : Nat} {e : TypeId} {s : Nat} {v : Value} {n : Nat} {xs : List Value} {C : Nat} (h : w.ownsRow B e s v n xs) (hb : Below C w w') (hC : w.heap.size ≤ C) : w'.ownsRow B e s v n xs := World.ownsRow.kept h (grown_below hb hC) (by cases v.ownBlock <;> simp)
theorem own_far {w : World} {B q i : Nat} {e : TypeId} {s : Nat} {v u : Value} {n : Nat} {xs : List Value} (h : w.ownsRow B e s v n xs) (hq : q < B) : (w.setCell ⟨q, i, none⟩ u).ownsRow B e s v n xs := World.ownsRow.kept h (grown_setCell w q i u) (.inr fun e => by have := (h.lt _ e).1; omega)
theorem own_far2 {w : World} {B q i : Nat} {e : TypeId} {s : Nat} {v u : Value} {n : Nat} {xs : List Value} (h : w.ownsRow B e s v n xs) (hq : v.ownBlock ≠ some q) : (w.setCell ⟨q, i, none⟩ u).ownsRow B e s v n xs := World.ownsRow.kept h (grown_setCell w q i u) (.inr hq)
theorem boxes5 {w w1 : World} {c1 c2 c3 c4 c5 : List Value} {t1 t2 t3 t4 t5 : TypeId} (h : Below (((((w.alloc (Obj.cells c1.toArray t1)).alloc (Obj.cells c2.toArray t2)).alloc (Obj.cells c3.toArray t3)).alloc (Obj.cells c4.toArray t4)).alloc (Obj.cells c5.toArray t5)).heap.size (((((w.alloc (Obj.cells c1.toArray t1)).alloc (Obj.cells c2.toArray t2)).alloc (Obj.cells c3.toArray t3)).alloc (Obj.cells c4.toArray t4)).alloc (Obj.cells c5.toArray t5)) w1) :
    Box w1 w.heap.size c1 ∧ Box w1 (w.heap.size + 1) c2 ∧ Box w1 (w.heap.size + 1 + 1) c3 ∧ Box w1 (w.heap.size + 1 + 1 + 1) c4 ∧ Box w1 (w.heap.size + 1 + 1 + 1 + 1) c5 ∧ Below w.heap.size w w1 := by
  obtain ⟨b4, b5, h3⟩ := boxes2 h
  obtain ⟨b1, b2, b3, h0⟩ := boxes3 h3
  have s3 : (((w.alloc (Obj.cells c1.toArray t1)).alloc (Obj.cells c2.toArray t2)).alloc (Obj.cells c3.toArray t3)).heap.size = w.heap.size + 1 + 1 + 1 := by simp
  rw [s3] at b4 b5
  exact ⟨b1, b2, b3, b4, b5, h0⟩
theorem wpList_append_slice {P : Program} {w : World} {ops : Array Oper} {rest : List Oper} {o : Oper} {a : Act} {Q : Exit → Act → World → Prop} (hgd : o.guard = none) (s x : Operand) (t : TypeId)
    (ho : o.op = .call { callee := .builtin .append, args := #[s, x], argTypes := #[t, t] })
    (base : Nat) (e : TypeId) (i : TypeInfo) (z : Value) (size bytes : Nat) (ht : P.underlying t = some (.slice e)) (hi : P.info? e = some i) (hz : i.zero = some z)
    (hsize : i.size = size) (hby : i.bytes = bytes) (hzs : z.cells.size = size) (hsz : 0 < size)
    (v : Value) (n : Nat) (xs : List Value) (hs : a.eval s = v) (hown : w.ownsRow base e size v n xs)
    (pa : Option Addr) (m c : Nat) (news : List Value) (hx : a.eval x = .slice pa m c) (hnone : pa = none → m = 0 ∧ c = 0) (hl : news.length = m * size)
    (hnews : ∀ ad, pa = some ad → ∀ j u, news[j]? = some u → w.cell? (ad.add j) = some u) (h1 : ∀ u ∈ news, u.oneCell' = true)
    (h63 : n + m ≤ maxLen) (hbytes : (n + m) * bytes ≤ 140737488355328) (hbase : base ≤ w.heap.size)
    (h : ∀ v' w', w'.ownsRow base e size v' (n + m) (xs ++ news) → w.grownBy w' v.ownBlock → wpList P ops Q rest (a.put o.dst v') w') : wpList P ops Q (o :: rest) a w := by
  cases pa with
  | none =>
    obtain ⟨rfl, rfl⟩ := hnone rfl
    have hn : news = [] := List.length_eq_zero_iff.1 (by rw [hl]; simp)
    subst hn
    refine wpList_append_own_none hgd s x t ho base e i size ht hi v n xs hs hown hx (h v w (by simpa using hown) (grown_refl _ _))
  | some ad => exact wpList_append_own _ hgd s x t ho base e i z size bytes ht hi hz hsize hby hzs hsz v n xs hs hown ad m c news hx hl (hnews ad rfl) h1 h63 hbytes hbase fun v' w' h2 h3 _ => h v' w' h2 h3
/-! five cells of a row written -/
def set5 (C : List Value) (b : Nat) (v0 v1 v2 v3 v4 : Value) : List Value := ((((C.set b v0).set (b + 1) v1).set (b + 2) v2).set (b + 3) v3).set (b + 4) v4
theorem set5_len (C : List Value) (b : Nat) (v0 v1 v2 v3 v4 : Value) : (set5 C b v0 v1 v2 v3 v4).length = C.length := by simp [set5]
theorem set5_at {C : List Value} {b : Nat} {v0 v1 v2 v3 v4 : Value} (h : b + 5 ≤ C.length) : ∀ k, k < 5 → (set5 C b v0 v1 v2 v3 v4)[b + k]? = [v0, v1, v2, v3, v4][k]? := by
  intro k hk
  unfold set5
  have hk : k = 0 ∨ k = 1 ∨ k = 2 ∨ k = 3 ∨ k = 4 := by omega
  rcases hk with rfl | rfl | rfl | rfl | rfl <;> simp [List.getElem?_set] <;> omega
theorem set5_ne {C : List Value} {b : Nat} {v0 v1 v2 v3 v4 : Value} {i : Nat} (h : i < b ∨ b + 5 ≤ i) : (set5 C b v0 v1 v2 v3 v4)[i]? = C[i]? := by
  unfold set5
  rw [List.getElem?_set_ne (by omega), List.getElem?_set_ne (by omega), List.getElem?_set_ne (by omega), List.getElem?_set_ne (by omega), List.getElem?_set_ne (by omega)]
theorem set5_mem {C : List Value} {b : Nat} {v0 v1 v2 v3 v4 u : Value} (h : u ∈ set5 C b v0 v1 v2 v3 v4) : u ∈ C ∨ u ∈ [v0, v1, v2, v3, v4] := by
  unfold set5 at h
  rcases List.mem_or_eq_of_mem_set h with h | rfl
  · rcases List.mem_or_eq_of_mem_set h with h | rfl
    · rcases List.mem_or_eq_of_mem_set h with h | rfl
      · rcases List.mem_or_eq_of_mem_set h with h | rfl
        · rcases List.mem_or_eq_of_mem_set h with h | rfl
          · exact .inl h
          · simp
        · simp
      · simp
    · simp
  · simp
theorem own_set5 {w : World} {B : Nat} {e : TypeId} {s n cu g b : Nat} {C : List Value} {v0 v1 v2 v3 v4 : Value} (h : w.ownsRow B e s (.slice (some ⟨g, 0, none⟩) n cu) n C) :
    (((((w.setCell ⟨g, b, none⟩ v0).setCell ⟨g, b + 1, none⟩ v1).setCell ⟨g, b + 2, none⟩ v2).setCell ⟨g, b + 3, none⟩ v3).setCell ⟨g, b + 4, none⟩ v4).ownsRow B e s (.slice (some ⟨g, 0, none⟩) n cu) n (set5 C b v0 v1 v2 v3 v4) :=
  (World.ownsRow.stored (World.ownsRow.stored (World.ownsRow.stored (World.ownsRow.stored (World.ownsRow.stored h b v0).1 (b + 1) v1).1 (b + 2) v2).1 (b + 3) v3).1 (b + 4) v4).1
theorem cells_set5 {w : World} {C : List Value} {l : List Fn} {j : Nat} {x : Fn} {v0 v1 v2 v3 v4 : Value} (hj : j < l.length) (h : Cells AtF 5 w C l) (h' : Cells AtF 5 w [v0, v1, v2, v3, v4] [x]) : Cells AtF 5 w (set5 C (j * 5) v0 v1 v2 v3 v4) (l.set j x) := by
  have hl : j * 5 + 5 ≤ C.length := by
    rw [h.1]
    omega
  refine h.set h' (set5_len _ _ _ _ _ _ _) (fun u hu => (set5_mem hu).elim (h.2.1 u) (h'.2.1 u)) (set5_at hl) (fun i k hi hk => set5_ne ?_)
  omega
theorem row_set5 {w w1 : World} {C : List Value} {l : List Fn} {j B g cu : Nat} {T : TypeId} {x : Fn} {v0 v1 v2 v3 v4 : Value} (hj : j < l.length) (h : Cells AtF 5 w C l) (hb : Below w.heap.size w w1)
    (ho : w1.ownsRow B T 5 (.slice (some ⟨g, 0, none⟩) l.length cu) l.length (set5 C (j * 5) v0 v1 v2 v3 v4)) (hx : Cells AtF 5 w1 [v0, v1, v2, v3, v4] [x]) (hn : l.length ≤ 140737488351232) : Row AtF 5 w1 (.slice (some ⟨g, 0, none⟩) l.length cu) (l.set j x) := by
  have hl : j * 5 + 5 ≤ C.length := by
    rw [h.1]
    omega
  refine ⟨some ⟨g, 0, none⟩, cu, by rw [List.length_set], (fun e => by cases e), by rw [List.length_set]; exact hn, fun i y hy => ⟨_, rfl, ?_⟩⟩
  by_cases e : i = j
  · subst e
    have hy' : x = y := by
      rw [List.getElem?_set_self hj] at hy
      exact Option.some.inj hy
    subst hy'
    refine hx.2.2 0 x rfl w1 _ (Below.refl _ _) fun k u hk hu => ?_
    rw [addAdd]
    refine ho.cells rfl _ u ?_
    rw [set5_at hl k hk]
    simpa using hu
  · rw [List.getElem?_set_ne (fun h => e h.symm)] at hy
    refine h.2.2 i y hy w1 _ hb fun k u hk hu => ?_
    rw [addAdd]
    refine ho.cells rfl _ u ?_
    rw [set5_ne (by omega)]
    exact hu
end Go.Proofs.Ytjohjpjpfglkkaa
