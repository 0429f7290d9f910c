/- FoldKeeps: new slices; the walks of slices.Clone, End, Same. -/
import Derived.Test.YtiheecgabfcigaaArg
import Derived.Test.YtiheecgabfcigaaBox
import Derived.Laws.OwnMore
namespace Go.Proofs.Ytiheecgabfcigaa
open Go.RowKit

theorem infoS : (Try.prog.info? 9).map (fun i => (i.zero, i.size, i.bytes)) = some (some (.string .empty), 1, 16) := by kernel_rfl
theorem infoA : (Try.prog.info? 30).map (fun i => (i.zero, i.size, i.bytes)) = some (some (.agg #[.int .i64 0, .string .empty, .int .i64 0]), 3, 32) := by kernel_rfl

/-- strings of a slice, as they lie in memory -/
structure StrIn (w : World) (pa : Option Addr) (l : Nat) (ss : Nat → ByteArray) : Prop where
  at' : 0 < l → ∃ B o, pa = some ⟨B, o, none⟩ ∧ B < w.heap.size ∧ ∀ i, i < l → w.cell? ⟨B, o + i, none⟩ = some (.string (ss i))
theorem StrIn.below {w w1 : World} {pa : Option Addr} {l : Nat} {ss : Nat → ByteArray} (h : StrIn w pa l ss) (hb : Below w.heap.size w w1) : StrIn w1 pa l ss :=
  { at' := fun hl => by
      obtain ⟨B, o, e, hB, hc⟩ := h.at' hl
      exact ⟨B, o, e, Nat.lt_of_lt_of_le hB hb.size, fun i hi => by rw [hb.cell hB]; exact hc i hi⟩ }
/-- a slice of new memory, block B on -/
def NewS (B : Nat) (w : World) (pu : Option Addr) (l : Nat) : Prop := 0 < l → ∃ g, pu = some ⟨g, 0, none⟩ ∧ B ≤ g ∧ g < w.heap.size ∧ ∀ j, j < l → w.frozen? ⟨g, j, none⟩ = false ∧ ∃ s, w.cell? ⟨g, j, none⟩ = some (.string s)

theorem NewS.mono {B B' : Nat} {w : World} {pu : Option Addr} {l : Nat} (h : NewS B w pu l) (hB : B' ≤ B) : NewS B' w pu l := fun hl => by
  obtain ⟨g, e, h1, h2, h3⟩ := h hl
  exact ⟨g, e, Nat.le_trans hB h1, h2, h3⟩
theorem NewS.set {B : Nat} {w : World} {pu : Option Addr} {l : Nat} (h : NewS B w pu l) {p : Addr} (hp : p.block < B) (v : Value) : NewS B (w.setCell p v) pu l := fun hl => by
  obtain ⟨g, e, h1, h2, h3⟩ := h hl
  refine ⟨g, e, h1, by simpa using h2, fun j hj => ?_⟩
  obtain ⟨hf, s, hc⟩ := h3 j hj
  refine ⟨by rw [World.frozen?_setCell]; exact hf, s, ?_⟩
  rw [World.cell?_setCell_other _ _ _ _ (fun e => by rw [e] at hp; simp at hp; omega)]
  exact hc
theorem own_new {w : World} {B : Nat} {e : TypeId} {size : Nat} {v : Value} {n : Nat} {xs : List Value} (h : w.ownsRow B e size v n xs) :
    ∃ pu cu, v = .slice pu n cu ∧ (0 < n → ∃ g, pu = some ⟨g, 0, none⟩ ∧ B ≤ g ∧ g < w.heap.size ∧ (∀ j, j < n * size → w.cell? ⟨g, j, none⟩ = xs[j]?) ∧ ∀ j, w.frozen? ⟨g, j, none⟩ = false) := by
  rcases h.2 with ⟨rfl, rfl⟩ | ⟨g, cap, cur, rfl, hb, hheap, hn, hm, hs, hx⟩
  · exact ⟨none, 0, rfl, fun h => absurd h (Nat.lt_irrefl 0)⟩
  · have hlt := h.lt g rfl
    exact ⟨_, _, rfl, fun _ => ⟨g, rfl, hb, hlt.2, fun j hj => h.cellAt j hj, fun j => h.frozenAt j⟩⟩

def CloneIs (w : World) (l : Nat) (ss : Nat → ByteArray) (e : Ending) (w' : World) : Prop := ∃ pu cu, e = .returned (.slice pu l cu) ∧ NewS w.heap.size w' pu l ∧ StrIn w' pu l ss ∧ Below w.heap.size w w'

theorem news_str {w : World} {a : Addr} {l : Nat} {ss : Nat → ByteArray} (h : StrIn w (some a) l ss) : ∀ j u, ((List.range l).map fun i => Value.string (ss i))[j]? = some u → w.cell? (a.add j) = some u := by
  intro j u hu
  have hj : j < l := by
    by_cases hj : j < l
    · exact hj
    · rw [List.getElem?_eq_none (by simpa using hj)] at hu
      cases hu
  obtain ⟨B, o, e, hB, hc⟩ := h.at' (by omega)
  have e : a = ⟨B, o, none⟩ := by simpa using e
  subst e
  have : u = .string (ss j) := by simpa [hj] using hu.symm
  subst this
  rw [← hc j hj]
  congr 1
  by_cases h0 : j = 0 <;> simp [Addr.add, h0]
theorem clone_done {w w2 : World} {B : Nat} {v : Value} {l : Nat} {ss : Nat → ByteArray} (h : w2.ownsRow B 9 1 v l ((List.range l).map fun i => Value.string (ss i))) (hB : w.heap.size ≤ B) :
    ∃ pu cu, v = .slice pu l cu ∧ NewS w.heap.size w2 pu l ∧ StrIn w2 pu l ss := by
  obtain ⟨pu, cu, rfl, hn⟩ := own_new h
  refine ⟨pu, cu, rfl, fun hl => ?_, ⟨fun hl => ?_⟩⟩
  · obtain ⟨g, e, hb, hlt, hc, hf⟩ := hn hl
    exact ⟨g, e, by omega, hlt, fun j hj => ⟨hf j, ss j, by rw [hc j (by omega)]; simp [hj]⟩⟩
  · obtain ⟨g, e, hb, hlt, hc, hf⟩ := hn hl
    exact ⟨g, 0, e, hlt, fun j hj => by rw [Nat.zero_add, hc j (by omega)]; simp [hj]⟩

theorem str_cells (l : Nat) (ss : Nat → ByteArray) : ∀ u ∈ (List.range l).map fun i => Value.string (ss i), u.oneCell' = true := by
  intro u hu
  obtain ⟨i, _, rfl⟩ := List.mem_map.1 hu
  rfl

set_option maxHeartbeats 1000000 in
theorem clone_val (pa : Option Addr) (l cap : Nat) (ss : Nat → ByteArray) (hl : l ≤ 100) (w : World) (h : StrIn w pa l ss) : Calls Try.prog 30 #[.slice pa l cap] w (CloneIs w l ss) := by
  obtain ⟨i0, hi, hz0, hz1, hz2⟩ := info_parts infoS
  cases pa with
  | none =>
    obtain rfl : l = 0 := by
      by_cases h0 : 0 < l
      · obtain ⟨B, o, e, _⟩ := h.at' h0; cases e
      · omega
    have hnil := fun (w : World) (l c : Nat) => Lib.run_eql_slice_nil (P := Try.prog) w 37 9 none l c 0 0 Try.underlying37
    go_enter Try.func30, Try.ntmps30
    go_wp2
    go_ret
    exact ⟨none, 0, rfl, fun h => absurd h (Nat.lt_irrefl 0), ⟨fun h => absurd h (Nat.lt_irrefl 0)⟩, Below.refl _ _⟩
  | some a =>
    have hnews := news_str h
    have hnews' : ∀ j u, ((List.range l).map fun i => Value.string (ss i))[j]? = some u → (w.alloc (Obj.cells #[] 9)).cell? (a.add j) = some u := fun j u hu => by
      have hc := hnews j u hu
      rw [World.cell?_alloc_lt _ _ _ (World.block_lt_of_cell? w _ hc)]
      exact hc
    clear hnews
    have hnil := fun (w : World) (l c : Nat) => Lib.run_eql_slice_nil (P := Try.prog) w 37 9 (some a) l c 0 0 Try.underlying37
    go_enter Try.func30, Try.ntmps30
    go_wp2_with (at_builtin; refine wpList_append_own _ rfl _ _ 37 rfl w.heap.size 9 i0 (.string .empty) 1 16 Try.underlying37 hi hz0 hz1 hz2 rfl (by decide) _ _ _ rfl (World.ownsRow_made w #[] 0 (Nat.le_refl _) (by decide) rfl) a l cap ((List.range l).map fun i => Value.string (ss i)) rfl ?c1 hnews' ?c3 ?c4 ?c5 ?c6 ?_)
    case c1 => simp
    case c3 => exact str_cells l ss
    case c4 => unfold maxLen; omega
    case c5 => omega
    case c6 => simp
    intro v' w2 hown hg _
    obtain ⟨pu, cu, rfl, hN, hS⟩ := clone_done hown (Nat.le_refl w.heap.size)
    have hB : Below w.heap.size w w2 := ((Below.refl w.heap.size w).alloc (Nat.le_refl _) _).grown hg (by simp) (fun k e => Nat.le_of_eq (by simpa [Value.ownBlock] using e))
    go_wp2
    go_ret
    exact ⟨pu, cu, rfl, hN, hS, hB⟩

def EndIs (w : World) (e : Ending) (w' : World) : Prop := ∃ (kind K : Int) (s : ByteArray) (n : Int) (pu : Option Addr) (lu cu : Nat) (N : Int) (ok : Bool),
  e = .returned (.tuple #[.agg #[.int .i64 kind, .int .i64 K, .string s, .int .i64 n, .slice pu lu cu, .int .i64 N], .bool ok]) ∧ lu ≤ 100 ∧ NewS w.heap.size w' pu lu ∧ Below w.heap.size w w'

set_option maxHeartbeats 2000000 in
theorem end_val (kind K : Int) (s : ByteArray) (n : Int) (pt : Option Addr) (lt ct : Nat) (N : Int) (ss : Nat → ByteArray) (hl : lt ≤ 100) (w : World) (h : StrIn w pt lt ss) :
    Calls Try.prog 12 #[.agg #[.int .i64 kind, .int .i64 K, .string s, .int .i64 n, .slice pt lt ct, .int .i64 N]] w (EndIs w) := by
  by_cases hyes : kind = 2 ∧ K = 2 ∧ lt = 2
  · obtain ⟨rfl, rfl, rfl⟩ := hyes
    obtain ⟨B, o, rfl, hB, hc⟩ := h.at' (by decide)
    have c0 := hc 0 (by decide)
    have c1 := hc 1 (by decide)
    rw [Nat.add_zero] at c0
    have hB1 : B < w.heap.size + 1 := by omega
    have hB2 : B < w.heap.size + 1 + 1 := by omega
    clear h hc
    by_cases hN : n = 0
    all_goals
      go_enter Try.func12, Try.ntmps12
      go_wp2
      ((try simp only [Exit.inBlock, Exit.then]); refine bodyPost_ret_by (v := (.tuple #[.agg #[.int .i64 1, .int .i64 0, .string { data := #[] }, .int .i64 0, .slice (some ⟨w.heap.size + 1 + 1, 0, none⟩) 1 1, .int .i64 0], .bool true])) ((results_cell_tmp rfl _ _ _).trans (by go_simp; try rfl)) rfl ?_)
      obtain ⟨-, -, h3, hb⟩ := boxes3 (w := w) (c1 := [_, _, _, _, _, _]) (c2 := [_, _, _, _, _, _]) (c3 := [_]) (Below.refl _ _)
      exact ⟨1, 0, _, 0, _, 1, 1, 0, true, rfl, by decide, (fun _ => ⟨w.heap.size + 1 + 1, rfl, by omega, h3.lt, fun j hj => by
        obtain rfl : j = 0 := by omega
        exact ⟨h3.f 0 (by simp), _, h3.c 0 _ rfl⟩⟩), hb⟩
  · have hn : (kind != 2) = true ∨ (kind != 2) = false ∧ (K != 2) = true ∨ (kind != 2) = false ∧ (K != 2) = false ∧ ((lt : Int) != 2) = true := by
      by_cases h1 : kind = 2
      · by_cases h2 : K = 2
        · right; right
          exact ⟨by simp [h1], by simp [h2], by rw [bne_iff_ne]; intro h3; exact hyes ⟨h1, h2, by omega⟩⟩
        · right; left; exact ⟨by simp [h1], by simp [h2]⟩
      · left; simp [h1]
    clear hyes
    rcases hn with e1 | ⟨e1, e2⟩ | ⟨e1, e2, e3⟩
    all_goals
      go_enter Try.func12, Try.ntmps12
      go_wp2_with fail
      refine (clone_val pt lt ct ss hl _ (h.below ?hw)).mono ?_
      case hw => exact (boxes2 (w := w) (c1 := [_, _, _, _, _, _]) (c2 := [_, _, _, _, _, _]) (Below.refl _ _)).2.2
      rintro e w1 ⟨pu, cu, rfl, hN, -, hb⟩
      obtain ⟨hX, hR, hB⟩ := boxes2 hb
      have hN := NewS.mono hN (B' := w.heap.size + 1 + 1) (by simp)
      clear hb
      (have x0 := (hX).c 0 _ rfl; have x1 := (hX).c 1 _ rfl; have x2 := (hX).c 2 _ rfl; have x3 := (hX).c 3 _ rfl; have x4 := (hX).c 4 _ rfl; have x5 := (hX).c 5 _ rfl; have g4 := (hX).f 4 (by simp))
      (have r0 := (hR).c 0 _ rfl; have r1 := (hR).c 1 _ rfl; have r2 := (hR).c 2 _ rfl; have r3 := (hR).c 3 _ rfl; have r4 := (hR).c 4 _ rfl; have r5 := (hR).c 5 _ rfl; have f0 := (hR).f 0 (by simp); have f1 := (hR).f 1 (by simp); have f2 := (hR).f 2 (by simp); have f3 := (hR).f 3 (by simp); have f4 := (hR).f 4 (by simp); have f5 := (hR).f 5 (by simp))
      go_wp2
      ((try simp only [Exit.inBlock, Exit.then]); refine bodyPost_ret_by (v := (.tuple #[.agg #[.int .i64 kind, .int .i64 K, .string s, .int .i64 n, .slice pu lt cu, .int .i64 N], .bool false])) ((results_cell_tmp rfl _ _ _).trans (by go_simp; try rfl)) rfl ?_)
      refine ⟨kind, K, s, n, pu, lt, cu, N, false, rfl, hl, ?_, ?_⟩
      · refine NewS.mono (B := w.heap.size + 1 + 1) ?_ (by omega)
        repeat (refine NewS.set ?_ (by dsimp only; omega) _)
        exact hN
      · repeat (refine Below.setCell ?_ (by dsimp only; omega) _)
        exact hB
end Go.Proofs.Ytiheecgabfcigaa
