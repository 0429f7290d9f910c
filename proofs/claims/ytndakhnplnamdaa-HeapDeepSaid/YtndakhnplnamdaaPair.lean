/- The pairing of heap.Alike: its state in memory; pair. -/
import Derived.Test.YtndakhnplnamdaaHeapA
import Derived.Test.YtndakhnplnamdaaMap
namespace Go.Proofs.Ytndakhnplnamdaa
open Go.RowKit

def swp (x : Int × Int) : Int × Int := (x.2, x.1)
/-- the pairs as the cells of a row of [2]int64 -/
def rowP (td : List (Int × Int)) : List Value := td.flatMap fun x => [.int .i64 x.1, .int .i64 x.2]
/-- the state of a pairing: its struct in block pb, its maps in blocks bt, bb, its row -/
structure PairSt (w : World) (B pb bt bb : Nat) (hv kv vt : Value) (T td : List (Int × Int)) : Prop where
  x : Box w pb [hv, kv, .map (some bt), .map (some bb), vt]
  ty : ∃ cur m, w.heap[pb]? = some (.cells cur 59 m)
  mt : MapIs w bt T
  mb : MapIs w bb (T.map swp)
  o : w.ownsRow B 60 2 vt td.length (rowP td)
  h0 : B ≤ pb
  h1 : B ≤ bt
  h2 : B ≤ bb
  n1 : bt ≠ pb
  n2 : bb ≠ pb
  n3 : bt ≠ bb

theorem own_block {w : World} {B : Nat} {e : TypeId} {size : Nat} {v : Value} {n : Nat} {xs : List Value} (h : w.ownsRow B e size v n xs) {g : Nat} (hg : v.ownBlock = some g) : ∃ cur, w.heap[g]? = some (.cells cur e (0, 0)) := by
  rcases h.2 with ⟨rfl, rfl⟩ | ⟨g', cap, cur, rfl, hb, hheap, hn, hm, hs, hx⟩
  · cases hg
  · obtain rfl : g' = g := by simpa [Value.ownBlock] using hg
    exact ⟨cur, hheap⟩
section
variable {w w' : World} {B pb bt bb : Nat} {hv kv vt : Value} {T td : List (Int × Int)}
theorem PairSt.n4 (h : PairSt w B pb bt bb hv kv vt T td) : vt.ownBlock ≠ some pb := fun e => by
  obtain ⟨cur, m, h1⟩ := h.ty
  obtain ⟨cur', h2⟩ := own_block h.o e
  rw [h1] at h2
  cases h2
theorem MapIs.obj {w : World} {b : Nat} {T : List (Int × Int)} (h : MapIs w b T) : ∃ es clock, w.heap[b]? = some (.map es clock) := by
  obtain ⟨es, clock, h, _⟩ := h
  exact ⟨es, clock, h⟩
theorem MapIs.lt {w : World} {b : Nat} {T : List (Int × Int)} (h : MapIs w b T) : b < w.heap.size := by
  obtain ⟨es, clock, h⟩ := h.obj
  exact (Array.getElem?_eq_some_iff.1 h).1
theorem MapIs.notRow {w : World} {b : Nat} {T : List (Int × Int)} (h : MapIs w b T) {B : Nat} {e : TypeId} {size : Nat} {v : Value} {n : Nat} {xs : List Value} (ho : w.ownsRow B e size v n xs) : v.ownBlock ≠ some b := fun e => by
  obtain ⟨es, clock, h1⟩ := h.obj
  obtain ⟨cur', h2⟩ := own_block ho e
  rw [h1] at h2
  cases h2
theorem PairSt.n5 (h : PairSt w B pb bt bb hv kv vt T td) : vt.ownBlock ≠ some bt := h.mt.notRow h.o
theorem PairSt.n6 (h : PairSt w B pb bt bb hv kv vt T td) : vt.ownBlock ≠ some bb := h.mb.notRow h.o
/-- behind a call that leaves the blocks as they are -/
theorem PairSt.next (h : PairSt w B pb bt bb hv kv vt T td) (hb : Below w.heap.size w w') : PairSt w' B pb bt bb hv kv vt T td :=
  { h with
    x := h.x.nx hb
    ty := by
      obtain ⟨cur, m, e⟩ := h.ty
      exact ⟨cur, m, by rw [hb.block pb h.x.lt]; exact e⟩
    mt := h.mt.other (hb.block bt h.mt.lt)
    mb := h.mb.other (hb.block bb h.mb.lt)
    o := h.o.kept (row := none) ⟨hb.os, hb.tape, hb.output, hb.size, fun k hk _ => hb.block k hk⟩ (by cases vt.ownBlock <;> simp) }
theorem PairSt.drew (h : PairSt w B pb bt bb hv kv vt T td) : PairSt w.drew B pb bt bb hv kv vt T td := h.next (Below.refl _ _).drew
end

theorem zero64 : ∀ u : World, (zeroValue 2).run Try.prog u = .ok (.int .i64 0) u := fun u => by kernel_rfl

set_option maxHeartbeats 1000000 in
/-- one of the two is paired already -/
theorem pair_known (B pb bt bb : Nat) (hv kv vt : Value) (T td : List (Int × Int)) (a b : Int) (w : World) (h : PairSt w B pb bt bb hv kv vt T td) (hk : (look T a).2 = true ∨ (look (T.map swp) b).2 = true) :
    Calls Try.prog 31 #[.pointer (some ⟨pb, 0, none⟩), .int .i64 a, .int .i64 b] w fun e w' => e = .returned (.bool ((look T a).2 && (look (T.map swp) b).2 && (look T a).1 == b && (look (T.map swp) b).1 == a)) ∧ w = w' := by
  have l1 := run_look (P := Try.prog) (w := w) Try.underlying56 Try.underlying2 zero64 h.mt a
  have l2 := run_look (P := Try.prog) (w := w) Try.underlying56 Try.underlying2 zero64 h.mb b
  have c2 := h.x.c 2 _ rfl
  have c3 := h.x.c 3 _ rfl
  generalize look T a = p at l1 hk ⊢
  generalize look (T.map swp) b = q at l2 hk ⊢
  obtain ⟨p1, p2⟩ := p
  obtain ⟨q1, q2⟩ := q
  dsimp only at l1 l2 hk ⊢
  clear h
  cases p2 <;> cases q2
  · exact absurd hk (by simp)
  · clear hk
    go_enter Try.func31, Try.ntmps31
    go_wp2
    go_ret
    exact ⟨by first | rfl | simp, rfl⟩
  · clear hk
    go_enter Try.func31, Try.ntmps31
    go_wp2
    go_ret
    exact ⟨by first | rfl | simp, rfl⟩
  · clear hk
    rcases e1 : (p1 == b) with _ | _ <;> rcases e2 : (q1 == a) with _ | _
    all_goals
      go_enter Try.func31, Try.ntmps31
      go_wp2
      go_ret
      exact ⟨by first | rfl | simp, rfl⟩
end Go.Proofs.Ytndakhnplnamdaa
