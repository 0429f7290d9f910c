/- Lines in memory: rows of strings, rows of lines. -/
import Derived.Test.YtejfienogljboaaDoorLineC
import Derived.Test.YtejfienogljboaaDoorRowC
import Derived.Test.YtejfienogljboaaDoorArg
namespace Go.Proofs.YtejfienogljboaaDoor
open Go.RowKit

theorem infoS : (Tryd.prog.info? 9).map (fun i => (i.zero, i.size, i.bytes)) = some (some (.string .empty), 1, 16) := by kernel_rfl
theorem infoL : (Tryd.prog.info? 40).map (fun i => (i.zero, i.size, i.bytes)) = some (some (.agg #[.int .i64 0, .slice none 0 0]), 2, 32) := by kernel_rfl
theorem infoR : (Tryd.prog.info? 41).map (fun i => (i.zero, i.size, i.bytes)) = some (some (.agg #[.int .i64 0, .slice none 0 0]), 2, 32) := by kernel_rfl

def strC (ss : Nat → ByteArray) (i : Nat) (_ : Nat) : Value := .string (ss i)
/-- these strings are these words -/
def Reads (ws : List By) (ss : Nat → ByteArray) : Prop := ∀ j x, ws[j]? = some x → (ss j).data.toList = x
/-- a row of strings of the call's own, that reads as these words -/
def WordRow (w : World) (B : Nat) (v : Value) (ws : List By) : Prop := ∃ ss, Owns w B 9 1 v ws.length (strC ss) ∧ Reads ws ss
theorem Reads.push {ws : List By} {ss : Nat → ByteArray} (h : Reads ws ss) {s : ByteArray} {x : By} (hx : s.data.toList = x) : Reads (ws ++ [x]) (fun j => if j = ws.length then s else ss j) := by
  intro j y hy
  by_cases e : j = ws.length
  · subst e
    rw [List.getElem?_append_right (Nat.le_refl _), Nat.sub_self] at hy
    have : x = y := by simpa using hy
    dsimp only
    rw [if_pos rfl, hx, this]
  · dsimp only
    rw [if_neg e]
    refine h j y ?_
    by_cases hl : j < ws.length
    · rwa [List.getElem?_append_left hl] at hy
    · rw [List.getElem?_eq_none (by simp; omega)] at hy
      cases hy
section
variable {w w' : World} {B : Nat} {v v' : Value} {ws : List By}
theorem WordRow.nil : WordRow w B (.slice none 0 0) [] := ⟨fun _ => .empty, Owns.nil, fun j x h => by cases h⟩
theorem WordRow.slice (h : WordRow w B v ws) : ∃ pu cu, v = .slice pu ws.length cu := by
  obtain ⟨_, h, _⟩ := h
  exact h.slice
theorem WordRow.next {C : Nat} (h : WordRow w B v ws) (hb : Below C w w') (hC : w.heap.size ≤ C) : WordRow w' B v ws := by
  obtain ⟨ss, h, hr⟩ := h
  exact ⟨ss, h.next hb hC, hr⟩
theorem WordRow.kept {row : Option Nat} (h : WordRow w B v ws) (hg : w.grownBy w' row) (hne : v.ownBlock = none ∨ v.ownBlock ≠ row) : WordRow w' B v ws := by
  obtain ⟨ss, h, hr⟩ := h
  exact ⟨ss, h.kept hg hne, hr⟩
theorem WordRow.lt (h : WordRow w B v ws) : ∀ k, v.ownBlock = some k → B ≤ k ∧ k < w.heap.size := by
  obtain ⟨ss, h, hr⟩ := h
  exact h.lt
theorem WordRow.mono {B' : Nat} (h : WordRow w B v ws) (hB : B' ≤ B) : WordRow w B' v ws := by
  obtain ⟨ss, ⟨h1, h2⟩, hr⟩ := h
  refine ⟨ss, ⟨h1, ?_⟩, hr⟩
  rcases h2 with h2 | ⟨g', cap, cur, y1, y2, y3⟩
  · exact .inl h2
  · exact .inr ⟨g', cap, cur, y1, by omega, y3⟩
/-- 'append(out, s)' -/
theorem str_news (w : World) (s : ByteArray) : ∀ j u, ([Value.string s])[j]? = some u → (w.alloc (Obj.cells #[.string s] 9)).cell? ((⟨w.heap.size, 0, none⟩ : Addr).add j) = some u := by
  intro j u hu
  rw [add_at, Nat.zero_add, World.cell?_alloc_mark]
  simpa using hu
theorem str_one (s : ByteArray) : ∀ u ∈ [Value.string s], u.oneCell' = true := by
  intro u hu
  simp only [List.mem_cons, List.not_mem_nil, or_false] at hu
  subst hu
  rfl
theorem WordRow.row (h : WordRow w B v ws) : ∃ xs, w.ownsRow B 9 1 v ws.length xs ∧ ∀ (w2 : World) (v' : Value) (s : ByteArray) (x : By), s.data.toList = x → w2.ownsRow B 9 1 v' (ws.length + 1) (xs ++ [.string s]) → WordRow w2 B v' (ws ++ [x]) := by
  obtain ⟨ss, h, hr⟩ := h
  refine ⟨_, h, fun w2 v' s x hx hown => ⟨_, ?_, hr.push hx⟩⟩
  have e : (ws ++ [x]).length = ws.length + 1 := by simp
  rw [e]
  refine Owns.push hown (fun i k hi _ => ?_) ?_
  · simp only [strC, if_neg (by omega : i ≠ ws.length)]
  · simp [List.range_succ, strC]
end
end Go.Proofs.YtejfienogljboaaDoor
