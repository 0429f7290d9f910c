/- Lines in memory, whoever made them; few. -/
import Derived.Test.YtejfienogljboaaDoorLinC
namespace Go.Proofs.YtejfienogljboaaDoor
open Go.RowKit

abbrev LnI := Int × List By
/-- a row of strings that reads as these words -/
def StrAt (w : World) (v : Value) (ws : List By) : Prop :=
  ∃ p cu, v = .slice p ws.length cu ∧ ∀ (j : Nat) x, ws[j]? = some x → ∃ a s, p = some a ∧ w.cell? (a.add j) = some (.string s) ∧ s.data.toList = x
/-- a row of lines that reads as these -/
def LinesAt (w : World) (v : Value) (l : List LnI) : Prop :=
  ∃ p cu, v = .slice p l.length cu ∧ ∀ (i : Nat) x, l[i]? = some x → ∃ a u, p = some a ∧ w.cell? (a.add (i * 2)) = some (.int .i64 x.1) ∧ w.cell? ⟨(a.add (i * 2)).block, (a.add (i * 2)).off + 1, none⟩ = some u ∧ StrAt w u x.2
section
variable {w w' : World} {v u : Value}
theorem cells_lt {a : Addr} {x : Value} (h : w.cell? a = some x) : a.block < w.heap.size := World.block_lt_of_cell? w _ h
theorem add_block (a : Addr) (j : Nat) : (a.add j).block = a.block := by unfold Addr.add; split <;> rfl
theorem StrAt.next {ws : List By} {C : Nat} (h : StrAt w v ws) (hb : Below C w w') (hC : w.heap.size ≤ C) : StrAt w' v ws := by
  obtain ⟨p, cu, rfl, h⟩ := h
  refine ⟨p, cu, rfl, fun j x hx => ?_⟩
  obtain ⟨a, s, h1, h2, h3⟩ := h j x hx
  exact ⟨a, s, h1, by rw [hb.cell (Nat.lt_of_lt_of_le (cells_lt h2) hC)]; exact h2, h3⟩
theorem LinesAt.next {l : List LnI} {C : Nat} (h : LinesAt w v l) (hb : Below C w w') (hC : w.heap.size ≤ C) : LinesAt w' v l := by
  obtain ⟨p, cu, rfl, h⟩ := h
  refine ⟨p, cu, rfl, fun j x hx => ?_⟩
  obtain ⟨a, u, h1, h2, h3, h4⟩ := h j x hx
  exact ⟨a, u, h1, by rw [hb.cell (Nat.lt_of_lt_of_le (cells_lt h2) hC)]; exact h2, by rw [hb.cell (Nat.lt_of_lt_of_le (cells_lt h3) hC)]; exact h3, h4.next hb hC⟩
def ints (l : List Ln) : List LnI := l.map fun x => ((x.1 : Int), x.2)
theorem WordRow.str {B : Nat} {ws : List By} (h : WordRow w B v ws) : StrAt w v ws := by
  obtain ⟨ss, h, hr⟩ := h
  obtain ⟨pu, cu, rfl⟩ := h.slice
  refine ⟨pu, cu, rfl, fun j x hx => ?_⟩
  have hj : j < ws.length := by
    rcases Nat.lt_or_ge j ws.length with h1 | h1
    · exact h1
    · rw [List.getElem?_eq_none h1] at hx; cases hx
  obtain ⟨g, cu', e, _, _, _, hc, _⟩ := h.at (by omega)
  injection e with e1 e2 e3
  subst e1
  refine ⟨_, ss j, rfl, ?_, hr j x hx⟩
  have := hc j 0 hj (by omega)
  rw [add_at, Nat.zero_add]
  simpa [strC] using this
theorem LineRow.at {T : TypeId} {B : Nat} {l : List Ln} (h : LineRow T w B v l) : LinesAt w v (ints l) := by
  obtain ⟨ns, vs, h, hr⟩ := h
  obtain ⟨pu, cu, rfl⟩ := h.slice
  refine ⟨pu, cu, by simp [ints], fun i y hy => ?_⟩
  have hi : i < l.length := by
    rcases Nat.lt_or_ge i l.length with h1 | h1
    · exact h1
    · rw [List.getElem?_eq_none (by simpa [ints] using h1)] at hy; cases hy
  obtain ⟨x, hx, rfl⟩ : ∃ x, l[i]? = some x ∧ y = ((x.1 : Int), x.2) := by
    refine ⟨l[i], by simp [hi], ?_⟩
    simpa [ints, hi] using hy.symm
  obtain ⟨g, cu', e, _, _, _, hc, _⟩ := h.at (by omega)
  injection e with e1 e2 e3
  subst e1
  refine ⟨_, vs i, rfl, ?_, ?_, (hr i x hx).2.str⟩
  · have := hc i 0 hi (by omega)
    rw [Nat.add_zero] at this
    rw [add_at, Nat.zero_add, this]
    simp [lineC, (hr i x hx).1]
  · have := hc i 1 hi (by omega)
    rw [add_at, Nat.zero_add]
    dsimp only
    rw [this]
    simp [lineC]
end

/-! few words -/
def fewW : Nat → List By → Option Nat
  | n, [] => some n
  | n, w :: r => if 3000 < w.length then none else fewW (n + w.length) r
def fewG : Nat → List LnI → Bool
  | _, [] => true
  | n, x :: r => if 300 < x.2.length then false else match fewW n x.2 with
    | none => false
    | some m => if 30000 < m then false else fewG m r
def fewL (l : List LnI) : Bool := if 300 < l.length then false else fewG 0 l
def wlen (ws : List By) : Nat := (ws.map List.length).sum
theorem fewW_some : ∀ (ws : List By) (n m : Nat), fewW n ws = some m → m = n + wlen ws ∧ ∀ w ∈ ws, w.length ≤ 3000
  | [], n, m, h => by simp [fewW] at h; subst h; simp [wlen]
  | w :: r, n, m, h => by
    unfold fewW at h
    split at h
    · cases h
    · obtain ⟨h1, h2⟩ := fewW_some r _ _ h
      refine ⟨by rw [h1]; simp [wlen]; omega, fun x hx => ?_⟩
      rcases List.mem_cons.1 hx with rfl | hx
      · omega
      · exact h2 x hx
def tlen (l : List LnI) : Nat := (l.map fun x => wlen x.2).sum
theorem fewG_true : ∀ (l : List LnI) (n : Nat), n ≤ 30000 → fewG n l = true → n + tlen l ≤ 30000 ∧ ∀ x ∈ l, x.2.length ≤ 300 ∧ ∀ w ∈ x.2, w.length ≤ 3000
  | [], n, hn, h => ⟨by simpa [tlen] using hn, fun x hx => by cases hx⟩
  | x :: r, n, hn, h => by
    unfold fewG at h
    split at h
    · cases h
    · cases hw : fewW n x.2 with
      | none => rw [hw] at h; cases h
      | some m =>
        rw [hw] at h
        dsimp only at h
        split at h
        · cases h
        · obtain ⟨h1, h2⟩ := fewW_some _ _ _ hw
          obtain ⟨h3, h4⟩ := fewG_true r m (by omega) h
          refine ⟨by simp [tlen] at h3 ⊢; omega, fun y hy => ?_⟩
          rcases List.mem_cons.1 hy with rfl | hy
          · exact ⟨by omega, h2⟩
          · exact h4 y hy
theorem fewL_true {l : List LnI} (h : fewL l = true) : l.length ≤ 300 ∧ tlen l ≤ 30000 ∧ ∀ x ∈ l, x.2.length ≤ 300 ∧ ∀ w ∈ x.2, w.length ≤ 3000 := by
  unfold fewL at h
  split at h
  · cases h
  · obtain ⟨h1, h2⟩ := fewG_true l 0 (by omega) h
    exact ⟨by omega, by omega, h2⟩
theorem drop_at {α : Type} {l : List α} {i : Nat} (h : i < l.length) : l.drop i = l[i] :: l.drop (i + 1) := List.drop_eq_getElem_cons h

set_option maxHeartbeats 4000000 in
theorem few_val (l : List LnI) (v : Value) (w : World) (hl : LinesAt w v l) : Calls Tryd.prog 14 #[v] w fun e w' => e = .returned (.bool (fewL l)) ∧ w = w' := by
  obtain ⟨p, cu, rfl, hl⟩ := hl
  by_cases hbig : 300 < l.length
  · have e : fewL l = false := by unfold fewL; rw [if_pos hbig]
    rw [e]
    have hI : (300 : Int) < (l.length : Int) := by omega
    go_enter Tryd.func14, Tryd.ntmps14
    go_wp2
    go_ret
    exact ⟨rfl, rfl⟩
  have hI : ¬ (300 : Int) < (l.length : Int) := by omega
  have e : fewL l = fewG 0 l := by unfold fewL; rw [if_neg hbig]
  rw [e]
  have H : ∀ i (h : i < l.length), ∃ a pu cw, p = some a ∧ w.cell? ⟨(a.add (i * 2)).block, (a.add (i * 2)).off + 1, none⟩ = some (.slice pu l[i].2.length cw) ∧ ∀ j (hj : j < l[i].2.length), ∃ b s, pu = some b ∧ w.cell? (b.add j) = some (.string s) ∧ s.size = l[i].2[j].length := fun i h => by
    obtain ⟨a, u, h1, _, h3, pu, cw, rfl, h4⟩ := hl i l[i] (by simp [h])
    refine ⟨a, pu, cw, h1, h3, fun j hj => ?_⟩
    obtain ⟨b, s, g1, g2, g3⟩ := h4 j l[i].2[j] (List.getElem?_eq_getElem hj)
    exact ⟨b, s, g1, g2, by rw [← g3]; simp⟩
  clear hl e hbig
  generalize hf : fewG 0 l = r0
  go_enter Tryd.func14, Tryd.ntmps14
  go_wp2
  go_loopw [3, 4, 5] (fun n i _ wr => ∃ q m : Nat, q ≤ l.length ∧ i = .int .i64 (q : Int) ∧ n = .int .i64 (m : Int) ∧ m ≤ 30000 ∧ fewG m (l.drop q) = r0 ∧ wr = w) (fun _ i _ _ => l.length - (intOf i).toNat)
  case atStart => exact ⟨0, 0, Nat.zero_le _, rfl, rfl, Nat.zero_le _, hf, rfl⟩
  case round =>
    obtain ⟨q, m, hq, rfl, rfl, hm, hg, rfl⟩ := hrel
    by_cases hend : q = l.length
    · subst hend
      rw [List.drop_length] at hg
      have hg : true = r0 := hg
      subst hg
      clear H
      go_wp2
      go_ret
      exact ⟨rfl, rfl⟩
    · have hlt : q < l.length := by omega
      have hltI : (q : Int) < (l.length : Int) := by omega
      obtain ⟨a, pu, cw, rfl, hc, hs⟩ := H q hlt
      rw [drop_at hlt, fewG] at hg
      clear H hend
      generalize l[q].2 = ws at *
      by_cases h3 : 300 < ws.length
      · have h3I : (300 : Int) < (ws.length : Int) := by omega
        rw [if_pos h3] at hg
        subst hg
        clear hs
        go_wp2
        go_ret
        exact ⟨rfl, rfl⟩
      · have h3I : ¬ (300 : Int) < (ws.length : Int) := by omega
        rw [if_neg h3] at hg
        go_wp2
        go_loopw [3, 5] (fun n k wr2 => ∃ j m2 : Nat, j ≤ ws.length ∧ k = .int .i64 (j : Int) ∧ n = .int .i64 (m2 : Int) ∧ m2 ≤ 30000 + 3000 * j ∧ Hid ((match fewW m2 (ws.drop j) with | none => false | some m => if 30000 < m then false else fewG m (l.drop (q + 1))) = r0) ∧ wr2 = wr) (fun _ k _ => ws.length - (intOf k).toNat)
        case atStart => exact ⟨0, m, Nat.zero_le _, rfl, rfl, by omega, hg, rfl⟩
        case round =>
          obtain ⟨j, m2, hj, rfl, rfl, hm2, hg2, rfl⟩ := hrel
          by_cases hje : j = ws.length
          · have hg3 := hg2.out
            rw [hje, List.drop_length, fewW] at hg3
            dsimp only at hg3
            clear hg2 hg hs
            by_cases hbm : 30000 < m2
            · have hbI : (30000 : Int) < (m2 : Int) := by omega
              rw [if_pos hbm] at hg3
              subst hg3
              go_wp2
              go_ret
              exact ⟨rfl, rfl⟩
            · have hbI : ¬ (30000 : Int) < (m2 : Int) := by omega
              rw [if_neg hbm] at hg3
              go_wp2
              go_roundw
              case rel => exact ⟨q + 1, m2, by omega, by go_num, rfl, by omega, hg3, trivial⟩
              case measure => simp [intOf]; omega
          · have hjl : j < ws.length := by omega
            have hjI : (j : Int) < (ws.length : Int) := by omega
            obtain ⟨b, s, rfl, hcs, hsz⟩ := hs j hjl
            have hg3 := hg2.out
            rw [drop_at hjl, fewW, ← hsz] at hg3
            clear hg2 hg hs
            by_cases hb3 : 3000 < s.size
            · have hbI : (3000 : Int) < (s.size : Int) := by omega
              rw [if_pos hb3] at hg3
              dsimp only at hg3
              subst hg3
              go_wp2
              go_ret
              exact ⟨rfl, rfl⟩
            · have hbI : ¬ (3000 : Int) < (s.size : Int) := by omega
              rw [if_neg hb3] at hg3
              have hg4 := Lib.hid hg3
              clear hg3
              go_wp2
              go_roundw
              case rel => exact ⟨j + 1, m2 + s.size, by omega, by go_num, by go_num, by omega, hg4, trivial⟩
              case measure => simp [intOf]; omega
end Go.Proofs.YtejfienogljboaaDoor
