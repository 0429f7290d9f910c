/- Lines handed in. -/
import Derived.Test.YtejfienogljboaaDoorLinN
import Derived.Test.YtejfienogljboaaDoorOpen
namespace Go.Proofs.YtejfienogljboaaDoor
open Go Go.ChangeShapes Go.WideShapes Go.Deep Go.RowKit

theorem choose_l {α : Type} {n : Nat} {Q : Nat → α → Prop} (h : ∀ i, i < n → ∃ x, Q i x) : ∃ l : List α, l.length = n ∧ ∀ (i : Nat) x, l[i]? = some x → Q i x := by
  induction n with
  | zero => exact ⟨[], rfl, fun i x e => by simp at e⟩
  | succ n ih =>
    obtain ⟨l, hl, hq⟩ := ih fun i hi => h i (by omega)
    obtain ⟨x, hx⟩ := h n (by omega)
    refine ⟨l ++ [x], by simp [hl], fun i y e => ?_⟩
    rcases Nat.lt_or_ge i l.length with hi | hi
    · exact hq i y (by rwa [List.getElem?_append_left hi] at e)
    · rw [List.getElem?_append_right hi] at e
      have h0 : i - l.length = 0 := by
        rcases Nat.eq_zero_or_pos (i - l.length) with h0 | h0
        · exact h0
        · rw [List.getElem?_eq_none (by simp; omega)] at e; cases e
      rw [h0] at e
      have hxy : x = y := by simpa using e
      subst hxy
      have : i = n := by omega
      rw [this]; exact hx

section
variable {H : Type} {enc : TypeId × Value → H} {w : World} {base : Nat} {spare : Nat → Bool} {held : Bool}
theorem open_strs {v : Value} {fuel : Nat} {x : DataW H × List MemPlace} (h : DataW.trod enc Tryd.prog w base spare held fuel 38 [v] = some x) : ∃ ws, StrAt w v ws := by
  rcases open_slice Tryd.underlying38 h with ⟨hc, _⟩ | ⟨a, len, cap, m, n, D, Pl, hc, hb, hl, hm, hmm, hx, hi⟩
  · obtain rfl : v = .slice none 0 0 := by simpa using hc
    exact ⟨[], none, 0, rfl, fun i x e => by cases e⟩
  · obtain rfl : v = .slice (some a) len cap := by simpa using hc
    have hC : Tryd.prog.cellsOf 9 = 1 := by kernel_rfl
    have each : ∀ i, i < len → ∃ x : By, ∃ s, w.cell? (a.add i) = some (.string s) ∧ s.data.toList = x := by
      intro i hil
      obtain ⟨cs', hcs, htr⟩ := hi i (by rw [hmm]; split <;> omega)
      obtain ⟨s, f1, -, -⟩ := DataW.trod_string Tryd.underlying9 htr
      subst f1
      obtain ⟨_, hcl, hat⟩ := World.cells?_some hcs
      have hcell := hat 0 (by first | decide | (rw [hC]; decide))
      rw [hC, Nat.mul_one, Go.Deep.add_add, Nat.add_zero] at hcell
      exact ⟨_, s, by rw [hcell]; rfl, rfl⟩
    obtain ⟨l, hl2, hq⟩ := choose_l each
    refine ⟨l, some a, cap, by rw [hl2], fun j x e => ?_⟩
    obtain ⟨s, h1, h2⟩ := hq j x e
    exact ⟨a, s, rfl, h1, h2⟩

theorem open_lines {v : Value} {fuel : Nat} {x : DataW H × List MemPlace} (h : DataW.trod enc Tryd.prog w base spare held fuel 26 [v] = some x) : ∃ l, LinesAt w v l := by
  obtain ⟨pa, n, ca, rfl, hl, hm, hnone, hel⟩ := slice_cells Tryd.underlying26 Tryd.underlying41 (by kernel_rfl) (by kernel_rfl) h
  have each : ∀ i, i < n → ∃ x : LnI, ∃ a u, pa = some a ∧ w.cell? (a.add (i * 2)) = some (.int .i64 x.1) ∧ w.cell? ⟨(a.add (i * 2)).block, (a.add (i * 2)).off + 1, none⟩ = some u ∧ StrAt w u x.2 := by
    intro i hi
    cases pa with
    | none => have := hnone rfl; omega
    | some a =>
      obtain ⟨_, he⟩ := hel a rfl
      obtain ⟨u0, z0, m0, g0, q0⟩ := he i hi 0 _ rfl
      obtain ⟨u1, z1, m1, g1, q1⟩ := he i hi 1 _ rfl
      obtain ⟨a0, k0, -, -⟩ := DataW.trod_int Tryd.underlying3 q0
      obtain ⟨ws, hws⟩ := open_strs q1
      simp at k0
      subst k0
      obtain ⟨B, o, spot⟩ := a
      have hsp : spot = none := by
        obtain ⟨_, _, _, h0, _⟩ := he 0 (by omega) 0 _ rfl
        simpa [Addr.add] using World.cell?_spot h0
      subst hsp
      refine ⟨(a0, ws), _, u1, rfl, g0, ?_, hws⟩
      rw [add_at]
      have g1' : w.cell? ((⟨B, o, none⟩ : Addr).add (i * 2 + 1)) = some u1 := g1
      rw [add_at] at g1'
      exact g1'
  obtain ⟨l, hl2, hq⟩ := choose_l each
  exact ⟨l, pa, ca, by rw [hl2], fun i x e => hq i x e⟩
end
theorem p_lines {H : Type} {enc : TypeId × Value → H} {w : World} {r : Reach} {b0 base : Nat} {spare : Nat → Bool} {held : Bool} {v : Value} {d : DataW H} {p : List MemPlace} (hv : Value.okWide Tryd.prog w r b0 26 v) (h : DataW.Trod enc Tryd.prog w base spare held 26 v d p) : ∃ l, LinesAt w v l := by
  obtain ⟨a, l, c, rfl⟩ := okWide_slice Tryd.underlying26 hv
  obtain ⟨fuel, hf⟩ := h
  exact open_lines (by simpa [Value.cells] using hf)
theorem linesSplits_walk (s : ByteArray) (_ : s.size ≤ 140737488351232) (w : World) (m : Int) (hm : w.cell? ⟨0, 0, none⟩ = some (.int .i64 m)) : Calls Tryd.prog 3 #[.string s] w fun e w' => e = .returned (.bool true) ∧ Below w.heap.size w w' := splits_walk s m w hm
section
variable {H : Type} {enc : TypeId × Value → H}
theorem linesJoins_all (H : Type) (enc : TypeId × Value → H) (W : World) (base : Nat) (args : Array Value) (ds gs : List (DataW H)) (before : List MemPlace)
    (hval : ∀ (j : Nat) t v, Tryd.f4.params[j]? = some t → args[j]? = some v → Value.okWide Tryd.prog W .any base t v)
    (hW : DataW.Whole enc Tryd.prog Tryd.f4.params.toList [] false W args.toList ds gs before) (m : Int) (hm : W.cell? ⟨0, 0, none⟩ = some (.int .i64 m)) :
    Calls Tryd.prog 4 args W fun e W' => e = .returned (.bool true) ∧ Below W.heap.size W W' := by
  obtain ⟨p, q, hA0, hV, rfl, _, _⟩ := hW
  have hA : DataW.TrodAll enc Tryd.prog W 0 (fun _ => true) true Tryd.f4.params.toList args.toList ds p := hA0
  rw [Tryd.params4] at hA hval
  obtain ⟨v0, vs0, d0, ds0, p0, q0, hargs, rfl, rfl, h0, r0⟩ := trodAll_cons hA
  obtain ⟨rfl, rfl, rfl⟩ := trodAll_nil r0
  obtain rfl : args = #[v0] := by cases args; simp_all
  obtain ⟨l, hl⟩ := p_lines (hval 0 _ v0 rfl rfl) h0
  exact joins_walk l v0 m W hl hm
end
end Go.Proofs.YtejfienogljboaaDoor
