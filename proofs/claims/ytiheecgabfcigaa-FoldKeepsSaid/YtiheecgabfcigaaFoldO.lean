/- Parameters of the types api.Term and api.Instr, opened; FoldKeeps as its row's contract. -/
import Derived.Test.YtiheecgabfcigaaFoldN
import Derived.Test.YtiheecgabfcigaaOpen
import Derived.Deep.Strs
namespace Go.Proofs.Ytiheecgabfcigaa
open Go.ChangeShapes Go.WideShapes Go.ChangeAt Go.RowKit Go.Deep Num Flo Word

theorem rangeK {a : Int} (h : (Lit.int .i64 a).wf = true) : -9223372036854775808 ≤ a ∧ a ≤ 9223372036854775807 := by
  simpa [Lit.wf, IntKind.min, IntKind.max, IntKind.signed, IntKind.bits] using h
theorem slice_none {H : Type} {enc : TypeId × Value → H} {P : Program} {w : World} {base : Nat} {spare : Nat → Bool} {held : Bool} {t e : TypeId} {fuel l cap : Nat} {x : DataW H × List MemPlace} (ht : P.underlying t = some (.slice e))
    (h : DataW.trod enc P w base spare held fuel t [.slice none l cap] = some x) : l = 0 ∧ cap = 0 := by
  rcases open_slice ht h with ⟨hc, _⟩ | ⟨a, len, c, m, n, D, Pl, hc, _⟩
  · simpa using hc
  · simp at hc

theorem open_instr2 {H : Type} {enc : TypeId × Value → H} {w : World} {r : Reach} {b0 base : Nat} {spare : Nat → Bool} {held : Bool} {v : Value} {d : DataW H} {p : List MemPlace}
    (hv : Value.okWide Try.prog w r b0 26 v) (h : DataW.Trod enc Try.prog w base spare held 26 v d p) :
    ∃ (op : Int) (dd nm : ByteArray) (pa pf po : Option Addr) (l cap lf kf lo ko : Nat) (el : Nat → Int × ByteArray × Int), v = .agg #[.int .i64 op, .string dd, .string nm, .slice pa l cap, .slice pf lf kf, .slice po lo ko] ∧ l ≤ 9223372036854775807 ∧ ArgsIn w pa l el ∧ (pa = none → l = 0 ∧ cap = 0) := by
  obtain ⟨cs, rfl, hlen, hc⟩ := agg_cell Try.underlying26 (by kernel_rfl) (by kernel_rfl) hv h
  obtain ⟨v0, y0, n0, e0, t0⟩ := hc 0 _ rfl
  obtain ⟨v1, y1, n1, e1, t1⟩ := hc 1 _ rfl
  obtain ⟨v2, y2, n2, e2, t2⟩ := hc 2 _ rfl
  obtain ⟨v3, y3, n3, e3, t3⟩ := hc 3 _ rfl
  obtain ⟨v4, y4, n4, e4, t4⟩ := hc 4 _ rfl
  obtain ⟨v5, y5, n5, e5, t5⟩ := hc 5 _ rfl
  have hcs : cs = [v0, v1, v2, v3, v4, v5] := by
    match cs, hlen with
    | [c0, c1, c2, c3, c4, c5], _ =>
      simp at e0 e1 e2 e3 e4 e5
      simp [e0, e1, e2, e3, e4, e5]
  subst hcs
  obtain ⟨x, f0, -, -⟩ := DataW.trod_int Try.underlying3 t0
  obtain ⟨s1, f1, -, -⟩ := DataW.trod_string Try.underlying9 t1
  obtain ⟨s2, f2, -, -⟩ := DataW.trod_string Try.underlying9 t2
  simp at f0 f1 f2
  subst f0 f1 f2
  obtain ⟨pa, l, cap, rfl, hl, hm, hnone, hel⟩ := slice_cells Try.underlying22 Try.underlying30 (by kernel_rfl) (by kernel_rfl) t3
  have hz : pa = none → l = 0 ∧ cap = 0 := fun e => by subst e; exact slice_none Try.underlying22 t3
  obtain ⟨pf, lf, kf, rfl, -, -⟩ := slice_val Try.underlying23 t4
  obtain ⟨po, lo, ko, rfl, -, -⟩ := slice_val Try.underlying24 t5
  have hl63 : l ≤ 9223372036854775807 := by unfold maxLen at hm; omega
  have each : ∀ i, i < l → ∃ x : Int × ByteArray × Int, (∀ a, pa = some a → w.cell? (a.add (i * 3 + 0)) = some (.int .i64 x.1) ∧ w.cell? (a.add (i * 3 + 1)) = some (.string x.2.1) ∧ w.cell? (a.add (i * 3 + 2)) = some (.int .i64 x.2.2)) ∧ (-9223372036854775808 ≤ x.2.2 ∧ x.2.2 ≤ 9223372036854775807) ∧ x.2.1.size ≤ 9223372036854775807 := by
    intro i hi
    cases pa with
    | none => have := hnone rfl; omega
    | some a =>
      obtain ⟨_, he⟩ := hel a rfl
      obtain ⟨u0, z0, m0, g0, q0⟩ := he i hi 0 _ rfl
      obtain ⟨u1, z1, m1, g1, q1⟩ := he i hi 1 _ rfl
      obtain ⟨u2, z2, m2, g2, q2⟩ := he i hi 2 _ rfl
      obtain ⟨a0, k0, -, -⟩ := DataW.trod_int Try.underlying3 q0
      obtain ⟨a1, k1, -, w1⟩ := DataW.trod_string Try.underlying9 q1
      obtain ⟨a2, k2, -, w2⟩ := DataW.trod_int Try.underlying2 q2
      simp at k0 k1 k2
      subst k0 k1 k2
      refine ⟨(a0, a1, a2), fun a' e => ?_, rangeK w2, by unfold maxLen at w1; omega⟩
      obtain rfl : a = a' := by simpa using e
      exact ⟨g0, g1, g2⟩
  obtain ⟨el, hE⟩ := choose_lt (α := Int × ByteArray × Int) each
  refine ⟨x, s1, s2, pa, pf, po, l, cap, lf, kf, lo, ko, el, rfl, hl63, ?_, hz⟩
  exact
  { at' := fun hl0 => by
      cases pa with
      | none => have := hnone rfl; omega
      | some a =>
        have h0 := ((hE 0 hl0).1 a rfl).1
        obtain ⟨B, o, spot⟩ := a
        have hsp : spot = none := by simpa [Addr.add] using World.cell?_spot h0
        subst hsp
        refine ⟨B, o, rfl, ?_, fun i hi => ?_⟩
        · have := World.block_lt_of_cell? w _ h0
          simpa [Addr.add] using this
        · obtain ⟨g0, g1, g2⟩ := (hE i hi).1 _ rfl
          refine ⟨?_, ?_, ?_⟩
          · rw [← g0]; congr 1; by_cases h : i * 3 = 0 <;> simp [Addr.add, h]
          · rw [← g1]; congr 1
          · rw [← g2]; congr 1
    r := fun i hi => (hE i hi).2.1
    s := fun i hi => (hE i hi).2.2 }


theorem open_term {H : Type} {enc : TypeId × Value → H} {w : World} {r : Reach} {b0 base : Nat} {spare : Nat → Bool} {held : Bool} {v : Value} {d : DataW H} {p : List MemPlace}
    (hv : Value.okWide Try.prog w r b0 39 v) (h : DataW.Trod enc Try.prog w base spare held 39 v d p) :
    ∃ (kind K : Int) (s : ByteArray) (n : Int) (pt : Option Addr) (lt ct : Nat) (N : Int) (ss : Nat → ByteArray), v = .agg #[.int .i64 kind, .int .i64 K, .string s, .int .i64 n, .slice pt lt ct, .int .i64 N] ∧ lt ≤ 9223372036854775807 ∧ StrIn w pt lt ss ∧ (pt = none → lt = 0 ∧ ct = 0) := by
  obtain ⟨cs, rfl, hsz⟩ := okWide_struct Try.underlying39 hv
  obtain ⟨fuel, hf⟩ := h
  have hf : DataW.trod enc Try.prog w base spare held fuel 39 cs.toList = some (d, p) := by simpa [Value.cells] using hf
  obtain ⟨xs, m, _, _, hlen, hxl, hg⟩ := DataW.trod_struct Try.underlying39 hf
  have hlen6 : cs.toList.length = 6 := hlen.trans (by kernel_rfl)
  obtain ⟨l⟩ := cs
  match l, hlen6 with
  | [v0, v1, v2, v3, v4, v5], _ =>
  have g0 : DataW.trod enc Try.prog w base spare held m 3 (([v0, v1, v2, v3, v4, v5].drop 0).take (Try.prog.cellsOf 3)) = xs[0]? := hg 0 _ rfl
  have g1 : DataW.trod enc Try.prog w base spare held m 30 (([v0, v1, v2, v3, v4, v5].drop 1).take (Try.prog.cellsOf 30)) = xs[1]? := hg 1 _ rfl
  have g2 : DataW.trod enc Try.prog w base spare held m 37 (([v0, v1, v2, v3, v4, v5].drop 4).take (Try.prog.cellsOf 37)) = xs[2]? := hg 2 _ rfl
  have g3 : DataW.trod enc Try.prog w base spare held m 2 (([v0, v1, v2, v3, v4, v5].drop 5).take (Try.prog.cellsOf 2)) = xs[3]? := hg 3 _ rfl
  have k0 : Try.prog.cellsOf 3 = 1 := by kernel_rfl
  have k1 : Try.prog.cellsOf 30 = 3 := by kernel_rfl
  have k2 : Try.prog.cellsOf 37 = 1 := by kernel_rfl
  have k3 : Try.prog.cellsOf 2 = 1 := by kernel_rfl
  have hx4 : xs.length = 4 := hxl
  rw [List.getElem?_eq_getElem (by omega)] at g0 g1 g2 g3
  simp only [k0, k1, k2, k3, List.drop_zero, List.drop_succ_cons, List.take_succ_cons, List.take_zero] at g0 g1 g2 g3
  obtain ⟨x0, f0, -, -⟩ := DataW.trod_int Try.underlying3 g0
  obtain ⟨x3, f3, -, -⟩ := DataW.trod_int Try.underlying2 g3
  obtain ⟨-, hc⟩ := trod_cell Try.underlying30 (by kernel_rfl) (by kernel_rfl) g1
  obtain ⟨u0, y0, n0, e0, t0⟩ := hc 0 _ rfl
  obtain ⟨u1, y1, n1, e1, t1⟩ := hc 1 _ rfl
  obtain ⟨u2, y2, n2, e2, t2⟩ := hc 2 _ rfl
  simp at e0 e1 e2 f0 f3
  subst e0 e1 e2 f0 f3
  obtain ⟨a0, q0, -, -⟩ := DataW.trod_int Try.underlying3 t0
  obtain ⟨a1, q1, -, -⟩ := DataW.trod_string Try.underlying9 t1
  obtain ⟨a2, q2, -, -⟩ := DataW.trod_int Try.underlying2 t2
  simp at q0 q1 q2
  subst q0 q1 q2
  rcases open_strs Try.underlying37 Try.underlying9 (by kernel_rfl) g2 with ⟨hc, _⟩ | ⟨a, len, cap, mm, Sx, hc, _, hl, hm, hmm, _, hs⟩
  · obtain rfl : v4 = .slice none 0 0 := by simpa using hc
    exact ⟨x0, a0, a1, a2, none, 0, 0, x3, fun _ => .empty, rfl, by decide, ⟨fun h => absurd h (Nat.lt_irrefl 0)⟩, fun _ => ⟨rfl, rfl⟩⟩
  · obtain rfl : v4 = .slice (some a) len cap := by simpa using hc
    refine ⟨x0, a0, a1, a2, some a, len, cap, x3, Sx, rfl, by unfold maxLen at hm; omega, ⟨fun hl0 => ?_⟩, fun e => by cases e⟩
    have hlm : len ≤ mm := by rw [hmm]; split <;> omega
    have h0 := (hs 0 (by omega)).1
    obtain ⟨B, o, spot⟩ := a
    have hsp : spot = none := by simpa [Addr.add] using World.cell?_spot h0
    subst hsp
    refine ⟨B, o, rfl, ?_, fun i hi => ?_⟩
    · have := World.block_lt_of_cell? w _ h0
      simpa [Addr.add] using this
    · rw [← (hs i (by omega)).1]
      congr 1
      by_cases h : i = 0 <;> simp [Addr.add, h]

section
variable (H : Type) (enc : TypeId × Value → H) (W : World) (base : Nat) (args : Array Value) (ds gs : List (DataW H)) (before : List MemPlace)
theorem foldKeeps_all (hval : ∀ (j : Nat) t v, Try.f5.params[j]? = some t → args[j]? = some v → Value.okWide Try.prog W .any base t v)
    (hW : DataW.Whole enc Try.prog Try.f5.params.toList Rows.foldKeepsSpec.vars false W args.toList ds gs before) :
    Calls Try.prog 5 args W fun e w' => e = .returned (.bool true) ∧ Below W.heap.size W w' := by
  obtain ⟨p, q, hA0, hV, rfl, _, _⟩ := hW
  have hA : DataW.TrodAll enc Try.prog W 0 (fun _ => true) true Try.f5.params.toList args.toList ds p := hA0
  rw [Try.params5] at hA hval
  obtain ⟨v0, vs0, d0, ds0, p0, q0, hargs, rfl, rfl, h0, r0⟩ := trodAll_cons hA
  obtain ⟨v1, vs1, d1, ds1, p1, q1, rfl, rfl, rfl, h1, r1⟩ := trodAll_cons r0
  obtain ⟨rfl, rfl, rfl⟩ := trodAll_nil r1
  obtain rfl : args = #[v0, v1] := by cases args; simp_all
  obtain ⟨kind, K, s, n, pt, lt, ct, N, ss, rfl, hlt, hT, ht0⟩ := open_term (hval 0 39 v0 rfl rfl) h0
  obtain ⟨op, d, nm, pa, pf, po, l, cap, lf, kf, lo, ko, el, rfl, hl, hAr, ha0⟩ := open_instr2 (hval 1 26 v1 rfl rfl) h1
  exact foldKeeps_walk kind K s n pt lt ct N ss op d nm pa pf po l cap lf kf lo ko el hlt hl ht0 ha0 W hT hAr
end
end Go.Proofs.Ytiheecgabfcigaa
