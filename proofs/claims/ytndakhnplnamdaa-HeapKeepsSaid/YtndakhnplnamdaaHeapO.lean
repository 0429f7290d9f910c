/- Parameters of the types api.Val, []api.Val, []api.Object, opened; HeapStores as its row's contract. -/
import Derived.Test.YtndakhnplnamdaaHeapN
import Derived.Deep.Strs
namespace Go.Proofs.Ytndakhnplnamdaa
open Go.ChangeShapes Go.WideShapes Go.ChangeAt Go.RowKit Go.Deep

theorem rangeK {a : Int} (h : (Lit.int .i64 a).wf = true) : -9223372036854775808 ≤ a ∧ a ≤ 9223372036854775807 := by
  simpa [Lit.wf, IntKind.min, IntKind.max, IntKind.signed, IntKind.bits] using h
theorem slice_none {H : Type} {enc : TypeId × Value → H} {P : Program} {w : World} {base : Nat} {spare : Nat → Bool} {held : Bool} {t e : TypeId} {fuel l cap : Nat} {x : DataW H × List MemPlace} (ht : P.underlying t = some (.slice e))
    (h : DataW.trod enc P w base spare held fuel t [.slice none l cap] = some x) : l = 0 ∧ cap = 0 := by
  rcases open_slice ht h with ⟨hc, _⟩ | ⟨a, len, c, m, n, D, Pl, hc, _⟩
  · simpa using hc
  · simp at hc
section
variable {H : Type} {enc : TypeId × Value → H} {w : World} {r : Reach} {b0 base : Nat} {spare : Nat → Bool} {held : Bool}
theorem open_val {v : Value} {d : DataW H} {p : List MemPlace} (hv : Value.okWide Try.prog w r b0 25 v) (h : DataW.Trod enc Try.prog w base spare held 25 v d p) :
    ∃ (s : ByteArray) (x : Int), v = .agg #[.string s, .int .i64 x] ∧ -9223372036854775808 ≤ x ∧ x ≤ 9223372036854775807 := by
  obtain ⟨cs, rfl, hlen, hc⟩ := agg_cell Try.underlying25 (by kernel_rfl) (by kernel_rfl) hv h
  obtain ⟨v0, y0, n0, e0, t0⟩ := hc 0 _ rfl
  obtain ⟨v1, y1, n1, e1, t1⟩ := hc 1 _ rfl
  have hcs : cs = [v0, v1] := by
    match cs, hlen with
    | [c0, c1], _ =>
      simp at e0 e1
      simp [e0, e1]
  subst hcs
  obtain ⟨s1, f1, -, -⟩ := DataW.trod_string Try.underlying9 t0
  obtain ⟨x, f0, -, w0⟩ := DataW.trod_int Try.underlying2 t1
  simp at f0 f1
  subst f0 f1
  exact ⟨s1, x, rfl, rangeK w0⟩
theorem open_vals {v : Value} {fuel : Nat} {x : DataW H × List MemPlace} (h : DataW.trod enc Try.prog w base spare held fuel 23 [v] = some x) :
    ∃ pa l ca vs, v = .slice pa l ca ∧ Vals w pa l vs ∧ (pa = none → l = 0 ∧ ca = 0) := by
  obtain ⟨pa, l, ca, rfl, hl, hm, hnone, hel⟩ := slice_cells Try.underlying23 Try.underlying25 (by kernel_rfl) (by kernel_rfl) h
  have hz : pa = none → l = 0 ∧ ca = 0 := fun e => by subst e; exact slice_none Try.underlying23 h
  have each : ∀ i, i < l → ∃ x : Vl, (∀ a, pa = some a → w.cell? (a.add (i * 2 + 0)) = some (.string x.1) ∧ w.cell? (a.add (i * 2 + 1)) = some (.int .i64 x.2)) ∧ (-9223372036854775808 ≤ x.2 ∧ x.2 ≤ 9223372036854775807) := by
    intro i hi
    cases pa with
    | none => have := hnone rfl; omega
    | some a =>
      obtain ⟨_, he⟩ := hel a rfl
      obtain ⟨u0, z0, m0, g0, q0⟩ := he i hi 0 _ rfl
      obtain ⟨u1, z1, m1, g1, q1⟩ := he i hi 1 _ rfl
      obtain ⟨a0, k0, -, -⟩ := DataW.trod_string Try.underlying9 q0
      obtain ⟨a1, k1, -, w1⟩ := DataW.trod_int Try.underlying2 q1
      simp at k0 k1
      subst k0 k1
      refine ⟨(a0, a1), fun a' e => ?_, rangeK w1⟩
      obtain rfl : a = a' := by simpa using e
      exact ⟨g0, g1⟩
  obtain ⟨el, hE⟩ := choose_lt (α := Vl) each
  refine ⟨pa, l, ca, el, rfl, ?_, hz⟩
  exact
  { at' := fun hl0 => by
      cases pa with
      | none => have := hnone rfl; omega
      | some a =>
        have h0 := ((hE 0 hl0).1 a rfl).1
        obtain ⟨B, o, spot⟩ := a
        have hsp : spot = none := by simpa [Addr.add] using World.cell?_spot h0
        subst hsp
        refine ⟨B, o, rfl, ?_, fun i hi => ?_⟩
        · have := World.block_lt_of_cell? w _ h0
          simpa [Addr.add] using this
        · obtain ⟨g0, g1⟩ := (hE i hi).1 _ rfl
          rw [add_at] at g0 g1
          exact ⟨by rw [← g0]; rfl, g1⟩
    r := fun i hi => (hE i hi).2
    m := by unfold maxLen at hm; omega }
theorem open_objs {v : Value} {fuel : Nat} {x : DataW H × List MemPlace} (h : DataW.trod enc Try.prog w base spare held fuel 22 [v] = some x) :
    ∃ ph n ch ob, v = .slice ph n ch ∧ Objs w ph n ob ∧ (ph = none → n = 0 ∧ ch = 0) := by
  obtain ⟨pa, l, ca, rfl, hl, hm, hnone, hel⟩ := slice_cells Try.underlying22 Try.underlying41 (by kernel_rfl) (by kernel_rfl) h
  have hz : pa = none → l = 0 ∧ ca = 0 := fun e => by subst e; exact slice_none Try.underlying22 h
  have each : ∀ i, i < l → ∃ x : ObjD, (∀ a, pa = some a → w.cell? (a.add (i * 2 + 0)) = some (.string x.c) ∧ w.cell? (a.add (i * 2 + 1)) = some (.slice x.p x.l x.k)) ∧ Vals w x.p x.l x.vs := by
    intro i hi
    cases pa with
    | none => have := hnone rfl; omega
    | some a =>
      obtain ⟨_, he⟩ := hel a rfl
      obtain ⟨u0, z0, m0, g0, q0⟩ := he i hi 0 _ rfl
      obtain ⟨u1, z1, m1, g1, q1⟩ := he i hi 1 _ rfl
      obtain ⟨a0, k0, -, -⟩ := DataW.trod_string Try.underlying9 q0
      obtain ⟨p, l', k, vs, rfl, hV, -⟩ := open_vals q1
      simp at k0
      subst k0
      refine ⟨⟨a0, p, l', k, vs⟩, fun a' e => ?_, hV⟩
      obtain rfl : a = a' := by simpa using e
      exact ⟨g0, g1⟩
  haveI : Inhabited ObjD := ⟨⟨.empty, none, 0, 0, fun _ => (.empty, 0)⟩⟩
  obtain ⟨el, hE⟩ := choose_lt (α := ObjD) each
  refine ⟨pa, l, ca, el, rfl, ?_, hz⟩
  exact
  { at' := fun hl0 => by
      cases pa with
      | none => have := hnone rfl; omega
      | some a =>
        have h0 := ((hE 0 hl0).1 a rfl).1
        obtain ⟨B, o, spot⟩ := a
        have hsp : spot = none := by simpa [Addr.add] using World.cell?_spot h0
        subst hsp
        refine ⟨B, o, rfl, ?_, fun i hi => ?_⟩
        · have := World.block_lt_of_cell? w _ h0
          simpa [Addr.add] using this
        · obtain ⟨g0, g1⟩ := (hE i hi).1 _ rfl
          rw [add_at] at g0 g1
          exact ⟨by rw [← g0]; rfl, g1⟩
    v := fun i hi => (hE i hi).2
    m := by unfold maxLen at hm; omega }
theorem p_objs {v : Value} {d : DataW H} {p : List MemPlace} (hv : Value.okWide Try.prog w r b0 22 v) (h : DataW.Trod enc Try.prog w base spare held 22 v d p) :
    ∃ ph n ch ob, v = .slice ph n ch ∧ Objs w ph n ob ∧ (ph = none → n = 0 ∧ ch = 0) := by
  obtain ⟨a, l, c, rfl⟩ := okWide_slice Try.underlying22 hv
  obtain ⟨f, hf⟩ := h
  exact open_objs (v := .slice a l c) (by simpa [Value.cells] using hf)
theorem p_vals {v : Value} {d : DataW H} {p : List MemPlace} (hv : Value.okWide Try.prog w r b0 23 v) (h : DataW.Trod enc Try.prog w base spare held 23 v d p) :
    ∃ pa l ca vs, v = .slice pa l ca ∧ Vals w pa l vs ∧ (pa = none → l = 0 ∧ ca = 0) := by
  obtain ⟨a, l, c, rfl⟩ := okWide_slice Try.underlying23 hv
  obtain ⟨f, hf⟩ := h
  exact open_vals (v := .slice a l c) (by simpa [Value.cells] using hf)
end

section
variable (H : Type) (enc : TypeId × Value → H) (W : World) (base : Nat) (args : Array Value) (ds gs : List (DataW H)) (before : List MemPlace)
theorem heapStores_all (hval : ∀ (j : Nat) t v, Try.f6.params[j]? = some t → args[j]? = some v → Value.okWide Try.prog W .any base t v)
    (hW : DataW.Whole enc Try.prog Try.f6.params.toList Rows.heapStoresSpec.vars false W args.toList ds gs before) :
    Calls Try.prog 6 args W fun e w' => e = .returned (.bool true) ∧ Below W.heap.size W w' := by
  obtain ⟨p, q, hA0, hV, rfl, _, _⟩ := hW
  have hA : DataW.TrodAll enc Try.prog W 0 (fun _ => true) true Try.f6.params.toList args.toList ds p := hA0
  rw [Try.params6] at hA hval
  obtain ⟨v0, vs0, d0, ds0, p0, q0, hargs, rfl, rfl, h0, r0⟩ := trodAll_cons hA
  obtain ⟨v1, vs1, d1, ds1, p1, q1, rfl, rfl, rfl, h1, r1⟩ := trodAll_cons r0
  obtain ⟨v2, vs2, d2, ds2, p2, q2, rfl, rfl, rfl, h2, r2⟩ := trodAll_cons r1
  obtain ⟨v3, vs3, d3, ds3, p3, q3, rfl, rfl, rfl, h3, r3⟩ := trodAll_cons r2
  obtain ⟨v4, vs4, d4, ds4, p4, q4, rfl, rfl, rfl, h4, r4⟩ := trodAll_cons r3
  obtain ⟨v5, vs5, d5, ds5, p5, q5, rfl, rfl, rfl, h5, r5⟩ := trodAll_cons r4
  obtain ⟨rfl, rfl, rfl⟩ := trodAll_nil r5
  obtain rfl : args = #[v0, v1, v2, v3, v4, v5] := by cases args; simp_all
  obtain ⟨ph, n, ch, ob, rfl, hO, -⟩ := p_objs (hval 0 _ v0 rfl rfl) h0
  obtain ⟨s, x, rfl, -⟩ := open_val (hval 1 _ v1 rfl rfl) h1
  obtain ⟨t, y, rfl, hy⟩ := open_val (hval 3 _ v3 rfl rfl) h3
  obtain ⟨u, z, rfl, -⟩ := open_val (hval 4 _ v4 rfl rfl) h4
  obtain ⟨at', rfl, _, _, -⟩ := open_int Try.underlying3 (hval 2 _ v2 rfl rfl) h2
  obtain ⟨by', rfl, _, _, -⟩ := open_int Try.underlying3 (hval 5 _ v5 rfl rfl) h5
  exact stores_walk ph n ch ob s x at' t y u z by' hy W hO
end
end Go.Proofs.Ytndakhnplnamdaa
