/- HeapDeep, where there is nothing to ask; as its row's contract. -/
import Derived.Test.YtndakhnplnamdaaHeapS
namespace Go.Proofs.Ytndakhnplnamdaa
open Go.RowKit

theorem AlikePost.is {w w' : World} {P : Prop} {e : Ending} {b : Bool} (h : AlikePost w P e w') (hb : b = true ↔ P) : e = .returned (.bool b) ∧ Below w.heap.size w w' := by
  obtain ⟨b', rfl, h1, h2⟩ := h
  have : b' = b := by
    have := h1.trans hb.symm
    cases b <;> cases b' <;> simp at this ⊢
  subst this
  exact ⟨rfl, h2⟩
set_option maxRecDepth 100000 in
set_option maxHeartbeats 8000000 in
theorem deep_few (ph pa pk pb pw : Option Addr) (n ch l ca m ck l' cb lw cw : Nat) (ob oq : Nat → ObjD) (va vb : Nat → Vl) (b4 : Bool) (hb4 : b4 = true ↔ AlikeP n m ob oq l l' va vb)
    (hno : fewB n ob = false ∨ (fewB n ob = true ∧ fewB m oq = false) ∨ (fewB n ob = true ∧ fewB m oq = true ∧ 50 < l) ∨ (fewB n ob = true ∧ fewB m oq = true ∧ l ≤ 50 ∧ 50 < l') ∨ (fewB n ob = true ∧ fewB m oq = true ∧ l ≤ 50 ∧ l' ≤ 50 ∧ 100 < lw) ∨
      (fewB n ob = true ∧ fewB m oq = true ∧ l ≤ 50 ∧ l' ≤ 50 ∧ lw ≤ 100 ∧ b4 = false) ∨ (fewB n ob = true ∧ fewB m oq = true ∧ l ≤ 50 ∧ l' ≤ 50 ∧ lw ≤ 100 ∧ b4 = true ∧ l = 0) ∨ (fewB n ob = true ∧ fewB m oq = true ∧ l ≤ 50 ∧ l' ≤ 50 ∧ lw ≤ 100 ∧ b4 = true ∧ 0 < l ∧ lw = 0))
    (w : World) (hO : Objs w ph n ob) (hQ : Objs w pk m oq) (hA : Vals w pa l va) (hBv : Vals w pb l' vb) (hw : lw ≤ 9223372036854775807) :
    Calls Try.prog 5 #[.slice ph n ch, .slice pa l ca, .slice pk m ck, .slice pb l' cb, .slice pw lw cw] w (AllTrue w) := by
  have H1 := fun w1 (hb : Below w.heap.size w w1) => few_val ph n ch ob w1 (hO.below hb)
  have H2 := fun w1 (hb : Below w.heap.size w w1) => few_val pk m ck oq w1 (hQ.below hb)
  have HA := fun (h1 : fewB n ob = true) (h2 : fewB m oq = true) w1 (hb : Below w.heap.size w w1) => (alike_val (ch := ch) (ck := ck) (ca := ca) (cu := cb) (few_n h1).1 (Nat.le_trans (few_n h2).1 (by decide)) ob oq va vb w1 (hO.below hb) (hQ.below hb) (hA.below hb) (hBv.below hb)).mono fun _ _ h => AlikePost.is h hb4
  have hm1 := hA.m
  have hm2 := hBv.m
  clear hO hQ hA hBv hb4
  generalize fewB n ob = b1 at *
  generalize fewB m oq = b2 at *
  rcases hno with rfl | ⟨rfl, rfl⟩ | ⟨rfl, rfl, hl⟩ | ⟨rfl, rfl, hl, hl'⟩ | ⟨rfl, rfl, hl, hl', hlw⟩ | ⟨rfl, rfl, hl, hl', hlw, rfl⟩ | ⟨rfl, rfl, hl, hl', hlw, rfl, hz⟩ | ⟨rfl, rfl, hl, hl', hlw, rfl, hz, hz2⟩
  case' inr.inr.inr.inr.inr.inr.inl => have hzz : ((l : Int) == 0) = true := by rw [hz]; rfl
  case' inr.inr.inr.inr.inr.inr.inr => have hzz : ((l : Int) == 0) = false := by rw [beq_eq_false_iff_ne]; omega
  case' inr.inr.inr.inr.inr.inr.inr => have hzw : ((lw : Int) == 0) = true := by rw [hz2]; rfl
  all_goals
    try clear hz2
    try clear hz
    try replace HA := HA rfl rfl
    go_enter Try.func5, Try.ntmps5
    go_wp2_with fail
    refine (awake_val _).mono ?_
    rintro e w1 ⟨rfl, hB⟩
    go_wp2_with fail
    refine (H1 _ hB).mono ?_
    rintro e w2 ⟨rfl, rfl⟩
    go_wp2_with fail
    try
      refine (H2 _ hB).mono ?_
      rintro e w2 ⟨rfl, rfl⟩
      go_wp2_with fail
    try
      refine (HA _ hB).mono ?_
      rintro e w3 ⟨rfl, hb⟩
      replace hB := bthen hB hb
      clear hb
      go_wp2_with fail
    refine (awake_val _).mono ?_
    rintro e w4 ⟨rfl, hb⟩
    have hB2 := bthen hB hb
    clear hb hB H1 H2 HA
    go_wp2
    go_ret
    exact ⟨rfl, hB2⟩

section
open Go.ChangeShapes Go.WideShapes Go.ChangeAt Go.Deep
theorem p_ints {H : Type} {enc : TypeId × Value → H} {w : World} {r : Reach} {b0 base : Nat} {spare : Nat → Bool} {held : Bool} {v : Value} {d : DataW H} {p : List MemPlace} (hv : Value.okWide Try.prog w r b0 44 v) (h : DataW.Trod enc Try.prog w base spare held 44 v d p) :
    ∃ pa l ca ns, v = .slice pa l ca ∧ IntsIn w pa l ns := by
  obtain ⟨a, l, c, rfl⟩ := okWide_slice Try.underlying44 hv
  obtain ⟨f, hf⟩ := h
  have hf : DataW.trod enc Try.prog w base spare held f 44 [.slice a l c] = some (d, p) := by simpa [Value.cells] using hf
  rcases open_slice1 Try.underlying44 (by kernel_rfl) hf with ⟨hc, _⟩ | ⟨a, len, cap, mm, n, V, D, Pl, hc, _, hl, hm, hmm, _, hs⟩
  · simp only [List.cons.injEq, Value.slice.injEq, and_true] at hc
    obtain ⟨rfl, rfl, rfl⟩ := hc
    exact ⟨_, _, _, fun _ => 0, rfl, ⟨fun h => absurd h (Nat.lt_irrefl 0), fun i hi => absurd hi (Nat.not_lt_zero i), by decide⟩⟩
  · simp only [List.cons.injEq, Value.slice.injEq, and_true] at hc
    obtain ⟨rfl, rfl, rfl⟩ := hc
    have hlm : l ≤ mm := by rw [hmm]; split <;> omega
    have each : ∀ i, i < l → ∃ x : Int, w.cell? (a.add i) = some (.int .i64 x) ∧ -9223372036854775808 ≤ x ∧ x ≤ 9223372036854775807 := fun i hi => by
      obtain ⟨h1, h2⟩ := hs i (by omega)
      obtain ⟨x, f0, -, w0⟩ := DataW.trod_int Try.underlying3 h2
      have f0 : V i = .int .i64 x := by simpa using f0
      rw [f0] at h1
      exact ⟨x, h1, rangeK w0⟩
    obtain ⟨ns, hE⟩ := choose_lt (α := Int) each
    refine ⟨_, _, _, ns, rfl, ⟨fun h0 => ?_, fun i hi => (hE i hi).2, by unfold maxLen at hm; omega⟩⟩
    have h00 := (hE 0 h0).1
    obtain ⟨B, o, spot⟩ := a
    have hsp : spot = none := by simpa [Addr.add] using World.cell?_spot h00
    subst hsp
    refine ⟨B, o, rfl, ?_, fun i hi => ?_⟩
    · have := World.block_lt_of_cell? w _ h00
      simpa [Addr.add] using this
    · have := (hE i hi).1
      rw [add_at] at this
      exact this
variable (H : Type) (enc : TypeId × Value → H) (W : World) (base : Nat) (args : Array Value) (ds gs : List (DataW H)) (before : List MemPlace)
theorem heapDeep_all (hval : ∀ (j : Nat) t v, Try.f5.params[j]? = some t → args[j]? = some v → Value.okWide Try.prog W .any base t v)
    (hW : DataW.Whole enc Try.prog Try.f5.params.toList Rows.heapDeepSpec.vars false W args.toList ds gs before) :
    Calls Try.prog 5 args W fun e w' => e = .returned (.bool true) ∧ Below W.heap.size W w' := by
  obtain ⟨p, q, hA0, hV, rfl, _, _⟩ := hW
  have hA : DataW.TrodAll enc Try.prog W 0 (fun _ => true) true Try.f5.params.toList args.toList ds p := hA0
  rw [Try.params5] at hA hval
  obtain ⟨v0, vs0, d0, ds0, p0, q0, hargs, rfl, rfl, h0, r0⟩ := trodAll_cons hA
  obtain ⟨v1, vs1, d1, ds1, p1, q1, rfl, rfl, rfl, h1, r1⟩ := trodAll_cons r0
  obtain ⟨v2, vs2, d2, ds2, p2, q2, rfl, rfl, rfl, h2, r2⟩ := trodAll_cons r1
  obtain ⟨v3, vs3, d3, ds3, p3, q3, rfl, rfl, rfl, h3, r3⟩ := trodAll_cons r2
  obtain ⟨v4, vs4, d4, ds4, p4, q4, rfl, rfl, rfl, h4, r4⟩ := trodAll_cons r3
  obtain ⟨rfl, rfl, rfl⟩ := trodAll_nil r4
  obtain rfl : args = #[v0, v1, v2, v3, v4] := by cases args; simp_all
  obtain ⟨ph, n, ch, ob, rfl, hO, -⟩ := p_objs (hval 0 _ v0 rfl rfl) h0
  obtain ⟨pa, l, ca, va, rfl, hVa, -⟩ := p_vals (hval 1 _ v1 rfl rfl) h1
  obtain ⟨pk, m, ck, oq, rfl, hQ, -⟩ := p_objs (hval 2 _ v2 rfl rfl) h2
  obtain ⟨pb, l', cb, vb, rfl, hVb, -⟩ := p_vals (hval 3 _ v3 rfl rfl) h3
  obtain ⟨pw, lw, cw, ns, rfl, hN⟩ := p_ints (hval 4 _ v4 rfl rfl) h4
  have key : ∀ b, (b = true ↔ AlikeP n m ob oq l l' va vb) → Calls Try.prog 5 #[.slice ph n ch, .slice pa l ca, .slice pk m ck, .slice pb l' cb, .slice pw lw cw] W (AllTrue W) := by
    intro b hb
    have few := fun hno => deep_few ph pa pk pb pw n ch l ca m ck l' cb lw cw ob oq va vb b hb hno W hO hQ hVa hVb hN.m
    cases f1 : fewB n ob
    · exact few (.inl f1)
    cases f2 : fewB m oq
    · exact few (.inr (.inl ⟨f1, f2⟩))
    by_cases hl : l ≤ 50
    · by_cases hl' : l' ≤ 50
      · by_cases hw : lw ≤ 100
        · cases hb2 : b
          · exact few (.inr (.inr (.inr (.inr (.inr (.inl ⟨f1, f2, hl, hl', hw, hb2⟩))))))
          · by_cases hz : l = 0
            · exact few (.inr (.inr (.inr (.inr (.inr (.inr (.inl ⟨f1, f2, hl, hl', hw, hb2, hz⟩)))))))
            · by_cases hz2 : lw = 0
              · exact few (.inr (.inr (.inr (.inr (.inr (.inr (.inr ⟨f1, f2, hl, hl', hw, hb2, by omega, hz2⟩)))))))
              · exact deep_main ph pa pk pb pw n ch l ca m ck l' cb lw cw ob oq va vb ns f1 f2 hl hl' hw (hb.1 hb2) (by omega) (by omega) W hO hQ hVa hVb hN
        · exact few (.inr (.inr (.inr (.inr (.inl ⟨f1, f2, hl, hl', by omega⟩)))))
      · exact few (.inr (.inr (.inr (.inl ⟨f1, f2, hl, by omega⟩))))
    · exact few (.inr (.inr (.inl ⟨f1, f2, by omega⟩)))
  by_cases hal : AlikeP n m ob oq l l' va vb
  · exact key true ⟨fun _ => hal, fun _ => rfl⟩
  · exact key false ⟨(fun e => by cases e), fun h => absurd h hal⟩
end
end Go.Proofs.Ytndakhnplnamdaa
