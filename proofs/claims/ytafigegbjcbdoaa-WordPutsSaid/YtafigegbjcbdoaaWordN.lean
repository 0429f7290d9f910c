/- A parameter of the type api.Arg, opened; the walks of the statements that have one, as their rows' contracts. -/
import Derived.Test.YtafigegbjcbdoaaWordM
import Derived.Lib.SmallJoins
namespace Go.Proofs.Ytafigegbjcbdoaa
open Go.ChangeShapes Go.WideShapes Go.ChangeAt Go.RowKit Word Num Flo

theorem rangeI {a : Int} (h : (Lit.int .i64 a).wf = true) : -9223372036854775808 ≤ a ∧ a ≤ 9223372036854775807 := by
  simpa [Lit.wf, IntKind.min, IntKind.max, IntKind.signed, IntKind.bits] using h
theorem open_arg {H : Type} {enc : TypeId × Value → H} {w : World} {r : Reach} {b0 base : Nat} {spare : Nat → Bool} {held : Bool} {v : Value} {d : DataW H} {p : List MemPlace}
    (hv : Value.okWide Try.prog w r b0 25 v) (h : DataW.Trod enc Try.prog w base spare held 25 v d p) :
    ∃ (K : Int) (s : ByteArray) (n : Int), v = .agg #[.int .i64 K, .string s, .int .i64 n] ∧ Hid (s.size ≤ 9223372036854775807) ∧ Hid (-9223372036854775808 ≤ n ∧ n ≤ 9223372036854775807) := by
  obtain ⟨c0, c1, c2, y0, y1, y2, m, rfl, rfl, rfl, hy0, hy1, hy2⟩ := Joins.open_agg3 Try.underlying25 (by kernel_rfl) (by kernel_rfl) hv h
  obtain ⟨x, e0, rfl, wx⟩ := DataW.trod_int Try.underlying3 hy0
  obtain ⟨y, e1, rfl, wy⟩ := DataW.trod_string Try.underlying9 hy1
  obtain ⟨f, e2, rfl, wf⟩ := DataW.trod_int Try.underlying2 hy2
  simp at e0 e1 e2
  subst e0 e1 e2
  exact ⟨x, y, f, rfl, wy, rangeI wf⟩

section
variable (H : Type) (enc : TypeId × Value → H) (W : World) (base : Nat) (args : Array Value) (ds gs : List (DataW H)) (before : List MemPlace)
theorem wordPuts_all (hval : ∀ (j : Nat) t v, Try.f5.params[j]? = some t → args[j]? = some v → Value.okWide Try.prog W .any base t v)
    (hW : DataW.Whole enc Try.prog Try.f5.params.toList Rows.wordPutsSpec.vars false W args.toList ds gs before) :
    Calls Try.prog 5 args W fun e w' => e = .returned (.bool true) ∧ Below W.heap.size W w' := by
  obtain ⟨p, q, hA0, hV, rfl, _, _⟩ := hW
  have hA : DataW.TrodAll enc Try.prog W 0 (fun _ => true) true Try.f5.params.toList args.toList ds p := hA0
  rw [Try.params5] at hA hval
  obtain ⟨v0, vs0, d0, ds0, p0, q0, hargs, rfl, rfl, h0, r0⟩ := trodAll_cons hA
  obtain ⟨rfl, rfl, rfl⟩ := trodAll_nil r0
  obtain rfl : args = #[v0] := by cases args; simp_all
  obtain ⟨K, s, n, rfl, hs, hn⟩ := open_arg (hval 0 25 v0 rfl rfl) h0
  exact wordPuts_walk K s n hs hn W
theorem wordBack_all (hval : ∀ (j : Nat) t v, Try.f6.params[j]? = some t → args[j]? = some v → Value.okWide Try.prog W .any base t v)
    (hW : DataW.Whole enc Try.prog Try.f6.params.toList Rows.wordBackSpec.vars false W args.toList ds gs before) :
    Calls Try.prog 6 args W fun e w' => e = .returned (.bool true) ∧ Below W.heap.size W w' := by
  obtain ⟨p, q, hA0, hV, rfl, _, _⟩ := hW
  have hA : DataW.TrodAll enc Try.prog W 0 (fun _ => true) true Try.f6.params.toList args.toList ds p := hA0
  rw [Try.params6] at hA hval
  obtain ⟨v0, vs0, d0, ds0, p0, q0, hargs, rfl, rfl, h0, r0⟩ := trodAll_cons hA
  obtain ⟨v1, vs1, d1, ds1, p1, q1, rfl, rfl, rfl, h1, r1⟩ := trodAll_cons r0
  obtain ⟨rfl, rfl, rfl⟩ := trodAll_nil r1
  obtain rfl : args = #[v0, v1] := by cases args; simp_all
  obtain ⟨K, s, n, rfl, hs, hn⟩ := open_arg (hval 0 25 v0 rfl rfl) h0
  obtain ⟨a1, rfl, _, _, _⟩ := Go.ChangeMaps.open_string Try.underlying9 (hval 1 9 v1 rfl rfl) h1
  exact wordBack_walk K s n a1 hn W
theorem wordUnlike_all (hval : ∀ (j : Nat) t v, Try.f7.params[j]? = some t → args[j]? = some v → Value.okWide Try.prog W .any base t v)
    (hW : DataW.Whole enc Try.prog Try.f7.params.toList Rows.wordUnlikeSpec.vars false W args.toList ds gs before) :
    Calls Try.prog 7 args W fun e w' => e = .returned (.bool true) ∧ Below W.heap.size W w' := by
  obtain ⟨p, q, hA0, hV, rfl, _, _⟩ := hW
  have hA : DataW.TrodAll enc Try.prog W 0 (fun _ => true) true Try.f7.params.toList args.toList ds p := hA0
  rw [Try.params7] at hA hval
  obtain ⟨v0, vs0, d0, ds0, p0, q0, hargs, rfl, rfl, h0, r0⟩ := trodAll_cons hA
  obtain ⟨v1, vs1, d1, ds1, p1, q1, rfl, rfl, rfl, h1, r1⟩ := trodAll_cons r0
  obtain ⟨rfl, rfl, rfl⟩ := trodAll_nil r1
  obtain rfl : args = #[v0, v1] := by cases args; simp_all
  obtain ⟨K, s, n, rfl, hs, hn⟩ := open_arg (hval 0 25 v0 rfl rfl) h0
  obtain ⟨K2, s2, n2, rfl, hs2, hn2⟩ := open_arg (hval 1 25 v1 rfl rfl) h1
  exact wordUnlike_walk K s n K2 s2 n2 hn hn2 W
end
end Go.Proofs.Ytafigegbjcbdoaa
