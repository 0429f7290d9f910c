/- The law of instructions. -/
import Derived.Test.YtjohjpjpfglkkaaDoorLins
import Derived.Test.YtjohjpjpfglkkaaDoorRib
namespace Go.Proofs.YtjohjpjpfglkkaaDoor
open Go Go.RowKit Go.ChangeShapes Go.WideShapes Go.ChangeAt Go.Deep
variable (H : Type) (enc : TypeId × Value → H) (W : World) (base : Nat) (args : Array Value) (ds gs : List (DataW H)) (before : List MemPlace)
set_option maxRecDepth 100000 in
theorem typesInstrs_all (hval : ∀ (j : Nat) t v, Tryd.f3.params[j]? = some t → args[j]? = some v → Value.okWide Tryd.prog W .any base t v)
    (hW : DataW.Whole enc Tryd.prog Tryd.f3.params.toList Rows.typesInstrsSpec.vars false W args.toList ds gs before)
    (hk : (DataW.weightsEach Tryd.prog (Tryd.f3.params.toList ++ Rows.typesInstrsSpec.plain.varTypes Tryd.prog) (ds ++ gs)).all (· ≤ reachBytes) = true) (hx : laidMetH Tryd.prog Rows.typesInstrsRow.laid W) :
    Calls Tryd.prog 3 args W fun e W' => e = .returned (.bool true) ∧ Below W.heap.size W W' := by
  have hwd := words_laid hx
  obtain ⟨p, q, hA0, hV, rfl, _, _⟩ := hW
  have hA : DataW.TrodAll enc Tryd.prog W 0 (fun _ => true) true Tryd.f3.params.toList args.toList ds p := hA0
  rw [Tryd.params3] at hA hval hk
  obtain ⟨v0, vs0, d0, ds0, p0, q0, hargs, rfl, rfl, h0, r0⟩ := trodAll_cons hA
  obtain ⟨v1, vs1, d1, ds1, p1, q1, rfl, rfl, rfl, h1, r1⟩ := trodAll_cons r0
  obtain ⟨v2, vs2, d2, ds2, p2, q2, rfl, rfl, rfl, h2, r2⟩ := trodAll_cons r1
  obtain ⟨rfl, rfl, rfl⟩ := trodAll_nil r2
  obtain rfl : args = #[v0, v1, v2] := by cases args; simp_all
  obtain ⟨c0, rfl, k0⟩ := rd_of Tryd.underlying27 (hval 0 _ v0 rfl rfl) h0 (wt_of hk (j := 0) rfl rfl)
  obtain ⟨c1, rfl, k1⟩ := rd_of Tryd.underlying30 (hval 1 _ v1 rfl rfl) h1 (wt_of hk (j := 1) rfl rfl)
  obtain ⟨c2, rfl, k2⟩ := rd_of Tryd.underlying35 (hval 2 _ v2 rfl rfl) h2 (wt_of hk (j := 2) rfl rfl)
  obtain ⟨p, u1, u2, u3, u4, hp⟩ := in_p k0
  obtain ⟨f, g1, g2, g3, hf⟩ := in_f k1
  obtain ⟨x, y1, y2, y3, hi⟩ := in_i k2
  have e1 := hp.e
  have e2 := hf.e
  have e3 := hi.e
  obtain ⟨pa, ka, rfl⟩ := hi.a.slice
  rw [e1] at hp
  rw [e2] at hf
  rw [e3] at hi
  rw [e1, e2, e3]
  exact instrs_walk W p.ssa u1 u2 u3 u4 f.n f.r g1 g2 g3 x.op x.d x.n pa x.as.length ka y2 y3 (instrB p f x) awake_val
    (fun W hW => (few_val hW hp hf).mono fun e w' ⟨h1, b, h2, _⟩ => ⟨h1, b, h2⟩)
    (fun W hW => instr_val hW hp hf hi) (fun W hW => rinstr_val hW hwd hp hf hi)
end Go.Proofs.YtjohjpjpfglkkaaDoor
