/- The statement TypesInstrs, out of the walk 'typesInstrs_all' of its text: for every input the call returns true, and all memory that was there stays. -/
import Derived.Test.YtjohjpjpfglkkaaDoorLint
import Derived.Test.YtjohjpjpfglkkaaDoorLift
import Derived.Test.YtjohjpjpfglkkaaDoorCard
import Derived.Test.YtjohjpjpfglkkaaDoorTie
import Derived.Test.YtjohjpjpfglkkaaDoorCards
namespace Go.Proofs.YtjohjpjpfglkkaaDoor.lawTypesInstrs
open Go.ChangeShapes Go.WideShapes Go.ChangeAt Go.RowKit
open Go.ChangeMaps (open_string shut_string)

set_option maxRecDepth 100000 in
theorem contract (H : Type) (enc : TypeId × Value → H) (W : World) (base : Nat) (args : Array Value) (ds gs : List (DataW H)) (before : List MemPlace)
    (hval : ∀ (j : Nat) t v, Tryd.f3.params[j]? = some t → args[j]? = some v → Value.okWide Tryd.prog W .any base t v)
    (hW : DataW.Whole enc Tryd.prog Tryd.f3.params.toList Rows.typesInstrsSpec.vars false W args.toList ds gs before) (hk : (DataW.weightsEach Tryd.prog (Tryd.f3.params.toList ++ Rows.typesInstrsSpec.plain.varTypes Tryd.prog) (ds ++ gs)).all (· ≤ reachBytes) = true) (hx : laidMetH Tryd.prog Rows.typesInstrsRow.laid W) :
    Calls Tryd.prog 3 args W fun e W' => ∃ v, e = .returned v ∧ Rows.typesInstrsSpec.post enc Tryd.prog Tryd.f3 false true false false W args v W' := by
  have hWk := hW
  obtain ⟨p, q, hA0, hV, rfl, _, _⟩ := hW
  have hA : DataW.TrodAll enc Tryd.prog W 0 (fun _ => true) true Tryd.f3.params.toList args.toList ds p := hA0
  rw [Tryd.params3] at hA
  obtain ⟨v0, vs0, d0, ds0, p0, q0, hargs, rfl, rfl, h0, r0⟩ := trodAll_cons hA
  obtain ⟨v1, vs1, d1, ds1, p1, q1, rfl, rfl, rfl, h1, r1⟩ := trodAll_cons r0
  obtain ⟨v2, vs2, d2, ds2, p2, q2, rfl, rfl, rfl, h2, r2⟩ := trodAll_cons r1
  obtain ⟨rfl, rfl, rfl⟩ := trodAll_nil r2
  obtain rfl : args = #[v0, v1, v2] := by cases args; simp_all
  have hgs : gs = [] := (trodVars_none hV).1
  refine law_calls (T := 4) Tryd.laidOut (by rw [Tryd.params3]; intro t ht; simp only [List.mem_cons, List.not_mem_nil, or_false] at ht; rcases ht with rfl | rfl | rfl <;> kernel_rfl) (by rw [Tryd.params3]; intro t ht; simp only [List.mem_cons, List.not_mem_nil, or_false] at ht; rcases ht with rfl | rfl | rfl <;> exact of_decide_eq_true (by kernel_rfl)) rfl (by kernel_rfl) Tryd.underlying4 hWk (by rw [hgs]; rfl) ?_
  exact typesInstrs_all H enc W base _ _ gs _ hval hWk hk hx

set_option maxRecDepth 100000 in
theorem lifted (os : Os) (started : os.Started) (H : Type) (enc : TypeId × Value → H) :
    ReturnsInHanded {} Tryd.checked os 3 .any (fun w args => (Rows.typesInstrsSpec.pre enc Tryd.prog Tryd.f3 [] false w args ∧ laidMetH Tryd.prog Rows.typesInstrsRow.laid w) ∧ sizedMet enc Tryd.prog Tryd.f3 (OpenSpec.ofChange Rows.typesInstrsSpec) false w args)
      (Rows.typesInstrsSpec.post enc Tryd.prog Tryd.f3 false true false false) := by
  refine handed_and_shaped (C := Tryd.checked) (X := fun w _ => laidMetH Tryd.prog Rows.typesInstrsRow.laid w) (fun _ _ _ hh h => h.of_heap hh) Tryd.ownKnob started (by kernel_rfl) Tryd.func3
    (ChangeSpec.witness_shaped (enc := enc) (C := Tryd.checked) (os := os) (X := fun w _ => laidMetH Tryd.prog Rows.typesInstrsRow.laid w) false (World.laidAll Tryd.prog os Rows.typesInstrsRow.laid) #[.agg #[.bool false, .slice none 0 0, .slice none 0 0, .slice none 0 0, .slice none 0 0], .agg #[.string .empty, .string .empty, .slice none 0 0, .slice none 0 0, .slice none 0 0], .agg #[.int .i64 0, .string .empty, .string .empty, .slice none 0 0, .slice none 0 0, .slice none 0 0]] 8 (World.laidAll_os _ _ _)
      (World.shaped_of_ZipB (by kernel_rfl) (by kernel_rfl)) (by kernel_rfl) (by kernel_rfl) (by kernel_rfl)
      (by rw [MakeChecks.laidMetH_plain _ _ _ (by kernel_rfl)]; exact laidMet_laidAll _ (by kernel_rfl) (by kernel_rfl))) ?_
  intro W base args ds gs before hval hW hx hz _
  exact contract H enc W base args ds gs before hval hW hz hx

theorem holds : Rows.TypesInstrsSaid :=
  OpenClaim.holds_of_wide 3 Tryd.f3 rfl rfl rfl rfl rfl rfl rfl ⟨rfl, rfl, rfl, rfl, rfl⟩ rfl rfl rfl rfl rfl (by kernel_rfl) Tryd.func3 (by kernel_rfl)
    (of_decide_eq_true (by kernel_rfl)) (by unfold Func.isWrapper; first | (rw [if_pos (by decide +kernel)]; kernel_rfl) | (rw [if_neg (by decide +kernel)]; exact ⟨rfl, rfl⟩))
    (fun os started H enc _ => lifted os started H enc)

theorem proved : Rows.TypesInstrsCardSaid :=
  Claim7.holds_tied_plain_at .later [] [.data] true (true, "b53b58af077700d0ea7caf25a59cabe82d8585e47300ad39711959f2f68c1458") false holds (fun _ h => by cases h) (by kernel_rfl) (fun _ h => by cases h) typesInstrs_row_tie rfl ⟨rfl, rfl⟩ (by kernel_rfl) rfl
    (fun f fn hf hfn => by
      obtain rfl : f = 3 := Option.some.inj ((show Tryd.prog.funcNamed "lateen/lateenlaw07.TypesInstrs" = some 3 by kernel_rfl).symm.trans hf) |>.symm
      obtain rfl : fn = Tryd.f3 := (Option.some.inj (Tryd.func3.symm.trans hfn)).symm
      exact ⟨by kernel_rfl, fun j t ht => by
        rw [Tryd.params3] at ht
        have hm : t ∈ [27, 30, 35] := by simpa using Array.mem_of_getElem? ht
        have hall : ([27, 30, 35].all fun u => !Tryd.prog.wantsStandIn u) = true := by kernel_rfl
        exact (show Tryd.prog.wantsStandIn t = false by simpa using List.all_eq_true.1 hall t hm)⟩)
    (by kernel_rfl)
#print axioms proved
end Go.Proofs.YtjohjpjpfglkkaaDoor.lawTypesInstrs
