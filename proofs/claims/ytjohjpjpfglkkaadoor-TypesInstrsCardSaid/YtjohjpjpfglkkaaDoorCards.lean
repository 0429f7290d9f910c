/-
  DERIVED. GIVEN WITH THE SEED: THE CARDS: each row of YtjohjpjpfglkkaaDoorRows.lean that lists a variable, with what it lists TIED to the program's text (the seventh form; the later family's looks); each row that meets fmt, with fmt's text TOLD by the authors' own Lean function (tested against real Go, not proved from fmt's source: count such statements apart). THE CARD IS WHAT COUNTS. Prove the row's statement (the work); the ties are given (YtjohjpjpfglkkaaDoorTie.lean); close each card by the builder's one call (the guide's Derived/Test/ToyasCard.lean, 'card_holds'). Laid BY PROGRAM, IN A SANDBOX (cutbox-door.mjs). By AI agents, Wed Nov 11 2026. No macro, syntax, notation, axiom, sorry.
-/
import Derived.Test.YtjohjpjpfglkkaaDoorRows
import GoSem.ClaimSeven
namespace Go.Proofs.YtjohjpjpfglkkaaDoor
namespace Rows

/-- THE TIED CARD OF 'lateenlaw07.TypesInstrs'. -/
def typesInstrsCard : Claim7 := { stood := { row := typesInstrsRow, standIns := [], harness := (true, "b53b58af077700d0ea7caf25a59cabe82d8585e47300ad39711959f2f68c1458"), looks := false }, kinds := [], alts := [], laidByText := true, laidKinds := [.data], laidTests := true, laidLooks := .later }
def TypesInstrsCardSaid : Prop := Claim7.holds Tryd.pinned (.plain (OpenSpec.ofChange typesInstrsSpec)) typesInstrsCard

/-- THE SECOND FORM's CARD OF 'lateenlaw07.TypesInstrs'. -/
def typesInstrsUptoCard : Claim7 := { stood := { row := typesInstrsUptoRow, standIns := [], harness := (true, "b53b58af077700d0ea7caf25a59cabe82d8585e47300ad39711959f2f68c1458"), looks := false }, kinds := [], alts := [], laidByText := true, laidKinds := [.data], laidTests := true, laidLooks := .later }
def TypesInstrsUptoCardSaid : Prop := Claim7.holds Tryd.pinned (.plain (OpenSpec.upto typesInstrsSpec)) typesInstrsUptoCard
end Rows
end Go.Proofs.YtjohjpjpfglkkaaDoor
