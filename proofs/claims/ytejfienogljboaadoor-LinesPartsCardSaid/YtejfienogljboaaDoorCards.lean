/-
  DERIVED. GIVEN WITH THE SEED: THE CARDS: each row of YtejfienogljboaaDoorRows.lean that lists a variable, with what it lists TIED to the program's text (the seventh form; the later family's looks); each row that meets fmt, with fmt's text TOLD by the authors' own Lean function (tested against real Go, not proved from fmt's source: count such statements apart). THE CARD IS WHAT COUNTS. Prove the row's statement (the work); the ties are given (YtejfienogljboaaDoorTie.lean); close each card by the builder's one call (the guide's Derived/Test/ToyasCard.lean, 'card_holds'). Laid BY PROGRAM, IN A SANDBOX (cutbox-door.mjs). By AI agents, Wed Nov 11 2026. No macro, syntax, notation, axiom, sorry.
-/
import Derived.Test.YtejfienogljboaaDoorRows
import GoSem.ClaimSeven
namespace Go.Proofs.YtejfienogljboaaDoor
namespace Rows

/-- THE TIED CARD OF 'lateenlaw04.LinesSplits'. -/
def linesSplitsCard : Claim7 := { stood := { row := linesSplitsRow, standIns := [], harness := (true, "22232737ed22799eedc451b857b489b23301dddda43d2894f190a3b4bd53d779"), looks := false }, kinds := [], alts := [], laidByText := true, laidKinds := [.data, .pinned], laidTests := true, laidLooks := .later }
def LinesSplitsCardSaid : Prop := Claim7.holds Tryd.pinned (.plain (OpenSpec.ofChange linesSplitsSpec)) linesSplitsCard

/-- THE TIED CARD OF 'lateenlaw04.LinesJoins'. -/
def linesJoinsCard : Claim7 := { stood := { row := linesJoinsRow, standIns := [], harness := (true, "22232737ed22799eedc451b857b489b23301dddda43d2894f190a3b4bd53d779"), looks := false }, kinds := [], alts := [], laidByText := true, laidKinds := [.data, .pinned], laidTests := true, laidLooks := .later }
def LinesJoinsCardSaid : Prop := Claim7.holds Tryd.pinned (.plain (OpenSpec.ofChange linesJoinsSpec)) linesJoinsCard

/-- THE TIED CARD OF 'lateenlaw04.LinesAgain'. -/
def linesAgainCard : Claim7 := { stood := { row := linesAgainRow, standIns := [], harness := (true, "22232737ed22799eedc451b857b489b23301dddda43d2894f190a3b4bd53d779"), looks := false }, kinds := [], alts := [], laidByText := true, laidKinds := [.data, .pinned], laidTests := true, laidLooks := .later }
def LinesAgainCardSaid : Prop := Claim7.holds Tryd.pinned (.plain (OpenSpec.ofChange linesAgainSpec)) linesAgainCard

/-- THE TIED CARD OF 'lateenlaw04.LinesCount'. -/
def linesCountCard : Claim7 := { stood := { row := linesCountRow, standIns := [], harness := (true, "22232737ed22799eedc451b857b489b23301dddda43d2894f190a3b4bd53d779"), looks := false }, kinds := [], alts := [], laidByText := true, laidKinds := [.data, .pinned], laidTests := true, laidLooks := .later }
def LinesCountCardSaid : Prop := Claim7.holds Tryd.pinned (.plain (OpenSpec.ofChange linesCountSpec)) linesCountCard

/-- THE TIED CARD OF 'lateenlaw04.LinesParts'. -/
def linesPartsCard : Claim7 := { stood := { row := linesPartsRow, standIns := [], harness := (true, "22232737ed22799eedc451b857b489b23301dddda43d2894f190a3b4bd53d779"), looks := false }, kinds := [], alts := [], laidByText := true, laidKinds := [.data, .pinned], laidTests := true, laidLooks := .later }
def LinesPartsCardSaid : Prop := Claim7.holds Tryd.pinned (.plain (OpenSpec.ofChange linesPartsSpec)) linesPartsCard

/-- THE TIED CARD OF 'lateenlaw04.LinesKeeps'. -/
def linesKeepsCard : Claim7 := { stood := { row := linesKeepsRow, standIns := [], harness := (true, "22232737ed22799eedc451b857b489b23301dddda43d2894f190a3b4bd53d779"), looks := false }, kinds := [], alts := [], laidByText := true, laidKinds := [.data, .pinned], laidTests := true, laidLooks := .later }
def LinesKeepsCardSaid : Prop := Claim7.holds Tryd.pinned (.plain (OpenSpec.ofChange linesKeepsSpec)) linesKeepsCard

/-- THE SECOND FORM's CARD OF 'lateenlaw04.LinesSplits'. -/
def linesSplitsUptoCard : Claim7 := { stood := { row := linesSplitsUptoRow, standIns := [], harness := (true, "22232737ed22799eedc451b857b489b23301dddda43d2894f190a3b4bd53d779"), looks := false }, kinds := [], alts := [], laidByText := true, laidKinds := [.data, .pinned], laidTests := true, laidLooks := .later }
def LinesSplitsUptoCardSaid : Prop := Claim7.holds Tryd.pinned (.plain (OpenSpec.upto linesSplitsSpec)) linesSplitsUptoCard

/-- THE SECOND FORM's CARD OF 'lateenlaw04.LinesJoins'. -/
def linesJoinsUptoCard : Claim7 := { stood := { row := linesJoinsUptoRow, standIns := [], harness := (true, "22232737ed22799eedc451b857b489b23301dddda43d2894f190a3b4bd53d779"), looks := false }, kinds := [], alts := [], laidByText := true, laidKinds := [.data, .pinned], laidTests := true, laidLooks := .later }
def LinesJoinsUptoCardSaid : Prop := Claim7.holds Tryd.pinned (.plain (OpenSpec.upto linesJoinsSpec)) linesJoinsUptoCard

/-- THE SECOND FORM's CARD OF 'lateenlaw04.LinesAgain'. -/
def linesAgainUptoCard : Claim7 := { stood := { row := linesAgainUptoRow, standIns := [], harness := (true, "22232737ed22799eedc451b857b489b23301dddda43d2894f190a3b4bd53d779"), looks := false }, kinds := [], alts := [], laidByText := true, laidKinds := [.data, .pinned], laidTests := true, laidLooks := .later }
def LinesAgainUptoCardSaid : Prop := Claim7.holds Tryd.pinned (.plain (OpenSpec.upto linesAgainSpec)) linesAgainUptoCard

/-- THE SECOND FORM's CARD OF 'lateenlaw04.LinesCount'. -/
def linesCountUptoCard : Claim7 := { stood := { row := linesCountUptoRow, standIns := [], harness := (true, "22232737ed22799eedc451b857b489b23301dddda43d2894f190a3b4bd53d779"), looks := false }, kinds := [], alts := [], laidByText := true, laidKinds := [.data, .pinned], laidTests := true, laidLooks := .later }
def LinesCountUptoCardSaid : Prop := Claim7.holds Tryd.pinned (.plain (OpenSpec.upto linesCountSpec)) linesCountUptoCard

/-- THE SECOND FORM's CARD OF 'lateenlaw04.LinesParts'. -/
def linesPartsUptoCard : Claim7 := { stood := { row := linesPartsUptoRow, standIns := [], harness := (true, "22232737ed22799eedc451b857b489b23301dddda43d2894f190a3b4bd53d779"), looks := false }, kinds := [], alts := [], laidByText := true, laidKinds := [.data, .pinned], laidTests := true, laidLooks := .later }
def LinesPartsUptoCardSaid : Prop := Claim7.holds Tryd.pinned (.plain (OpenSpec.upto linesPartsSpec)) linesPartsUptoCard

/-- THE SECOND FORM's CARD OF 'lateenlaw04.LinesKeeps'. -/
def linesKeepsUptoCard : Claim7 := { stood := { row := linesKeepsUptoRow, standIns := [], harness := (true, "22232737ed22799eedc451b857b489b23301dddda43d2894f190a3b4bd53d779"), looks := false }, kinds := [], alts := [], laidByText := true, laidKinds := [.data, .pinned], laidTests := true, laidLooks := .later }
def LinesKeepsUptoCardSaid : Prop := Claim7.holds Tryd.pinned (.plain (OpenSpec.upto linesKeepsSpec)) linesKeepsUptoCard
end Rows
end Go.Proofs.YtejfienogljboaaDoor
