/-
  No cell of these rows narrows 'for every input' (looked for: loops, veiled, ifaces, maps, wideKeys, modest, calm, conditions, laid).
  DERIVED. THE GIVEN ROWS OF THIS SEAT. 5 by the template 'for every input the law returns true; each argument reads behind the call as it read before'; 0 by the template 'total and deterministic' (their statements: YtjohjpjpfglkkaaTotals.lean).
  GIVEN WITH THE SEED: the statements are not yours to turn. If you find one false, say at which input.
  Laid BY PROGRAM, IN A SANDBOX (cutbox-rows.mjs): the forced cells as the released guide's own fill.sh prints them over the translation 48448cd603935cc0… (all of the seat's roots in one cut). By AI agents, Wed Nov 11 2026. No macro, syntax, notation, axiom, sorry.
-/
import Derived.Test.YtjohjpjpfglkkaaChecked
import GoSem.Claim
import GoSem.ClaimJoined
import GoSem.ClaimMapViews
import Derived.JoinedTies
import Derived.KernelRfl
namespace Go.Proofs.Ytjohjpjpfglkkaa
/- THE CELL 'sum', in the pinned program and in every row, IS THE sha256 OF THE DUMP (.gsa) THAT YtjohjpjpfglkkaaProg.lean LOADS. Nothing in Lean hashes anything: it is a label: what it is worth is what the hold of that sum in a sandbox is worth. -/
noncomputable def Try.pinned : Pinned := { name := "ytjohjpjpfglkkaa", sum := "48448cd603935cc0480df82aecde310db9c896cfef11307cbdd5da59ce4fec34", checked := Try.checked }
namespace Rows
def none {H : Type} : Left H := { results := [], args := [] }

/-- 'lateenlaw07.TypesFinds': WHATEVER THE INPUT: true; the input reads as it did. -/
def typesFindsSpec : ChangeSpec := { name := "typesFinds", fn := fun _ => fun
  | [d1, d2, d3, d4, d5] => { results := [.lit (.bool true)], args := [d1, d2, d3, d4, d5] }
  | _ => none }
def typesFindsRow : OpenClaim := { program := "ytjohjpjpfglkkaa", sum := "48448cd603935cc0480df82aecde310db9c896cfef11307cbdd5da59ce4fec34", func := "lateen/lateenlaw07.TypesFinds", spec := "typesFinds", unfollowed := true, recurses := true, apart := false }
def TypesFindsSaid : Prop := typesFindsRow.holds Try.pinned (OpenSpec.ofChange typesFindsSpec)

/-- ITS FALSE NEIGHBOUR: 'it returns false'. Refute it at one input. -/
def typesFindsWrong : ChangeSpec := { name := "typesFinds", fn := fun _ => fun
  | [d1, d2, d3, d4, d5] => { results := [.lit (.bool false)], args := [d1, d2, d3, d4, d5] }
  | _ => none }
def TypesFindsWrongFalsely : Prop := typesFindsRow.holds Try.pinned (OpenSpec.ofChange typesFindsWrong)

/-- 'lateenlaw07.TypesEnds': WHATEVER THE INPUT: true; the input reads as it did. -/
def typesEndsSpec : ChangeSpec := { name := "typesEnds", fn := fun _ => fun
  | [d1, d2, d3] => { results := [.lit (.bool true)], args := [d1, d2, d3] }
  | _ => none }
def typesEndsRow : OpenClaim := { program := "ytjohjpjpfglkkaa", sum := "48448cd603935cc0480df82aecde310db9c896cfef11307cbdd5da59ce4fec34", func := "lateen/lateenlaw07.TypesEnds", spec := "typesEnds", unfollowed := true, recurses := true, apart := false }
def TypesEndsSaid : Prop := typesEndsRow.holds Try.pinned (OpenSpec.ofChange typesEndsSpec)

/-- ITS FALSE NEIGHBOUR: 'it returns false'. Refute it at one input. -/
def typesEndsWrong : ChangeSpec := { name := "typesEnds", fn := fun _ => fun
  | [d1, d2, d3] => { results := [.lit (.bool false)], args := [d1, d2, d3] }
  | _ => none }
def TypesEndsWrongFalsely : Prop := typesEndsRow.holds Try.pinned (OpenSpec.ofChange typesEndsWrong)

/-- 'lateenlaw07.TypesKeep': WHATEVER THE INPUT: true; the input reads as it did. -/
def typesKeepSpec : ChangeSpec := { name := "typesKeep", fn := fun _ => fun
  | [d1, d2, d3, d4, d5] => { results := [.lit (.bool true)], args := [d1, d2, d3, d4, d5] }
  | _ => none }
def typesKeepRow : OpenClaim := { program := "ytjohjpjpfglkkaa", sum := "48448cd603935cc0480df82aecde310db9c896cfef11307cbdd5da59ce4fec34", func := "lateen/lateenlaw07.TypesKeep", spec := "typesKeep", unfollowed := true, recurses := true, apart := false }
def TypesKeepSaid : Prop := typesKeepRow.holds Try.pinned (OpenSpec.ofChange typesKeepSpec)

/-- ITS FALSE NEIGHBOUR: 'it returns false'. Refute it at one input. -/
def typesKeepWrong : ChangeSpec := { name := "typesKeep", fn := fun _ => fun
  | [d1, d2, d3, d4, d5] => { results := [.lit (.bool false)], args := [d1, d2, d3, d4, d5] }
  | _ => none }
def TypesKeepWrongFalsely : Prop := typesKeepRow.holds Try.pinned (OpenSpec.ofChange typesKeepWrong)

/-- 'lateenlaw07.TypesFits': WHATEVER THE INPUT: true; the input reads as it did. -/
def typesFitsSpec : ChangeSpec := { name := "typesFits", fn := fun _ => fun
  | [d1, d2] => { results := [.lit (.bool true)], args := [d1, d2] }
  | _ => none }
def typesFitsRow : OpenClaim := { program := "ytjohjpjpfglkkaa", sum := "48448cd603935cc0480df82aecde310db9c896cfef11307cbdd5da59ce4fec34", func := "lateen/lateenlaw07.TypesFits", spec := "typesFits", unfollowed := true, recurses := true, apart := false }
def TypesFitsSaid : Prop := typesFitsRow.holds Try.pinned (OpenSpec.ofChange typesFitsSpec)

/-- ITS FALSE NEIGHBOUR: 'it returns false'. Refute it at one input. -/
def typesFitsWrong : ChangeSpec := { name := "typesFits", fn := fun _ => fun
  | [d1, d2] => { results := [.lit (.bool false)], args := [d1, d2] }
  | _ => none }
def TypesFitsWrongFalsely : Prop := typesFitsRow.holds Try.pinned (OpenSpec.ofChange typesFitsWrong)

/-- 'lateenlaw07.TypesNames': WHATEVER THE INPUT: true; the input reads as it did. -/
def typesNamesSpec : ChangeSpec := { name := "typesNames", fn := fun _ => fun
  | [d1, d2] => { results := [.lit (.bool true)], args := [d1, d2] }
  | _ => none }
def typesNamesRow : OpenClaim := { program := "ytjohjpjpfglkkaa", sum := "48448cd603935cc0480df82aecde310db9c896cfef11307cbdd5da59ce4fec34", func := "lateen/lateenlaw07.TypesNames", spec := "typesNames", unfollowed := true, recurses := true, apart := false }
def TypesNamesSaid : Prop := typesNamesRow.holds Try.pinned (OpenSpec.ofChange typesNamesSpec)

/-- ITS FALSE NEIGHBOUR: 'it returns false'. Refute it at one input. -/
def typesNamesWrong : ChangeSpec := { name := "typesNames", fn := fun _ => fun
  | [d1, d2] => { results := [.lit (.bool false)], args := [d1, d2] }
  | _ => none }
def TypesNamesWrongFalsely : Prop := typesNamesRow.holds Try.pinned (OpenSpec.ofChange typesNamesWrong)

/- THE SECOND FORM. 'bulk': how many values and letters a reading holds, each counted each time it is reached (what is shared counts as often as it is met; a slice's spare places count too). A statement '..UptoSaid' is the law's where the arguments, and the package variables that the reading takes, are together of bulk at most 1048576: NARROWER than '..Said'. Prove '..Said' where nothing that the law and all that it calls make is longer than what came in: it says more and counts as full. Else prove '..UptoSaid'. A law counts once. -/
mutual
def uptoBulk {H : Type} : DataW H → Nat
  | .lit (.string bytes) => bytes.length + 1
  | .lit _ => 1
  | .nil => 1
  | .ptr d => uptoBulk d + 1
  | .slice elems spare => uptoBulkAll elems + uptoBulkAll spare + 1
  | .agg parts => uptoBulkAll parts + 1
  | .iface _ d => uptoBulk d + 1
  | .map entries => uptoBulkEntries entries + 1
  | .held _ => 1
def uptoBulkAll {H : Type} : List (DataW H) → Nat
  | [] => 0
  | d :: r => uptoBulk d + uptoBulkAll r
def uptoBulkEntries {H : Type} : List (Lit × DataW H) → Nat
  | [] => 0
  | x :: r => uptoBulkEntry x + uptoBulkEntries r
def uptoBulkEntry {H : Type} : Lit × DataW H → Nat
  | (.string bytes, d) => bytes.length + uptoBulk d + 1
  | (_, d) => uptoBulk d + 1
 end
def uptoSmall : (H : Type) → List (DataW H) → Bool := fun _ ds => decide (uptoBulkAll ds ≤ 1048576)
def OpenSpec.upto (s : _root_.Go.ChangeSpec) : _root_.Go.OpenSpec := { _root_.Go.OpenSpec.ofChange s with cond := some uptoSmall }

/-- 'lateenlaw07.TypesFinds', WHERE WHAT IT READS IS OF BULK AT MOST 1048576: true; the input reads as it did. -/
def typesFindsUptoRow : OpenClaim := { program := "ytjohjpjpfglkkaa", sum := "48448cd603935cc0480df82aecde310db9c896cfef11307cbdd5da59ce4fec34", func := "lateen/lateenlaw07.TypesFinds", spec := "typesFinds", unfollowed := true, recurses := true, apart := false, narrowed := true }
def TypesFindsUptoSaid : Prop := typesFindsUptoRow.holds Try.pinned (OpenSpec.upto typesFindsSpec)

/-- 'lateenlaw07.TypesEnds', WHERE WHAT IT READS IS OF BULK AT MOST 1048576: true; the input reads as it did. -/
def typesEndsUptoRow : OpenClaim := { program := "ytjohjpjpfglkkaa", sum := "48448cd603935cc0480df82aecde310db9c896cfef11307cbdd5da59ce4fec34", func := "lateen/lateenlaw07.TypesEnds", spec := "typesEnds", unfollowed := true, recurses := true, apart := false, narrowed := true }
def TypesEndsUptoSaid : Prop := typesEndsUptoRow.holds Try.pinned (OpenSpec.upto typesEndsSpec)

/-- 'lateenlaw07.TypesKeep', WHERE WHAT IT READS IS OF BULK AT MOST 1048576: true; the input reads as it did. -/
def typesKeepUptoRow : OpenClaim := { program := "ytjohjpjpfglkkaa", sum := "48448cd603935cc0480df82aecde310db9c896cfef11307cbdd5da59ce4fec34", func := "lateen/lateenlaw07.TypesKeep", spec := "typesKeep", unfollowed := true, recurses := true, apart := false, narrowed := true }
def TypesKeepUptoSaid : Prop := typesKeepUptoRow.holds Try.pinned (OpenSpec.upto typesKeepSpec)

/-- 'lateenlaw07.TypesFits', WHERE WHAT IT READS IS OF BULK AT MOST 1048576: true; the input reads as it did. -/
def typesFitsUptoRow : OpenClaim := { program := "ytjohjpjpfglkkaa", sum := "48448cd603935cc0480df82aecde310db9c896cfef11307cbdd5da59ce4fec34", func := "lateen/lateenlaw07.TypesFits", spec := "typesFits", unfollowed := true, recurses := true, apart := false, narrowed := true }
def TypesFitsUptoSaid : Prop := typesFitsUptoRow.holds Try.pinned (OpenSpec.upto typesFitsSpec)

/-- 'lateenlaw07.TypesNames', WHERE WHAT IT READS IS OF BULK AT MOST 1048576: true; the input reads as it did. -/
def typesNamesUptoRow : OpenClaim := { program := "ytjohjpjpfglkkaa", sum := "48448cd603935cc0480df82aecde310db9c896cfef11307cbdd5da59ce4fec34", func := "lateen/lateenlaw07.TypesNames", spec := "typesNames", unfollowed := true, recurses := true, apart := false, narrowed := true }
def TypesNamesUptoSaid : Prop := typesNamesUptoRow.holds Try.pinned (OpenSpec.upto typesNamesSpec)

end Rows
end Go.Proofs.Ytjohjpjpfglkkaa
