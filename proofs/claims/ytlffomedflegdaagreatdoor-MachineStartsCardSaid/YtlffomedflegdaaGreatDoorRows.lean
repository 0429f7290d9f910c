/-
  NARROWER THAN 'FOR EVERY INPUT', by the rows' own cells (each row's printed sentence says how): MachineRuns: laid · MachineStarts: laid · MachineGoesOn: laid · MachineCounts: laid · MachineGuards: laid.
  DERIVED. THE GIVEN ROWS OF THIS SEAT. 5 by the template 'for every input the law returns true; each argument reads behind the call as it read before'; 0 by the template 'total and deterministic' (their statements: YtlffomedflegdaaGreatDoorTotals.lean).
  GIVEN WITH THE SEED: the statements are not yours to turn. If you find one false, say at which input.
  Laid BY PROGRAM, IN A SANDBOX (cutbox-rows.mjs): the forced cells as the released guide's own fill.sh prints them over the translation fed5972ef9a69e3a… (all of the seat's roots in one cut). By AI agents, Wed Nov 11 2026. No macro, syntax, notation, axiom, sorry.
-/
import Derived.Test.YtlffomedflegdaaGreatDoorChecked
import GoSem.PinnedTables
import GoSem.Claim
import GoSem.ClaimJoined
import GoSem.ClaimMapViews
import Derived.JoinedTies
import Derived.KernelRfl
namespace Go.Proofs.YtlffomedflegdaaGreatDoor
/- THE CELL 'sum', in the pinned program and in every row, IS THE sha256 OF THE DUMP (.gsa) THAT YtlffomedflegdaaGreatDoorProg.lean LOADS. Nothing in Lean hashes anything: it is a label: what it is worth is what the hold of that sum in a sandbox is worth. -/
noncomputable def Tryz.pinned : Pinned := { name := "ytlffomedflegdaagreatdoor", sum := "fed5972ef9a69e3a0554572fb8e570d424376f71f6fb75e7857065937ba6b9d9", checked := Tryz.checked }
namespace Rows
def none {H : Type} : Left H := { results := [], args := [] }

/- WHAT THE LISTED PACKAGE-LEVEL VARIABLES READ AS WHEN THE CALL BEGINS. Each datum BY PROGRAM (the guide's laid-datum.mjs) off the statement by which the dump's own 'gosem.cut.vars' lays the variable. In a bare row this is a premise. The card (YtlffomedflegdaaGreatDoorCards.lean) ties it to the program's text. -/
def laid_unicode_utf8_acceptRanges {H : Type} : DataW H := .agg [.agg [.lit (.int .u8 128), .lit (.int .u8 191)], .agg [.lit (.int .u8 160), .lit (.int .u8 191)], .agg [.lit (.int .u8 128), .lit (.int .u8 159)], .agg [.lit (.int .u8 144), .lit (.int .u8 191)], .agg [.lit (.int .u8 128), .lit (.int .u8 143)], .agg [.lit (.int .u8 0), .lit (.int .u8 0)], .agg [.lit (.int .u8 0), .lit (.int .u8 0)], .agg [.lit (.int .u8 0), .lit (.int .u8 0)], .agg [.lit (.int .u8 0), .lit (.int .u8 0)], .agg [.lit (.int .u8 0), .lit (.int .u8 0)], .agg [.lit (.int .u8 0), .lit (.int .u8 0)], .agg [.lit (.int .u8 0), .lit (.int .u8 0)], .agg [.lit (.int .u8 0), .lit (.int .u8 0)], .agg [.lit (.int .u8 0), .lit (.int .u8 0)], .agg [.lit (.int .u8 0), .lit (.int .u8 0)], .agg [.lit (.int .u8 0), .lit (.int .u8 0)]]
def laid_lateen_lateenref05_words {H : Type} : DataW H := .agg [.lit (.string []), .lit (.string [97, 100, 100]), .lit (.string [115, 117, 98]), .lit (.string [109, 117, 108]), .lit (.string [100, 105, 118]), .lit (.string [114, 101, 109]), .lit (.string [97, 110, 100]), .lit (.string [111, 114]), .lit (.string [120, 111, 114]), .lit (.string [115, 104, 108]), .lit (.string [115, 104, 114]), .lit (.string [101, 113]), .lit (.string [110, 101]), .lit (.string [108, 116]), .lit (.string [108, 101]), .lit (.string [102, 97, 100, 100]), .lit (.string [102, 115, 117, 98]), .lit (.string [102, 109, 117, 108]), .lit (.string [102, 100, 105, 118]), .lit (.string [102, 101, 113]), .lit (.string [102, 108, 116]), .lit (.string [102, 108, 101]), .lit (.string [105, 116, 111, 102]), .lit (.string [102, 116, 111, 105]), .lit (.string [109, 111, 118]), .lit (.string [110, 101, 119]), .lit (.string [108, 111, 97, 100]), .lit (.string [115, 116, 111, 114, 101]), .lit (.string [115, 97, 109, 101]), .lit (.string [103, 108, 111, 97, 100]), .lit (.string [103, 115, 116, 111, 114, 101]), .lit (.string [99, 97, 108, 108]), .lit (.string [101, 120, 116]), .lit (.string [111, 117, 116]), .lit (.string [103, 117, 97, 114, 100])]
/-- One of Go's own tables, pinned by name: the form's constant. -/
def laid_unicode_utf8_first : DataW Unit := Go.Pinned.utf8First

/-- 'lateenlaw16.MachineRuns': WHATEVER THE INPUT: true; the input reads as it did. -/
def machineRunsSpec : ChangeSpec := { name := "machineRuns", fn := fun _ => fun
  | [d1, d2] => { results := [.lit (.bool true)], args := [d1, d2] }
  | _ => none }
def machineRunsRow : OpenClaim := { program := "ytlffomedflegdaagreatdoor", sum := "fed5972ef9a69e3a0554572fb8e570d424376f71f6fb75e7857065937ba6b9d9", func := "lateen/lateenlaw16.MachineRuns", spec := "machineRuns", inPlace := ["internal/bytealg.CountString", "internal/bytealg.IndexByteString", "internal/bytealg.IndexString", "maps.clone", "math.Float64bits", "math.Float64frombits"], unfollowed := true, recurses := true, named := ["unicode/utf8.first", "unicode/utf8.acceptRanges", "internal/bytealg.MaxLen", "lateen/lateenref05.words"], apart := false, laid := [("unicode/utf8.acceptRanges", laid_unicode_utf8_acceptRanges), ("lateen/lateenref05.words", laid_lateen_lateenref05_words), ("unicode/utf8.first", laid_unicode_utf8_first)] }
def MachineRunsSaid : Prop := machineRunsRow.holds Tryz.pinned (OpenSpec.ofChange machineRunsSpec)

/-- ITS FALSE NEIGHBOUR: 'it returns false'. Refute it at one input. -/
def machineRunsWrong : ChangeSpec := { name := "machineRuns", fn := fun _ => fun
  | [d1, d2] => { results := [.lit (.bool false)], args := [d1, d2] }
  | _ => none }
def MachineRunsWrongFalsely : Prop := machineRunsRow.holds Tryz.pinned (OpenSpec.ofChange machineRunsWrong)

/-- 'lateenlaw16.MachineStarts': WHATEVER THE INPUT: true; the input reads as it did. -/
def machineStartsSpec : ChangeSpec := { name := "machineStarts", fn := fun _ => fun
  | [d1, d2, d3] => { results := [.lit (.bool true)], args := [d1, d2, d3] }
  | _ => none }
def machineStartsRow : OpenClaim := { program := "ytlffomedflegdaagreatdoor", sum := "fed5972ef9a69e3a0554572fb8e570d424376f71f6fb75e7857065937ba6b9d9", func := "lateen/lateenlaw16.MachineStarts", spec := "machineStarts", inPlace := ["internal/bytealg.CountString", "internal/bytealg.IndexByteString", "internal/bytealg.IndexString", "maps.clone", "math.Float64bits", "math.Float64frombits"], unfollowed := true, recurses := true, named := ["unicode/utf8.first", "unicode/utf8.acceptRanges", "internal/bytealg.MaxLen", "lateen/lateenref05.words"], apart := false, laid := [("unicode/utf8.acceptRanges", laid_unicode_utf8_acceptRanges), ("lateen/lateenref05.words", laid_lateen_lateenref05_words), ("unicode/utf8.first", laid_unicode_utf8_first)] }
def MachineStartsSaid : Prop := machineStartsRow.holds Tryz.pinned (OpenSpec.ofChange machineStartsSpec)

/-- ITS FALSE NEIGHBOUR: 'it returns false'. Refute it at one input. -/
def machineStartsWrong : ChangeSpec := { name := "machineStarts", fn := fun _ => fun
  | [d1, d2, d3] => { results := [.lit (.bool false)], args := [d1, d2, d3] }
  | _ => none }
def MachineStartsWrongFalsely : Prop := machineStartsRow.holds Tryz.pinned (OpenSpec.ofChange machineStartsWrong)

/-- 'lateenlaw16.MachineGoesOn': WHATEVER THE INPUT: true; the input reads as it did. -/
def machineGoesOnSpec : ChangeSpec := { name := "machineGoesOn", fn := fun _ => fun
  | [d1, d2, d3] => { results := [.lit (.bool true)], args := [d1, d2, d3] }
  | _ => none }
def machineGoesOnRow : OpenClaim := { program := "ytlffomedflegdaagreatdoor", sum := "fed5972ef9a69e3a0554572fb8e570d424376f71f6fb75e7857065937ba6b9d9", func := "lateen/lateenlaw16.MachineGoesOn", spec := "machineGoesOn", inPlace := ["internal/bytealg.CountString", "internal/bytealg.IndexByteString", "internal/bytealg.IndexString", "maps.clone", "math.Float64bits", "math.Float64frombits"], unfollowed := true, recurses := true, named := ["unicode/utf8.first", "unicode/utf8.acceptRanges", "internal/bytealg.MaxLen", "lateen/lateenref05.words"], apart := false, laid := [("unicode/utf8.acceptRanges", laid_unicode_utf8_acceptRanges), ("lateen/lateenref05.words", laid_lateen_lateenref05_words), ("unicode/utf8.first", laid_unicode_utf8_first)] }
def MachineGoesOnSaid : Prop := machineGoesOnRow.holds Tryz.pinned (OpenSpec.ofChange machineGoesOnSpec)

/-- ITS FALSE NEIGHBOUR: 'it returns false'. Refute it at one input. -/
def machineGoesOnWrong : ChangeSpec := { name := "machineGoesOn", fn := fun _ => fun
  | [d1, d2, d3] => { results := [.lit (.bool false)], args := [d1, d2, d3] }
  | _ => none }
def MachineGoesOnWrongFalsely : Prop := machineGoesOnRow.holds Tryz.pinned (OpenSpec.ofChange machineGoesOnWrong)

/-- 'lateenlaw16.MachineCounts': WHATEVER THE INPUT: true; the input reads as it did. -/
def machineCountsSpec : ChangeSpec := { name := "machineCounts", fn := fun _ => fun
  | [d1, d2] => { results := [.lit (.bool true)], args := [d1, d2] }
  | _ => none }
def machineCountsRow : OpenClaim := { program := "ytlffomedflegdaagreatdoor", sum := "fed5972ef9a69e3a0554572fb8e570d424376f71f6fb75e7857065937ba6b9d9", func := "lateen/lateenlaw16.MachineCounts", spec := "machineCounts", inPlace := ["internal/bytealg.CountString", "internal/bytealg.IndexByteString", "internal/bytealg.IndexString", "maps.clone", "math.Float64bits", "math.Float64frombits"], unfollowed := true, recurses := true, named := ["unicode/utf8.first", "unicode/utf8.acceptRanges", "internal/bytealg.MaxLen", "lateen/lateenref05.words"], apart := false, laid := [("unicode/utf8.acceptRanges", laid_unicode_utf8_acceptRanges), ("lateen/lateenref05.words", laid_lateen_lateenref05_words), ("unicode/utf8.first", laid_unicode_utf8_first)] }
def MachineCountsSaid : Prop := machineCountsRow.holds Tryz.pinned (OpenSpec.ofChange machineCountsSpec)

/-- ITS FALSE NEIGHBOUR: 'it returns false'. Refute it at one input. -/
def machineCountsWrong : ChangeSpec := { name := "machineCounts", fn := fun _ => fun
  | [d1, d2] => { results := [.lit (.bool false)], args := [d1, d2] }
  | _ => none }
def MachineCountsWrongFalsely : Prop := machineCountsRow.holds Tryz.pinned (OpenSpec.ofChange machineCountsWrong)

/-- 'lateenlaw16.MachineGuards': WHATEVER THE INPUT: true; the input reads as it did. -/
def machineGuardsSpec : ChangeSpec := { name := "machineGuards", fn := fun _ => fun
  | [d1, d2, d3] => { results := [.lit (.bool true)], args := [d1, d2, d3] }
  | _ => none }
def machineGuardsRow : OpenClaim := { program := "ytlffomedflegdaagreatdoor", sum := "fed5972ef9a69e3a0554572fb8e570d424376f71f6fb75e7857065937ba6b9d9", func := "lateen/lateenlaw16.MachineGuards", spec := "machineGuards", inPlace := ["internal/bytealg.CountString", "internal/bytealg.IndexByteString", "internal/bytealg.IndexString", "maps.clone", "math.Float64bits", "math.Float64frombits"], unfollowed := true, recurses := true, named := ["unicode/utf8.first", "unicode/utf8.acceptRanges", "internal/bytealg.MaxLen", "lateen/lateenref05.words"], apart := false, laid := [("unicode/utf8.acceptRanges", laid_unicode_utf8_acceptRanges), ("lateen/lateenref05.words", laid_lateen_lateenref05_words), ("unicode/utf8.first", laid_unicode_utf8_first)] }
def MachineGuardsSaid : Prop := machineGuardsRow.holds Tryz.pinned (OpenSpec.ofChange machineGuardsSpec)

/-- ITS FALSE NEIGHBOUR: 'it returns false'. Refute it at one input. -/
def machineGuardsWrong : ChangeSpec := { name := "machineGuards", fn := fun _ => fun
  | [d1, d2, d3] => { results := [.lit (.bool false)], args := [d1, d2, d3] }
  | _ => none }
def MachineGuardsWrongFalsely : Prop := machineGuardsRow.holds Tryz.pinned (OpenSpec.ofChange machineGuardsWrong)

/- THE SECOND FORM. 'bulk': how many values and letters a reading holds, each counted each time it is reached (what is shared counts as often as it is met; a slice's spare places count too). A statement '..UptoSaid' is the law's where the arguments, and the package variables that the reading takes, are together of bulk at most 1048576: NARROWER than '..Said'. Prove '..Said' where nothing that the law and all that it calls make is longer than what came in: it says more and counts as full. Else prove '..UptoSaid'. A law counts once. -/
mutual
def uptoBulk {H : Type} : DataW H → Nat
  | .lit (.string bytes) => bytes.length + 1
  | .lit _ => 1
  | .nil => 1
  | .ptr d => uptoBulk d + 1
  | .slice elems spare => uptoBulkAll elems + uptoBulkAll spare + 1
  | .agg parts => uptoBulkAll parts + 1
  | .iface _ d => uptoBulk d + 1
  | .map entries => uptoBulkEntries entries + 1
  | .held _ => 1
def uptoBulkAll {H : Type} : List (DataW H) → Nat
  | [] => 0
  | d :: r => uptoBulk d + uptoBulkAll r
def uptoBulkEntries {H : Type} : List (Lit × DataW H) → Nat
  | [] => 0
  | x :: r => uptoBulkEntry x + uptoBulkEntries r
def uptoBulkEntry {H : Type} : Lit × DataW H → Nat
  | (.string bytes, d) => bytes.length + uptoBulk d + 1
  | (_, d) => uptoBulk d + 1
 end
def uptoSmall : (H : Type) → List (DataW H) → Bool := fun _ ds => decide (uptoBulkAll ds ≤ 1048576)
def OpenSpec.upto (s : _root_.Go.ChangeSpec) : _root_.Go.OpenSpec := { _root_.Go.OpenSpec.ofChange s with cond := some uptoSmall }

/-- 'lateenlaw16.MachineRuns', WHERE WHAT IT READS IS OF BULK AT MOST 1048576: true; the input reads as it did. -/
def machineRunsUptoRow : OpenClaim := { program := "ytlffomedflegdaagreatdoor", sum := "fed5972ef9a69e3a0554572fb8e570d424376f71f6fb75e7857065937ba6b9d9", func := "lateen/lateenlaw16.MachineRuns", spec := "machineRuns", inPlace := ["internal/bytealg.CountString", "internal/bytealg.IndexByteString", "internal/bytealg.IndexString", "maps.clone", "math.Float64bits", "math.Float64frombits"], unfollowed := true, recurses := true, named := ["unicode/utf8.first", "unicode/utf8.acceptRanges", "internal/bytealg.MaxLen", "lateen/lateenref05.words"], apart := false, laid := [("unicode/utf8.acceptRanges", laid_unicode_utf8_acceptRanges), ("lateen/lateenref05.words", laid_lateen_lateenref05_words), ("unicode/utf8.first", laid_unicode_utf8_first)], narrowed := true }
def MachineRunsUptoSaid : Prop := machineRunsUptoRow.holds Tryz.pinned (OpenSpec.upto machineRunsSpec)

/-- 'lateenlaw16.MachineStarts', WHERE WHAT IT READS IS OF BULK AT MOST 1048576: true; the input reads as it did. -/
def machineStartsUptoRow : OpenClaim := { program := "ytlffomedflegdaagreatdoor", sum := "fed5972ef9a69e3a0554572fb8e570d424376f71f6fb75e7857065937ba6b9d9", func := "lateen/lateenlaw16.MachineStarts", spec := "machineStarts", inPlace := ["internal/bytealg.CountString", "internal/bytealg.IndexByteString", "internal/bytealg.IndexString", "maps.clone", "math.Float64bits", "math.Float64frombits"], unfollowed := true, recurses := true, named := ["unicode/utf8.first", "unicode/utf8.acceptRanges", "internal/bytealg.MaxLen", "lateen/lateenref05.words"], apart := false, laid := [("unicode/utf8.acceptRanges", laid_unicode_utf8_acceptRanges), ("lateen/lateenref05.words", laid_lateen_lateenref05_words), ("unicode/utf8.first", laid_unicode_utf8_first)], narrowed := true }
def MachineStartsUptoSaid : Prop := machineStartsUptoRow.holds Tryz.pinned (OpenSpec.upto machineStartsSpec)

/-- 'lateenlaw16.MachineGoesOn', WHERE WHAT IT READS IS OF BULK AT MOST 1048576: true; the input reads as it did. -/
def machineGoesOnUptoRow : OpenClaim := { program := "ytlffomedflegdaagreatdoor", sum := "fed5972ef9a69e3a0554572fb8e570d424376f71f6fb75e7857065937ba6b9d9", func := "lateen/lateenlaw16.MachineGoesOn", spec := "machineGoesOn", inPlace := ["internal/bytealg.CountString", "internal/bytealg.IndexByteString", "internal/bytealg.IndexString", "maps.clone", "math.Float64bits", "math.Float64frombits"], unfollowed := true, recurses := true, named := ["unicode/utf8.first", "unicode/utf8.acceptRanges", "internal/bytealg.MaxLen", "lateen/lateenref05.words"], apart := false, laid := [("unicode/utf8.acceptRanges", laid_unicode_utf8_acceptRanges), ("lateen/lateenref05.words", laid_lateen_lateenref05_words), ("unicode/utf8.first", laid_unicode_utf8_first)], narrowed := true }
def MachineGoesOnUptoSaid : Prop := machineGoesOnUptoRow.holds Tryz.pinned (OpenSpec.upto machineGoesOnSpec)

/-- 'lateenlaw16.MachineCounts', WHERE WHAT IT READS IS OF BULK AT MOST 1048576: true; the input reads as it did. -/
def machineCountsUptoRow : OpenClaim := { program := "ytlffomedflegdaagreatdoor", sum := "fed5972ef9a69e3a0554572fb8e570d424376f71f6fb75e7857065937ba6b9d9", func := "lateen/lateenlaw16.MachineCounts", spec := "machineCounts", inPlace := ["internal/bytealg.CountString", "internal/bytealg.IndexByteString", "internal/bytealg.IndexString", "maps.clone", "math.Float64bits", "math.Float64frombits"], unfollowed := true, recurses := true, named := ["unicode/utf8.first", "unicode/utf8.acceptRanges", "internal/bytealg.MaxLen", "lateen/lateenref05.words"], apart := false, laid := [("unicode/utf8.acceptRanges", laid_unicode_utf8_acceptRanges), ("lateen/lateenref05.words", laid_lateen_lateenref05_words), ("unicode/utf8.first", laid_unicode_utf8_first)], narrowed := true }
def MachineCountsUptoSaid : Prop := machineCountsUptoRow.holds Tryz.pinned (OpenSpec.upto machineCountsSpec)

/-- 'lateenlaw16.MachineGuards', WHERE WHAT IT READS IS OF BULK AT MOST 1048576: true; the input reads as it did. -/
def machineGuardsUptoRow : OpenClaim := { program := "ytlffomedflegdaagreatdoor", sum := "fed5972ef9a69e3a0554572fb8e570d424376f71f6fb75e7857065937ba6b9d9", func := "lateen/lateenlaw16.MachineGuards", spec := "machineGuards", inPlace := ["internal/bytealg.CountString", "internal/bytealg.IndexByteString", "internal/bytealg.IndexString", "maps.clone", "math.Float64bits", "math.Float64frombits"], unfollowed := true, recurses := true, named := ["unicode/utf8.first", "unicode/utf8.acceptRanges", "internal/bytealg.MaxLen", "lateen/lateenref05.words"], apart := false, laid := [("unicode/utf8.acceptRanges", laid_unicode_utf8_acceptRanges), ("lateen/lateenref05.words", laid_lateen_lateenref05_words), ("unicode/utf8.first", laid_unicode_utf8_first)], narrowed := true }
def MachineGuardsUptoSaid : Prop := machineGuardsUptoRow.holds Tryz.pinned (OpenSpec.upto machineGuardsSpec)

end Rows
end Go.Proofs.YtlffomedflegdaaGreatDoor
