/-
  No cell of these rows narrows 'for every input' (looked for: loops, veiled, ifaces, maps, wideKeys, modest, calm, conditions, laid).
  DERIVED. THE GIVEN ROWS OF THIS SEAT. 3 by the template 'for every input the law returns true; each argument reads behind the call as it read before'; 0 by the template 'total and deterministic' (their statements: YtiheecgabfcigaaTotals.lean).
  GIVEN WITH THE SEED: the statements are not yours to turn. If you find one false, say at which input.
  Laid BY PROGRAM, IN A SANDBOX (cutbox-rows.mjs): the forced cells as the released guide's own fill.sh prints them over the translation 95f4a39066e005eb… (all of the seat's roots in one cut). By AI agents, Wed Nov 11 2026. No macro, syntax, notation, axiom, sorry.
-/
import Derived.Test.YtiheecgabfcigaaChecked
import GoSem.Claim
import GoSem.ClaimJoined
import GoSem.ClaimMapViews
import Derived.JoinedTies
import Derived.KernelRfl
namespace Go.Proofs.Ytiheecgabfcigaa
/- THE CELL 'sum', in the pinned program and in every row, IS THE sha256 OF THE DUMP (.gsa) THAT YtiheecgabfcigaaProg.lean LOADS. Nothing in Lean hashes anything: it is a label: what it is worth is what the hold of that sum in a sandbox is worth. -/
noncomputable def Try.pinned : Pinned := { name := "ytiheecgabfcigaa", sum := "95f4a39066e005eb07170024643208d107251a9ce4766c74b01bdd06bbe430c0", checked := Try.checked }
namespace Rows
def none {H : Type} : Left H := { results := [], args := [] }

/-- 'lateenlaw26.FoldInstrs': WHATEVER THE INPUT: true; the input reads as it did. -/
def foldInstrsSpec : ChangeSpec := { name := "foldInstrs", fn := fun _ => fun
  | [d] => { results := [.lit (.bool true)], args := [d] }
  | _ => none }
def foldInstrsRow : OpenClaim := { program := "ytiheecgabfcigaa", sum := "95f4a39066e005eb07170024643208d107251a9ce4766c74b01bdd06bbe430c0", func := "lateen/lateenlaw26.FoldInstrs", spec := "foldInstrs", inPlace := ["math.Float64bits", "math.Float64frombits"], unfollowed := true, recurses := true, apart := false }
def FoldInstrsSaid : Prop := foldInstrsRow.holds Try.pinned (OpenSpec.ofChange foldInstrsSpec)

/-- ITS FALSE NEIGHBOUR: 'it returns false'. Refute it at one input. -/
def foldInstrsWrong : ChangeSpec := { name := "foldInstrs", fn := fun _ => fun
  | [d] => { results := [.lit (.bool false)], args := [d] }
  | _ => none }
def FoldInstrsWrongFalsely : Prop := foldInstrsRow.holds Try.pinned (OpenSpec.ofChange foldInstrsWrong)

/-- 'lateenlaw26.FoldKnown': WHATEVER THE INPUT: true; the input reads as it did. -/
def foldKnownSpec : ChangeSpec := { name := "foldKnown", fn := fun _ => fun
  | [d1, d2, d3] => { results := [.lit (.bool true)], args := [d1, d2, d3] }
  | _ => none }
def foldKnownRow : OpenClaim := { program := "ytiheecgabfcigaa", sum := "95f4a39066e005eb07170024643208d107251a9ce4766c74b01bdd06bbe430c0", func := "lateen/lateenlaw26.FoldKnown", spec := "foldKnown", inPlace := ["math.Float64bits", "math.Float64frombits"], unfollowed := true, recurses := true, apart := false }
def FoldKnownSaid : Prop := foldKnownRow.holds Try.pinned (OpenSpec.ofChange foldKnownSpec)

/-- ITS FALSE NEIGHBOUR: 'it returns false'. Refute it at one input. -/
def foldKnownWrong : ChangeSpec := { name := "foldKnown", fn := fun _ => fun
  | [d1, d2, d3] => { results := [.lit (.bool false)], args := [d1, d2, d3] }
  | _ => none }
def FoldKnownWrongFalsely : Prop := foldKnownRow.holds Try.pinned (OpenSpec.ofChange foldKnownWrong)

/-- 'lateenlaw26.FoldKeeps': WHATEVER THE INPUT: true; the input reads as it did. -/
def foldKeepsSpec : ChangeSpec := { name := "foldKeeps", fn := fun _ => fun
  | [d1, d2] => { results := [.lit (.bool true)], args := [d1, d2] }
  | _ => none }
def foldKeepsRow : OpenClaim := { program := "ytiheecgabfcigaa", sum := "95f4a39066e005eb07170024643208d107251a9ce4766c74b01bdd06bbe430c0", func := "lateen/lateenlaw26.FoldKeeps", spec := "foldKeeps", inPlace := ["math.Float64bits", "math.Float64frombits"], unfollowed := true, recurses := true, apart := false }
def FoldKeepsSaid : Prop := foldKeepsRow.holds Try.pinned (OpenSpec.ofChange foldKeepsSpec)

/-- ITS FALSE NEIGHBOUR: 'it returns false'. Refute it at one input. -/
def foldKeepsWrong : ChangeSpec := { name := "foldKeeps", fn := fun _ => fun
  | [d1, d2] => { results := [.lit (.bool false)], args := [d1, d2] }
  | _ => none }
def FoldKeepsWrongFalsely : Prop := foldKeepsRow.holds Try.pinned (OpenSpec.ofChange foldKeepsWrong)

/- THE SECOND FORM. 'bulk': how many values and letters a reading holds, each counted each time it is reached (what is shared counts as often as it is met; a slice's spare places count too). A statement '..UptoSaid' is the law's where the arguments, and the package variables that the reading takes, are together of bulk at most 1048576: NARROWER than '..Said'. Prove '..Said' where nothing that the law and all that it calls make is longer than what came in: it says more and counts as full. Else prove '..UptoSaid'. A law counts once. -/
mutual
def uptoBulk {H : Type} : DataW H → Nat
  | .lit (.string bytes) => bytes.length + 1
  | .lit _ => 1
  | .nil => 1
  | .ptr d => uptoBulk d + 1
  | .slice elems spare => uptoBulkAll elems + uptoBulkAll spare + 1
  | .agg parts => uptoBulkAll parts + 1
  | .iface _ d => uptoBulk d + 1
  | .map entries => uptoBulkEntries entries + 1
  | .held _ => 1
def uptoBulkAll {H : Type} : List (DataW H) → Nat
  | [] => 0
  | d :: r => uptoBulk d + uptoBulkAll r
def uptoBulkEntries {H : Type} : List (Lit × DataW H) → Nat
  | [] => 0
  | x :: r => uptoBulkEntry x + uptoBulkEntries r
def uptoBulkEntry {H : Type} : Lit × DataW H → Nat
  | (.string bytes, d) => bytes.length + uptoBulk d + 1
  | (_, d) => uptoBulk d + 1
 end
def uptoSmall : (H : Type) → List (DataW H) → Bool := fun _ ds => decide (uptoBulkAll ds ≤ 1048576)
def OpenSpec.upto (s : _root_.Go.ChangeSpec) : _root_.Go.OpenSpec := { _root_.Go.OpenSpec.ofChange s with cond := some uptoSmall }

/-- 'lateenlaw26.FoldInstrs', WHERE WHAT IT READS IS OF BULK AT MOST 1048576: true; the input reads as it did. -/
def foldInstrsUptoRow : OpenClaim := { program := "ytiheecgabfcigaa", sum := "95f4a39066e005eb07170024643208d107251a9ce4766c74b01bdd06bbe430c0", func := "lateen/lateenlaw26.FoldInstrs", spec := "foldInstrs", inPlace := ["math.Float64bits", "math.Float64frombits"], unfollowed := true, recurses := true, apart := false, narrowed := true }
def FoldInstrsUptoSaid : Prop := foldInstrsUptoRow.holds Try.pinned (OpenSpec.upto foldInstrsSpec)

/-- 'lateenlaw26.FoldKnown', WHERE WHAT IT READS IS OF BULK AT MOST 1048576: true; the input reads as it did. -/
def foldKnownUptoRow : OpenClaim := { program := "ytiheecgabfcigaa", sum := "95f4a39066e005eb07170024643208d107251a9ce4766c74b01bdd06bbe430c0", func := "lateen/lateenlaw26.FoldKnown", spec := "foldKnown", inPlace := ["math.Float64bits", "math.Float64frombits"], unfollowed := true, recurses := true, apart := false, narrowed := true }
def FoldKnownUptoSaid : Prop := foldKnownUptoRow.holds Try.pinned (OpenSpec.upto foldKnownSpec)

/-- 'lateenlaw26.FoldKeeps', WHERE WHAT IT READS IS OF BULK AT MOST 1048576: true; the input reads as it did. -/
def foldKeepsUptoRow : OpenClaim := { program := "ytiheecgabfcigaa", sum := "95f4a39066e005eb07170024643208d107251a9ce4766c74b01bdd06bbe430c0", func := "lateen/lateenlaw26.FoldKeeps", spec := "foldKeeps", inPlace := ["math.Float64bits", "math.Float64frombits"], unfollowed := true, recurses := true, apart := false, narrowed := true }
def FoldKeepsUptoSaid : Prop := foldKeepsUptoRow.holds Try.pinned (OpenSpec.upto foldKeepsSpec)

end Rows
end Go.Proofs.Ytiheecgabfcigaa
