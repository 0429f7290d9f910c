/-
  No cell of these rows narrows 'for every input' (looked for: loops, veiled, ifaces, maps, wideKeys, modest, calm, conditions, laid).
  DERIVED. THE GIVEN ROWS OF THIS SEAT. 5 by the template 'for every input the law returns true; each argument reads behind the call as it read before'; 0 by the template 'total and deterministic' (their statements: YtafigegbjcbdoaaTotals.lean).
  GIVEN WITH THE SEED: the statements are not yours to turn. If you find one false, say at which input.
  Laid BY PROGRAM, IN A SANDBOX (cutbox-rows.mjs): the forced cells as the released guide's own fill.sh prints them over the translation ce6ecf3383618ef2… (all of the seat's roots in one cut). By AI agents, Wed Nov 11 2026. No macro, syntax, notation, axiom, sorry.
-/
import Derived.Test.YtafigegbjcbdoaaChecked
import GoSem.Claim
import GoSem.ClaimJoined
import GoSem.ClaimMapViews
import Derived.JoinedTies
import Derived.KernelRfl
namespace Go.Proofs.Ytafigegbjcbdoaa
/- THE CELL 'sum', in the pinned program and in every row, IS THE sha256 OF THE DUMP (.gsa) THAT YtafigegbjcbdoaaProg.lean LOADS. Nothing in Lean hashes anything: it is a label: what it is worth is what the hold of that sum in a sandbox is worth. -/
noncomputable def Try.pinned : Pinned := { name := "ytafigegbjcbdoaa", sum := "ce6ecf3383618ef2998ef2ddade17d5fdae401127a9ec44923e382cebdb2827b", checked := Try.checked }
namespace Rows
def none {H : Type} : Left H := { results := [], args := [] }

/-- 'lateenlaw03.WordNames': WHATEVER THE INPUT: true; the input reads as it did. -/
def wordNamesSpec : ChangeSpec := { name := "wordNames", fn := fun _ => fun
  | [d] => { results := [.lit (.bool true)], args := [d] }
  | _ => none }
def wordNamesRow : OpenClaim := { program := "ytafigegbjcbdoaa", sum := "ce6ecf3383618ef2998ef2ddade17d5fdae401127a9ec44923e382cebdb2827b", func := "lateen/lateenlaw03.WordNames", spec := "wordNames", inPlace := ["internal/bytealg.IndexByteString"], apart := false }
def WordNamesSaid : Prop := wordNamesRow.holds Try.pinned (OpenSpec.ofChange wordNamesSpec)

/-- ITS FALSE NEIGHBOUR: 'it returns false'. Refute it at one input. -/
def wordNamesWrong : ChangeSpec := { name := "wordNames", fn := fun _ => fun
  | [d] => { results := [.lit (.bool false)], args := [d] }
  | _ => none }
def WordNamesWrongFalsely : Prop := wordNamesRow.holds Try.pinned (OpenSpec.ofChange wordNamesWrong)

/-- 'lateenlaw03.WordGets': WHATEVER THE INPUT: true; the input reads as it did. -/
def wordGetsSpec : ChangeSpec := { name := "wordGets", fn := fun _ => fun
  | [d] => { results := [.lit (.bool true)], args := [d] }
  | _ => none }
def wordGetsRow : OpenClaim := { program := "ytafigegbjcbdoaa", sum := "ce6ecf3383618ef2998ef2ddade17d5fdae401127a9ec44923e382cebdb2827b", func := "lateen/lateenlaw03.WordGets", spec := "wordGets", inPlace := ["internal/bytealg.IndexByteString"], apart := false }
def WordGetsSaid : Prop := wordGetsRow.holds Try.pinned (OpenSpec.ofChange wordGetsSpec)

/-- ITS FALSE NEIGHBOUR: 'it returns false'. Refute it at one input. -/
def wordGetsWrong : ChangeSpec := { name := "wordGets", fn := fun _ => fun
  | [d] => { results := [.lit (.bool false)], args := [d] }
  | _ => none }
def WordGetsWrongFalsely : Prop := wordGetsRow.holds Try.pinned (OpenSpec.ofChange wordGetsWrong)

/-- 'lateenlaw03.WordPuts': WHATEVER THE INPUT: true; the input reads as it did. -/
def wordPutsSpec : ChangeSpec := { name := "wordPuts", fn := fun _ => fun
  | [d] => { results := [.lit (.bool true)], args := [d] }
  | _ => none }
def wordPutsRow : OpenClaim := { program := "ytafigegbjcbdoaa", sum := "ce6ecf3383618ef2998ef2ddade17d5fdae401127a9ec44923e382cebdb2827b", func := "lateen/lateenlaw03.WordPuts", spec := "wordPuts", inPlace := ["internal/bytealg.IndexByteString"], apart := false }
def WordPutsSaid : Prop := wordPutsRow.holds Try.pinned (OpenSpec.ofChange wordPutsSpec)

/-- ITS FALSE NEIGHBOUR: 'it returns false'. Refute it at one input. -/
def wordPutsWrong : ChangeSpec := { name := "wordPuts", fn := fun _ => fun
  | [d] => { results := [.lit (.bool false)], args := [d] }
  | _ => none }
def WordPutsWrongFalsely : Prop := wordPutsRow.holds Try.pinned (OpenSpec.ofChange wordPutsWrong)

/-- 'lateenlaw03.WordBack': WHATEVER THE INPUT: true; the input reads as it did. -/
def wordBackSpec : ChangeSpec := { name := "wordBack", fn := fun _ => fun
  | [d1, d2] => { results := [.lit (.bool true)], args := [d1, d2] }
  | _ => none }
def wordBackRow : OpenClaim := { program := "ytafigegbjcbdoaa", sum := "ce6ecf3383618ef2998ef2ddade17d5fdae401127a9ec44923e382cebdb2827b", func := "lateen/lateenlaw03.WordBack", spec := "wordBack", inPlace := ["internal/bytealg.IndexByteString"], apart := false }
def WordBackSaid : Prop := wordBackRow.holds Try.pinned (OpenSpec.ofChange wordBackSpec)

/-- ITS FALSE NEIGHBOUR: 'it returns false'. Refute it at one input. -/
def wordBackWrong : ChangeSpec := { name := "wordBack", fn := fun _ => fun
  | [d1, d2] => { results := [.lit (.bool false)], args := [d1, d2] }
  | _ => none }
def WordBackWrongFalsely : Prop := wordBackRow.holds Try.pinned (OpenSpec.ofChange wordBackWrong)

/-- 'lateenlaw03.WordUnlike': WHATEVER THE INPUT: true; the input reads as it did. -/
def wordUnlikeSpec : ChangeSpec := { name := "wordUnlike", fn := fun _ => fun
  | [d1, d2] => { results := [.lit (.bool true)], args := [d1, d2] }
  | _ => none }
def wordUnlikeRow : OpenClaim := { program := "ytafigegbjcbdoaa", sum := "ce6ecf3383618ef2998ef2ddade17d5fdae401127a9ec44923e382cebdb2827b", func := "lateen/lateenlaw03.WordUnlike", spec := "wordUnlike", inPlace := ["internal/bytealg.IndexByteString"], apart := false }
def WordUnlikeSaid : Prop := wordUnlikeRow.holds Try.pinned (OpenSpec.ofChange wordUnlikeSpec)

/-- ITS FALSE NEIGHBOUR: 'it returns false'. Refute it at one input. -/
def wordUnlikeWrong : ChangeSpec := { name := "wordUnlike", fn := fun _ => fun
  | [d1, d2] => { results := [.lit (.bool false)], args := [d1, d2] }
  | _ => none }
def WordUnlikeWrongFalsely : Prop := wordUnlikeRow.holds Try.pinned (OpenSpec.ofChange wordUnlikeWrong)

/- THE SECOND FORM. 'bulk': how many values and letters a reading holds, each counted each time it is reached (what is shared counts as often as it is met; a slice's spare places count too). A statement '..UptoSaid' is the law's where the arguments, and the package variables that the reading takes, are together of bulk at most 1048576: NARROWER than '..Said'. Prove '..Said' where nothing that the law and all that it calls make is longer than what came in: it says more and counts as full. Else prove '..UptoSaid'. A law counts once. -/
mutual
def uptoBulk {H : Type} : DataW H → Nat
  | .lit (.string bytes) => bytes.length + 1
  | .lit _ => 1
  | .nil => 1
  | .ptr d => uptoBulk d + 1
  | .slice elems spare => uptoBulkAll elems + uptoBulkAll spare + 1
  | .agg parts => uptoBulkAll parts + 1
  | .iface _ d => uptoBulk d + 1
  | .map entries => uptoBulkEntries entries + 1
  | .held _ => 1
def uptoBulkAll {H : Type} : List (DataW H) → Nat
  | [] => 0
  | d :: r => uptoBulk d + uptoBulkAll r
def uptoBulkEntries {H : Type} : List (Lit × DataW H) → Nat
  | [] => 0
  | x :: r => uptoBulkEntry x + uptoBulkEntries r
def uptoBulkEntry {H : Type} : Lit × DataW H → Nat
  | (.string bytes, d) => bytes.length + uptoBulk d + 1
  | (_, d) => uptoBulk d + 1
 end
def uptoSmall : (H : Type) → List (DataW H) → Bool := fun _ ds => decide (uptoBulkAll ds ≤ 1048576)
def OpenSpec.upto (s : _root_.Go.ChangeSpec) : _root_.Go.OpenSpec := { _root_.Go.OpenSpec.ofChange s with cond := some uptoSmall }

/-- 'lateenlaw03.WordNames', WHERE WHAT IT READS IS OF BULK AT MOST 1048576: true; the input reads as it did. -/
def wordNamesUptoRow : OpenClaim := { program := "ytafigegbjcbdoaa", sum := "ce6ecf3383618ef2998ef2ddade17d5fdae401127a9ec44923e382cebdb2827b", func := "lateen/lateenlaw03.WordNames", spec := "wordNames", inPlace := ["internal/bytealg.IndexByteString"], apart := false, narrowed := true }
def WordNamesUptoSaid : Prop := wordNamesUptoRow.holds Try.pinned (OpenSpec.upto wordNamesSpec)

/-- 'lateenlaw03.WordGets', WHERE WHAT IT READS IS OF BULK AT MOST 1048576: true; the input reads as it did. -/
def wordGetsUptoRow : OpenClaim := { program := "ytafigegbjcbdoaa", sum := "ce6ecf3383618ef2998ef2ddade17d5fdae401127a9ec44923e382cebdb2827b", func := "lateen/lateenlaw03.WordGets", spec := "wordGets", inPlace := ["internal/bytealg.IndexByteString"], apart := false, narrowed := true }
def WordGetsUptoSaid : Prop := wordGetsUptoRow.holds Try.pinned (OpenSpec.upto wordGetsSpec)

/-- 'lateenlaw03.WordPuts', WHERE WHAT IT READS IS OF BULK AT MOST 1048576: true; the input reads as it did. -/
def wordPutsUptoRow : OpenClaim := { program := "ytafigegbjcbdoaa", sum := "ce6ecf3383618ef2998ef2ddade17d5fdae401127a9ec44923e382cebdb2827b", func := "lateen/lateenlaw03.WordPuts", spec := "wordPuts", inPlace := ["internal/bytealg.IndexByteString"], apart := false, narrowed := true }
def WordPutsUptoSaid : Prop := wordPutsUptoRow.holds Try.pinned (OpenSpec.upto wordPutsSpec)

/-- 'lateenlaw03.WordBack', WHERE WHAT IT READS IS OF BULK AT MOST 1048576: true; the input reads as it did. -/
def wordBackUptoRow : OpenClaim := { program := "ytafigegbjcbdoaa", sum := "ce6ecf3383618ef2998ef2ddade17d5fdae401127a9ec44923e382cebdb2827b", func := "lateen/lateenlaw03.WordBack", spec := "wordBack", inPlace := ["internal/bytealg.IndexByteString"], apart := false, narrowed := true }
def WordBackUptoSaid : Prop := wordBackUptoRow.holds Try.pinned (OpenSpec.upto wordBackSpec)

/-- 'lateenlaw03.WordUnlike', WHERE WHAT IT READS IS OF BULK AT MOST 1048576: true; the input reads as it did. -/
def wordUnlikeUptoRow : OpenClaim := { program := "ytafigegbjcbdoaa", sum := "ce6ecf3383618ef2998ef2ddade17d5fdae401127a9ec44923e382cebdb2827b", func := "lateen/lateenlaw03.WordUnlike", spec := "wordUnlike", inPlace := ["internal/bytealg.IndexByteString"], apart := false, narrowed := true }
def WordUnlikeUptoSaid : Prop := wordUnlikeUptoRow.holds Try.pinned (OpenSpec.upto wordUnlikeSpec)

end Rows
end Go.Proofs.Ytafigegbjcbdoaa
