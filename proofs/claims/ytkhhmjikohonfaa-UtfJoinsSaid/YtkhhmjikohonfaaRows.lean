/-
  No cell of these rows narrows 'for every input' (looked for: loops, veiled, ifaces, maps, wideKeys, modest, calm, conditions, laid).
  DERIVED. THE GIVEN ROWS OF THIS SEAT. 8 by the template 'for every input the law returns true; each argument reads behind the call as it read before'; 0 by the template 'total and deterministic' (their statements: YtkhhmjikohonfaaTotals.lean).
  GIVEN WITH THE SEED: the statements are not yours to turn. If you find one false, say at which input.
  Laid BY PROGRAM, IN A SANDBOX (cutbox-rows.mjs): the forced cells as the released guide's own fill.sh prints them over the translation 25a69b3ffc4c5fc8… (all of the seat's roots in one cut). By AI agents, Wed Nov 11 2026. No macro, syntax, notation, axiom, sorry.
-/
import Derived.Test.YtkhhmjikohonfaaChecked
import GoSem.Claim
import GoSem.ClaimJoined
import GoSem.ClaimMapViews
import Derived.JoinedTies
import Derived.KernelRfl
namespace Go.Proofs.Ytkhhmjikohonfaa
/- THE CELL 'sum', in the pinned program and in every row, IS THE sha256 OF THE DUMP (.gsa) THAT YtkhhmjikohonfaaProg.lean LOADS. Nothing in Lean hashes anything: it is a label: what it is worth is what the hold of that sum in a sandbox is worth. -/
noncomputable def Try.pinned : Pinned := { name := "ytkhhmjikohonfaa", sum := "25a69b3ffc4c5fc850c5ef8af2b40014582af154198390bf7774186f87f88251", checked := Try.checked }
namespace Rows
def none {H : Type} : Left H := { results := [], args := [] }

/-- 'catchwordlaw02.UtfLows': WHATEVER THE INPUT: true; the input reads as it did. -/
def utfLowsSpec : ChangeSpec := { name := "utfLows", fn := fun _ => fun
  | [d] => { results := [.lit (.bool true)], args := [d] }
  | _ => none }
def utfLowsRow : OpenClaim := { program := "ytkhhmjikohonfaa", sum := "25a69b3ffc4c5fc850c5ef8af2b40014582af154198390bf7774186f87f88251", func := "catchword/catchwordlaw02.UtfLows", spec := "utfLows", apart := false }
def UtfLowsSaid : Prop := utfLowsRow.holds Try.pinned (OpenSpec.ofChange utfLowsSpec)

/-- ITS FALSE NEIGHBOUR: 'it returns false'. Refute it at one input. -/
def utfLowsWrong : ChangeSpec := { name := "utfLows", fn := fun _ => fun
  | [d] => { results := [.lit (.bool false)], args := [d] }
  | _ => none }
def UtfLowsWrongFalsely : Prop := utfLowsRow.holds Try.pinned (OpenSpec.ofChange utfLowsWrong)

/-- 'catchwordlaw02.UtfPlains': WHATEVER THE INPUT: true; the input reads as it did. -/
def utfPlainsSpec : ChangeSpec := { name := "utfPlains", fn := fun _ => fun
  | [d] => { results := [.lit (.bool true)], args := [d] }
  | _ => none }
def utfPlainsRow : OpenClaim := { program := "ytkhhmjikohonfaa", sum := "25a69b3ffc4c5fc850c5ef8af2b40014582af154198390bf7774186f87f88251", func := "catchword/catchwordlaw02.UtfPlains", spec := "utfPlains", apart := false }
def UtfPlainsSaid : Prop := utfPlainsRow.holds Try.pinned (OpenSpec.ofChange utfPlainsSpec)

/-- ITS FALSE NEIGHBOUR: 'it returns false'. Refute it at one input. -/
def utfPlainsWrong : ChangeSpec := { name := "utfPlains", fn := fun _ => fun
  | [d] => { results := [.lit (.bool false)], args := [d] }
  | _ => none }
def UtfPlainsWrongFalsely : Prop := utfPlainsRow.holds Try.pinned (OpenSpec.ofChange utfPlainsWrong)

/-- 'catchwordlaw02.UtfLetters': WHATEVER THE INPUT: true; the input reads as it did. -/
def utfLettersSpec : ChangeSpec := { name := "utfLetters", fn := fun _ => fun
  | [d] => { results := [.lit (.bool true)], args := [d] }
  | _ => none }
def utfLettersRow : OpenClaim := { program := "ytkhhmjikohonfaa", sum := "25a69b3ffc4c5fc850c5ef8af2b40014582af154198390bf7774186f87f88251", func := "catchword/catchwordlaw02.UtfLetters", spec := "utfLetters", apart := false }
def UtfLettersSaid : Prop := utfLettersRow.holds Try.pinned (OpenSpec.ofChange utfLettersSpec)

/-- ITS FALSE NEIGHBOUR: 'it returns false'. Refute it at one input. -/
def utfLettersWrong : ChangeSpec := { name := "utfLetters", fn := fun _ => fun
  | [d] => { results := [.lit (.bool false)], args := [d] }
  | _ => none }
def UtfLettersWrongFalsely : Prop := utfLettersRow.holds Try.pinned (OpenSpec.ofChange utfLettersWrong)

/-- 'catchwordlaw02.UtfNexts': WHATEVER THE INPUT: true; the input reads as it did. -/
def utfNextsSpec : ChangeSpec := { name := "utfNexts", fn := fun _ => fun
  | [d] => { results := [.lit (.bool true)], args := [d] }
  | _ => none }
def utfNextsRow : OpenClaim := { program := "ytkhhmjikohonfaa", sum := "25a69b3ffc4c5fc850c5ef8af2b40014582af154198390bf7774186f87f88251", func := "catchword/catchwordlaw02.UtfNexts", spec := "utfNexts", unfollowed := true, recurses := true, apart := false }
def UtfNextsSaid : Prop := utfNextsRow.holds Try.pinned (OpenSpec.ofChange utfNextsSpec)

/-- ITS FALSE NEIGHBOUR: 'it returns false'. Refute it at one input. -/
def utfNextsWrong : ChangeSpec := { name := "utfNexts", fn := fun _ => fun
  | [d] => { results := [.lit (.bool false)], args := [d] }
  | _ => none }
def UtfNextsWrongFalsely : Prop := utfNextsRow.holds Try.pinned (OpenSpec.ofChange utfNextsWrong)

/-- 'catchwordlaw02.UtfPuts': WHATEVER THE INPUT: true; the input reads as it did. -/
def utfPutsSpec : ChangeSpec := { name := "utfPuts", fn := fun _ => fun
  | [d1, d2, d3] => { results := [.lit (.bool true)], args := [d1, d2, d3] }
  | _ => none }
def utfPutsRow : OpenClaim := { program := "ytkhhmjikohonfaa", sum := "25a69b3ffc4c5fc850c5ef8af2b40014582af154198390bf7774186f87f88251", func := "catchword/catchwordlaw02.UtfPuts", spec := "utfPuts", unfollowed := true, recurses := true, apart := false }
def UtfPutsSaid : Prop := utfPutsRow.holds Try.pinned (OpenSpec.ofChange utfPutsSpec)

/-- ITS FALSE NEIGHBOUR: 'it returns false'. Refute it at one input. -/
def utfPutsWrong : ChangeSpec := { name := "utfPuts", fn := fun _ => fun
  | [d1, d2, d3] => { results := [.lit (.bool false)], args := [d1, d2, d3] }
  | _ => none }
def UtfPutsWrongFalsely : Prop := utfPutsRow.holds Try.pinned (OpenSpec.ofChange utfPutsWrong)

/-- 'catchwordlaw02.UtfJoins': WHATEVER THE INPUT: true; the input reads as it did. -/
def utfJoinsSpec : ChangeSpec := { name := "utfJoins", fn := fun _ => fun
  | [d1, d2, d3] => { results := [.lit (.bool true)], args := [d1, d2, d3] }
  | _ => none }
def utfJoinsRow : OpenClaim := { program := "ytkhhmjikohonfaa", sum := "25a69b3ffc4c5fc850c5ef8af2b40014582af154198390bf7774186f87f88251", func := "catchword/catchwordlaw02.UtfJoins", spec := "utfJoins", apart := false }
def UtfJoinsSaid : Prop := utfJoinsRow.holds Try.pinned (OpenSpec.ofChange utfJoinsSpec)

/-- ITS FALSE NEIGHBOUR: 'it returns false'. Refute it at one input. -/
def utfJoinsWrong : ChangeSpec := { name := "utfJoins", fn := fun _ => fun
  | [d1, d2, d3] => { results := [.lit (.bool false)], args := [d1, d2, d3] }
  | _ => none }
def UtfJoinsWrongFalsely : Prop := utfJoinsRow.holds Try.pinned (OpenSpec.ofChange utfJoinsWrong)

/-- 'catchwordlaw02.UtfTwice': WHATEVER THE INPUT: true; the input reads as it did. -/
def utfTwiceSpec : ChangeSpec := { name := "utfTwice", fn := fun _ => fun
  | [d] => { results := [.lit (.bool true)], args := [d] }
  | _ => none }
def utfTwiceRow : OpenClaim := { program := "ytkhhmjikohonfaa", sum := "25a69b3ffc4c5fc850c5ef8af2b40014582af154198390bf7774186f87f88251", func := "catchword/catchwordlaw02.UtfTwice", spec := "utfTwice", unfollowed := true, recurses := true, apart := false }
def UtfTwiceSaid : Prop := utfTwiceRow.holds Try.pinned (OpenSpec.ofChange utfTwiceSpec)

/-- ITS FALSE NEIGHBOUR: 'it returns false'. Refute it at one input. -/
def utfTwiceWrong : ChangeSpec := { name := "utfTwice", fn := fun _ => fun
  | [d] => { results := [.lit (.bool false)], args := [d] }
  | _ => none }
def UtfTwiceWrongFalsely : Prop := utfTwiceRow.holds Try.pinned (OpenSpec.ofChange utfTwiceWrong)

/-- 'catchwordlaw02.UtfMaps': WHATEVER THE INPUT: true; the input reads as it did. -/
def utfMapsSpec : ChangeSpec := { name := "utfMaps", fn := fun _ => fun
  | [d] => { results := [.lit (.bool true)], args := [d] }
  | _ => none }
def utfMapsRow : OpenClaim := { program := "ytkhhmjikohonfaa", sum := "25a69b3ffc4c5fc850c5ef8af2b40014582af154198390bf7774186f87f88251", func := "catchword/catchwordlaw02.UtfMaps", spec := "utfMaps", unfollowed := true, recurses := true, apart := false }
def UtfMapsSaid : Prop := utfMapsRow.holds Try.pinned (OpenSpec.ofChange utfMapsSpec)

/-- ITS FALSE NEIGHBOUR: 'it returns false'. Refute it at one input. -/
def utfMapsWrong : ChangeSpec := { name := "utfMaps", fn := fun _ => fun
  | [d] => { results := [.lit (.bool false)], args := [d] }
  | _ => none }
def UtfMapsWrongFalsely : Prop := utfMapsRow.holds Try.pinned (OpenSpec.ofChange utfMapsWrong)

/- THE SECOND FORM. 'bulk': how many values and letters a reading holds, each counted each time it is reached (what is shared counts as often as it is met; a slice's spare places count too). A statement '..UptoSaid' is the law's where the arguments, and the package variables that the reading takes, are together of bulk at most 1048576: NARROWER than '..Said'. Prove '..Said' where nothing that the law and all that it calls make is longer than what came in: it says more and counts as full. Else prove '..UptoSaid'. A law counts once. -/
mutual
def uptoBulk {H : Type} : DataW H → Nat
  | .lit (.string bytes) => bytes.length + 1
  | .lit _ => 1
  | .nil => 1
  | .ptr d => uptoBulk d + 1
  | .slice elems spare => uptoBulkAll elems + uptoBulkAll spare + 1
  | .agg parts => uptoBulkAll parts + 1
  | .iface _ d => uptoBulk d + 1
  | .map entries => uptoBulkEntries entries + 1
  | .held _ => 1
def uptoBulkAll {H : Type} : List (DataW H) → Nat
  | [] => 0
  | d :: r => uptoBulk d + uptoBulkAll r
def uptoBulkEntries {H : Type} : List (Lit × DataW H) → Nat
  | [] => 0
  | x :: r => uptoBulkEntry x + uptoBulkEntries r
def uptoBulkEntry {H : Type} : Lit × DataW H → Nat
  | (.string bytes, d) => bytes.length + uptoBulk d + 1
  | (_, d) => uptoBulk d + 1
 end
def uptoSmall : (H : Type) → List (DataW H) → Bool := fun _ ds => decide (uptoBulkAll ds ≤ 1048576)
def OpenSpec.upto (s : _root_.Go.ChangeSpec) : _root_.Go.OpenSpec := { _root_.Go.OpenSpec.ofChange s with cond := some uptoSmall }

/-- 'catchwordlaw02.UtfLows', WHERE WHAT IT READS IS OF BULK AT MOST 1048576: true; the input reads as it did. -/
def utfLowsUptoRow : OpenClaim := { program := "ytkhhmjikohonfaa", sum := "25a69b3ffc4c5fc850c5ef8af2b40014582af154198390bf7774186f87f88251", func := "catchword/catchwordlaw02.UtfLows", spec := "utfLows", apart := false, narrowed := true }
def UtfLowsUptoSaid : Prop := utfLowsUptoRow.holds Try.pinned (OpenSpec.upto utfLowsSpec)

/-- 'catchwordlaw02.UtfPlains', WHERE WHAT IT READS IS OF BULK AT MOST 1048576: true; the input reads as it did. -/
def utfPlainsUptoRow : OpenClaim := { program := "ytkhhmjikohonfaa", sum := "25a69b3ffc4c5fc850c5ef8af2b40014582af154198390bf7774186f87f88251", func := "catchword/catchwordlaw02.UtfPlains", spec := "utfPlains", apart := false, narrowed := true }
def UtfPlainsUptoSaid : Prop := utfPlainsUptoRow.holds Try.pinned (OpenSpec.upto utfPlainsSpec)

/-- 'catchwordlaw02.UtfLetters', WHERE WHAT IT READS IS OF BULK AT MOST 1048576: true; the input reads as it did. -/
def utfLettersUptoRow : OpenClaim := { program := "ytkhhmjikohonfaa", sum := "25a69b3ffc4c5fc850c5ef8af2b40014582af154198390bf7774186f87f88251", func := "catchword/catchwordlaw02.UtfLetters", spec := "utfLetters", apart := false, narrowed := true }
def UtfLettersUptoSaid : Prop := utfLettersUptoRow.holds Try.pinned (OpenSpec.upto utfLettersSpec)

/-- 'catchwordlaw02.UtfNexts', WHERE WHAT IT READS IS OF BULK AT MOST 1048576: true; the input reads as it did. -/
def utfNextsUptoRow : OpenClaim := { program := "ytkhhmjikohonfaa", sum := "25a69b3ffc4c5fc850c5ef8af2b40014582af154198390bf7774186f87f88251", func := "catchword/catchwordlaw02.UtfNexts", spec := "utfNexts", unfollowed := true, recurses := true, apart := false, narrowed := true }
def UtfNextsUptoSaid : Prop := utfNextsUptoRow.holds Try.pinned (OpenSpec.upto utfNextsSpec)

/-- 'catchwordlaw02.UtfPuts', WHERE WHAT IT READS IS OF BULK AT MOST 1048576: true; the input reads as it did. -/
def utfPutsUptoRow : OpenClaim := { program := "ytkhhmjikohonfaa", sum := "25a69b3ffc4c5fc850c5ef8af2b40014582af154198390bf7774186f87f88251", func := "catchword/catchwordlaw02.UtfPuts", spec := "utfPuts", unfollowed := true, recurses := true, apart := false, narrowed := true }
def UtfPutsUptoSaid : Prop := utfPutsUptoRow.holds Try.pinned (OpenSpec.upto utfPutsSpec)

/-- 'catchwordlaw02.UtfJoins', WHERE WHAT IT READS IS OF BULK AT MOST 1048576: true; the input reads as it did. -/
def utfJoinsUptoRow : OpenClaim := { program := "ytkhhmjikohonfaa", sum := "25a69b3ffc4c5fc850c5ef8af2b40014582af154198390bf7774186f87f88251", func := "catchword/catchwordlaw02.UtfJoins", spec := "utfJoins", apart := false, narrowed := true }
def UtfJoinsUptoSaid : Prop := utfJoinsUptoRow.holds Try.pinned (OpenSpec.upto utfJoinsSpec)

/-- 'catchwordlaw02.UtfTwice', WHERE WHAT IT READS IS OF BULK AT MOST 1048576: true; the input reads as it did. -/
def utfTwiceUptoRow : OpenClaim := { program := "ytkhhmjikohonfaa", sum := "25a69b3ffc4c5fc850c5ef8af2b40014582af154198390bf7774186f87f88251", func := "catchword/catchwordlaw02.UtfTwice", spec := "utfTwice", unfollowed := true, recurses := true, apart := false, narrowed := true }
def UtfTwiceUptoSaid : Prop := utfTwiceUptoRow.holds Try.pinned (OpenSpec.upto utfTwiceSpec)

/-- 'catchwordlaw02.UtfMaps', WHERE WHAT IT READS IS OF BULK AT MOST 1048576: true; the input reads as it did. -/
def utfMapsUptoRow : OpenClaim := { program := "ytkhhmjikohonfaa", sum := "25a69b3ffc4c5fc850c5ef8af2b40014582af154198390bf7774186f87f88251", func := "catchword/catchwordlaw02.UtfMaps", spec := "utfMaps", unfollowed := true, recurses := true, apart := false, narrowed := true }
def UtfMapsUptoSaid : Prop := utfMapsUptoRow.holds Try.pinned (OpenSpec.upto utfMapsSpec)

end Rows
end Go.Proofs.Ytkhhmjikohonfaa
