/-
  No cell of these rows narrows 'for every input' (looked for: loops, veiled, ifaces, maps, wideKeys, modest, calm, conditions, laid).
  DERIVED. THE GIVEN ROWS OF THIS SEAT. 11 by the template 'for every input the law returns true; each argument reads behind the call as it read before'; 0 by the template 'total and deterministic' (their statements: YtihbdelgoapeoaaTotals.lean).
  GIVEN WITH THE SEED: the statements are not yours to turn. If you find one false, say at which input.
  Laid BY PROGRAM, IN A SANDBOX (cutbox-rows.mjs): the forced cells as the released guide's own fill.sh prints them over the translation ef91ba8c6dc5514a… (all of the seat's roots in one cut). By AI agents, Wed Nov 11 2026. No macro, syntax, notation, axiom, sorry.
-/
import Derived.Test.YtihbdelgoapeoaaChecked
import GoSem.Claim
import GoSem.ClaimJoined
import GoSem.ClaimMapViews
import Derived.JoinedTies
import Derived.KernelRfl
namespace Go.Proofs.Ytihbdelgoapeoaa
/- THE CELL 'sum', in the pinned program and in every row, IS THE sha256 OF THE DUMP (.gsa) THAT YtihbdelgoapeoaaProg.lean LOADS. Nothing in Lean hashes anything: it is a label: what it is worth is what the hold of that sum in a sandbox is worth. -/
noncomputable def Try.pinned : Pinned := { name := "ytihbdelgoapeoaa", sum := "ef91ba8c6dc5514a6c3192beaee5cff4fa7088db1c184641b5661047a174c9eb", checked := Try.checked }
namespace Rows
def none {H : Type} : Left H := { results := [], args := [] }

/-- 'catchwordlaw12.MatchMild': WHATEVER THE INPUT: true; the input reads as it did. -/
def matchMildSpec : ChangeSpec := { name := "matchMild", fn := fun _ => fun
  | [d1, d2] => { results := [.lit (.bool true)], args := [d1, d2] }
  | _ => none }
def matchMildRow : OpenClaim := { program := "ytihbdelgoapeoaa", sum := "ef91ba8c6dc5514a6c3192beaee5cff4fa7088db1c184641b5661047a174c9eb", func := "catchword/catchwordlaw12.MatchMild", spec := "matchMild", unfollowed := true, recurses := true, apart := false }
def MatchMildSaid : Prop := matchMildRow.holds Try.pinned (OpenSpec.ofChange matchMildSpec)

/-- ITS FALSE NEIGHBOUR: 'it returns false'. Refute it at one input. -/
def matchMildWrong : ChangeSpec := { name := "matchMild", fn := fun _ => fun
  | [d1, d2] => { results := [.lit (.bool false)], args := [d1, d2] }
  | _ => none }
def MatchMildWrongFalsely : Prop := matchMildRow.holds Try.pinned (OpenSpec.ofChange matchMildWrong)

/-- 'catchwordlaw12.MatchJoins': WHATEVER THE INPUT: true; the input reads as it did. -/
def matchJoinsSpec : ChangeSpec := { name := "matchJoins", fn := fun _ => fun
  | [d1, d2] => { results := [.lit (.bool true)], args := [d1, d2] }
  | _ => none }
def matchJoinsRow : OpenClaim := { program := "ytihbdelgoapeoaa", sum := "ef91ba8c6dc5514a6c3192beaee5cff4fa7088db1c184641b5661047a174c9eb", func := "catchword/catchwordlaw12.MatchJoins", spec := "matchJoins", unfollowed := true, recurses := true, apart := false }
def MatchJoinsSaid : Prop := matchJoinsRow.holds Try.pinned (OpenSpec.ofChange matchJoinsSpec)

/-- ITS FALSE NEIGHBOUR: 'it returns false'. Refute it at one input. -/
def matchJoinsWrong : ChangeSpec := { name := "matchJoins", fn := fun _ => fun
  | [d1, d2] => { results := [.lit (.bool false)], args := [d1, d2] }
  | _ => none }
def MatchJoinsWrongFalsely : Prop := matchJoinsRow.holds Try.pinned (OpenSpec.ofChange matchJoinsWrong)

/-- 'catchwordlaw12.MatchLimits': WHATEVER THE INPUT: true; the input reads as it did. -/
def matchLimitsSpec : ChangeSpec := { name := "matchLimits", fn := fun _ => fun
  | [d1, d2] => { results := [.lit (.bool true)], args := [d1, d2] }
  | _ => none }
def matchLimitsRow : OpenClaim := { program := "ytihbdelgoapeoaa", sum := "ef91ba8c6dc5514a6c3192beaee5cff4fa7088db1c184641b5661047a174c9eb", func := "catchword/catchwordlaw12.MatchLimits", spec := "matchLimits", unfollowed := true, recurses := true, apart := false }
def MatchLimitsSaid : Prop := matchLimitsRow.holds Try.pinned (OpenSpec.ofChange matchLimitsSpec)

/-- ITS FALSE NEIGHBOUR: 'it returns false'. Refute it at one input. -/
def matchLimitsWrong : ChangeSpec := { name := "matchLimits", fn := fun _ => fun
  | [d1, d2] => { results := [.lit (.bool false)], args := [d1, d2] }
  | _ => none }
def MatchLimitsWrongFalsely : Prop := matchLimitsRow.holds Try.pinned (OpenSpec.ofChange matchLimitsWrong)

/-- 'catchwordlaw12.MatchOrders': WHATEVER THE INPUT: true; the input reads as it did. -/
def matchOrdersSpec : ChangeSpec := { name := "matchOrders", fn := fun _ => fun
  | [d] => { results := [.lit (.bool true)], args := [d] }
  | _ => none }
def matchOrdersRow : OpenClaim := { program := "ytihbdelgoapeoaa", sum := "ef91ba8c6dc5514a6c3192beaee5cff4fa7088db1c184641b5661047a174c9eb", func := "catchword/catchwordlaw12.MatchOrders", spec := "matchOrders", unfollowed := true, recurses := true, apart := false }
def MatchOrdersSaid : Prop := matchOrdersRow.holds Try.pinned (OpenSpec.ofChange matchOrdersSpec)

/-- ITS FALSE NEIGHBOUR: 'it returns false'. Refute it at one input. -/
def matchOrdersWrong : ChangeSpec := { name := "matchOrders", fn := fun _ => fun
  | [d] => { results := [.lit (.bool false)], args := [d] }
  | _ => none }
def MatchOrdersWrongFalsely : Prop := matchOrdersRow.holds Try.pinned (OpenSpec.ofChange matchOrdersWrong)

/-- 'catchwordlaw12.MatchTimes': WHATEVER THE INPUT: true; the input reads as it did. -/
def matchTimesSpec : ChangeSpec := { name := "matchTimes", fn := fun _ => fun
  | [d1, d2, d3] => { results := [.lit (.bool true)], args := [d1, d2, d3] }
  | _ => none }
def matchTimesRow : OpenClaim := { program := "ytihbdelgoapeoaa", sum := "ef91ba8c6dc5514a6c3192beaee5cff4fa7088db1c184641b5661047a174c9eb", func := "catchword/catchwordlaw12.MatchTimes", spec := "matchTimes", unfollowed := true, recurses := true, apart := false }
def MatchTimesSaid : Prop := matchTimesRow.holds Try.pinned (OpenSpec.ofChange matchTimesSpec)

/-- ITS FALSE NEIGHBOUR: 'it returns false'. Refute it at one input. -/
def matchTimesWrong : ChangeSpec := { name := "matchTimes", fn := fun _ => fun
  | [d1, d2, d3] => { results := [.lit (.bool false)], args := [d1, d2, d3] }
  | _ => none }
def MatchTimesWrongFalsely : Prop := matchTimesRow.holds Try.pinned (OpenSpec.ofChange matchTimesWrong)

/-- 'catchwordlaw12.MatchCounts': WHATEVER THE INPUT: true; the input reads as it did. -/
def matchCountsSpec : ChangeSpec := { name := "matchCounts", fn := fun _ => fun
  | [d1, d2, d3] => { results := [.lit (.bool true)], args := [d1, d2, d3] }
  | _ => none }
def matchCountsRow : OpenClaim := { program := "ytihbdelgoapeoaa", sum := "ef91ba8c6dc5514a6c3192beaee5cff4fa7088db1c184641b5661047a174c9eb", func := "catchword/catchwordlaw12.MatchCounts", spec := "matchCounts", unfollowed := true, recurses := true, apart := false }
def MatchCountsSaid : Prop := matchCountsRow.holds Try.pinned (OpenSpec.ofChange matchCountsSpec)

/-- ITS FALSE NEIGHBOUR: 'it returns false'. Refute it at one input. -/
def matchCountsWrong : ChangeSpec := { name := "matchCounts", fn := fun _ => fun
  | [d1, d2, d3] => { results := [.lit (.bool false)], args := [d1, d2, d3] }
  | _ => none }
def MatchCountsWrongFalsely : Prop := matchCountsRow.holds Try.pinned (OpenSpec.ofChange matchCountsWrong)

/-- 'catchwordlaw12.MatchEmpty': WHATEVER THE INPUT: true; the input reads as it did. -/
def matchEmptySpec : ChangeSpec := { name := "matchEmpty", fn := fun _ => fun
  | [d1, d2, d3] => { results := [.lit (.bool true)], args := [d1, d2, d3] }
  | _ => none }
def matchEmptyRow : OpenClaim := { program := "ytihbdelgoapeoaa", sum := "ef91ba8c6dc5514a6c3192beaee5cff4fa7088db1c184641b5661047a174c9eb", func := "catchword/catchwordlaw12.MatchEmpty", spec := "matchEmpty", unfollowed := true, recurses := true, apart := false }
def MatchEmptySaid : Prop := matchEmptyRow.holds Try.pinned (OpenSpec.ofChange matchEmptySpec)

/-- ITS FALSE NEIGHBOUR: 'it returns false'. Refute it at one input. -/
def matchEmptyWrong : ChangeSpec := { name := "matchEmpty", fn := fun _ => fun
  | [d1, d2, d3] => { results := [.lit (.bool false)], args := [d1, d2, d3] }
  | _ => none }
def MatchEmptyWrongFalsely : Prop := matchEmptyRow.holds Try.pinned (OpenSpec.ofChange matchEmptyWrong)

/-- 'catchwordlaw12.MatchWindows': WHATEVER THE INPUT: true; the input reads as it did. -/
def matchWindowsSpec : ChangeSpec := { name := "matchWindows", fn := fun _ => fun
  | [d1, d2, d3, d4, d5] => { results := [.lit (.bool true)], args := [d1, d2, d3, d4, d5] }
  | _ => none }
def matchWindowsRow : OpenClaim := { program := "ytihbdelgoapeoaa", sum := "ef91ba8c6dc5514a6c3192beaee5cff4fa7088db1c184641b5661047a174c9eb", func := "catchword/catchwordlaw12.MatchWindows", spec := "matchWindows", unfollowed := true, recurses := true, apart := false }
def MatchWindowsSaid : Prop := matchWindowsRow.holds Try.pinned (OpenSpec.ofChange matchWindowsSpec)

/-- ITS FALSE NEIGHBOUR: 'it returns false'. Refute it at one input. -/
def matchWindowsWrong : ChangeSpec := { name := "matchWindows", fn := fun _ => fun
  | [d1, d2, d3, d4, d5] => { results := [.lit (.bool false)], args := [d1, d2, d3, d4, d5] }
  | _ => none }
def MatchWindowsWrongFalsely : Prop := matchWindowsRow.holds Try.pinned (OpenSpec.ofChange matchWindowsWrong)

/-- 'catchwordlaw12.MatchAgain': WHATEVER THE INPUT: true; the input reads as it did. -/
def matchAgainSpec : ChangeSpec := { name := "matchAgain", fn := fun _ => fun
  | [d1, d2, d3, d4] => { results := [.lit (.bool true)], args := [d1, d2, d3, d4] }
  | _ => none }
def matchAgainRow : OpenClaim := { program := "ytihbdelgoapeoaa", sum := "ef91ba8c6dc5514a6c3192beaee5cff4fa7088db1c184641b5661047a174c9eb", func := "catchword/catchwordlaw12.MatchAgain", spec := "matchAgain", unfollowed := true, recurses := true, apart := false }
def MatchAgainSaid : Prop := matchAgainRow.holds Try.pinned (OpenSpec.ofChange matchAgainSpec)

/-- ITS FALSE NEIGHBOUR: 'it returns false'. Refute it at one input. -/
def matchAgainWrong : ChangeSpec := { name := "matchAgain", fn := fun _ => fun
  | [d1, d2, d3, d4] => { results := [.lit (.bool false)], args := [d1, d2, d3, d4] }
  | _ => none }
def MatchAgainWrongFalsely : Prop := matchAgainRow.holds Try.pinned (OpenSpec.ofChange matchAgainWrong)

/-- 'catchwordlaw12.MatchDistances': WHATEVER THE INPUT: true; the input reads as it did. -/
def matchDistancesSpec : ChangeSpec := { name := "matchDistances", fn := fun _ => fun
  | [d1, d2, d3, d4] => { results := [.lit (.bool true)], args := [d1, d2, d3, d4] }
  | _ => none }
def matchDistancesRow : OpenClaim := { program := "ytihbdelgoapeoaa", sum := "ef91ba8c6dc5514a6c3192beaee5cff4fa7088db1c184641b5661047a174c9eb", func := "catchword/catchwordlaw12.MatchDistances", spec := "matchDistances", unfollowed := true, recurses := true, apart := false }
def MatchDistancesSaid : Prop := matchDistancesRow.holds Try.pinned (OpenSpec.ofChange matchDistancesSpec)

/-- ITS FALSE NEIGHBOUR: 'it returns false'. Refute it at one input. -/
def matchDistancesWrong : ChangeSpec := { name := "matchDistances", fn := fun _ => fun
  | [d1, d2, d3, d4] => { results := [.lit (.bool false)], args := [d1, d2, d3, d4] }
  | _ => none }
def MatchDistancesWrongFalsely : Prop := matchDistancesRow.holds Try.pinned (OpenSpec.ofChange matchDistancesWrong)

/-- 'catchwordlaw12.MatchKeeps': WHATEVER THE INPUT: true; the input reads as it did. -/
def matchKeepsSpec : ChangeSpec := { name := "matchKeeps", fn := fun _ => fun
  | [d1, d2, d3] => { results := [.lit (.bool true)], args := [d1, d2, d3] }
  | _ => none }
def matchKeepsRow : OpenClaim := { program := "ytihbdelgoapeoaa", sum := "ef91ba8c6dc5514a6c3192beaee5cff4fa7088db1c184641b5661047a174c9eb", func := "catchword/catchwordlaw12.MatchKeeps", spec := "matchKeeps", unfollowed := true, recurses := true, apart := false }
def MatchKeepsSaid : Prop := matchKeepsRow.holds Try.pinned (OpenSpec.ofChange matchKeepsSpec)

/-- ITS FALSE NEIGHBOUR: 'it returns false'. Refute it at one input. -/
def matchKeepsWrong : ChangeSpec := { name := "matchKeeps", fn := fun _ => fun
  | [d1, d2, d3] => { results := [.lit (.bool false)], args := [d1, d2, d3] }
  | _ => none }
def MatchKeepsWrongFalsely : Prop := matchKeepsRow.holds Try.pinned (OpenSpec.ofChange matchKeepsWrong)

/- THE SECOND FORM. 'bulk': how many values and letters a reading holds, each counted each time it is reached (what is shared counts as often as it is met; a slice's spare places count too). A statement '..UptoSaid' is the law's where the arguments, and the package variables that the reading takes, are together of bulk at most 1048576: NARROWER than '..Said'. Prove '..Said' where nothing that the law and all that it calls make is longer than what came in: it says more and counts as full. Else prove '..UptoSaid'. A law counts once. -/
mutual
def uptoBulk {H : Type} : DataW H → Nat
  | .lit (.string bytes) => bytes.length + 1
  | .lit _ => 1
  | .nil => 1
  | .ptr d => uptoBulk d + 1
  | .slice elems spare => uptoBulkAll elems + uptoBulkAll spare + 1
  | .agg parts => uptoBulkAll parts + 1
  | .iface _ d => uptoBulk d + 1
  | .map entries => uptoBulkEntries entries + 1
  | .held _ => 1
def uptoBulkAll {H : Type} : List (DataW H) → Nat
  | [] => 0
  | d :: r => uptoBulk d + uptoBulkAll r
def uptoBulkEntries {H : Type} : List (Lit × DataW H) → Nat
  | [] => 0
  | x :: r => uptoBulkEntry x + uptoBulkEntries r
def uptoBulkEntry {H : Type} : Lit × DataW H → Nat
  | (.string bytes, d) => bytes.length + uptoBulk d + 1
  | (_, d) => uptoBulk d + 1
 end
def uptoSmall : (H : Type) → List (DataW H) → Bool := fun _ ds => decide (uptoBulkAll ds ≤ 1048576)
def OpenSpec.upto (s : _root_.Go.ChangeSpec) : _root_.Go.OpenSpec := { _root_.Go.OpenSpec.ofChange s with cond := some uptoSmall }

/-- 'catchwordlaw12.MatchMild', WHERE WHAT IT READS IS OF BULK AT MOST 1048576: true; the input reads as it did. -/
def matchMildUptoRow : OpenClaim := { program := "ytihbdelgoapeoaa", sum := "ef91ba8c6dc5514a6c3192beaee5cff4fa7088db1c184641b5661047a174c9eb", func := "catchword/catchwordlaw12.MatchMild", spec := "matchMild", unfollowed := true, recurses := true, apart := false, narrowed := true }
def MatchMildUptoSaid : Prop := matchMildUptoRow.holds Try.pinned (OpenSpec.upto matchMildSpec)

/-- 'catchwordlaw12.MatchJoins', WHERE WHAT IT READS IS OF BULK AT MOST 1048576: true; the input reads as it did. -/
def matchJoinsUptoRow : OpenClaim := { program := "ytihbdelgoapeoaa", sum := "ef91ba8c6dc5514a6c3192beaee5cff4fa7088db1c184641b5661047a174c9eb", func := "catchword/catchwordlaw12.MatchJoins", spec := "matchJoins", unfollowed := true, recurses := true, apart := false, narrowed := true }
def MatchJoinsUptoSaid : Prop := matchJoinsUptoRow.holds Try.pinned (OpenSpec.upto matchJoinsSpec)

/-- 'catchwordlaw12.MatchLimits', WHERE WHAT IT READS IS OF BULK AT MOST 1048576: true; the input reads as it did. -/
def matchLimitsUptoRow : OpenClaim := { program := "ytihbdelgoapeoaa", sum := "ef91ba8c6dc5514a6c3192beaee5cff4fa7088db1c184641b5661047a174c9eb", func := "catchword/catchwordlaw12.MatchLimits", spec := "matchLimits", unfollowed := true, recurses := true, apart := false, narrowed := true }
def MatchLimitsUptoSaid : Prop := matchLimitsUptoRow.holds Try.pinned (OpenSpec.upto matchLimitsSpec)

/-- 'catchwordlaw12.MatchOrders', WHERE WHAT IT READS IS OF BULK AT MOST 1048576: true; the input reads as it did. -/
def matchOrdersUptoRow : OpenClaim := { program := "ytihbdelgoapeoaa", sum := "ef91ba8c6dc5514a6c3192beaee5cff4fa7088db1c184641b5661047a174c9eb", func := "catchword/catchwordlaw12.MatchOrders", spec := "matchOrders", unfollowed := true, recurses := true, apart := false, narrowed := true }
def MatchOrdersUptoSaid : Prop := matchOrdersUptoRow.holds Try.pinned (OpenSpec.upto matchOrdersSpec)

/-- 'catchwordlaw12.MatchTimes', WHERE WHAT IT READS IS OF BULK AT MOST 1048576: true; the input reads as it did. -/
def matchTimesUptoRow : OpenClaim := { program := "ytihbdelgoapeoaa", sum := "ef91ba8c6dc5514a6c3192beaee5cff4fa7088db1c184641b5661047a174c9eb", func := "catchword/catchwordlaw12.MatchTimes", spec := "matchTimes", unfollowed := true, recurses := true, apart := false, narrowed := true }
def MatchTimesUptoSaid : Prop := matchTimesUptoRow.holds Try.pinned (OpenSpec.upto matchTimesSpec)

/-- 'catchwordlaw12.MatchCounts', WHERE WHAT IT READS IS OF BULK AT MOST 1048576: true; the input reads as it did. -/
def matchCountsUptoRow : OpenClaim := { program := "ytihbdelgoapeoaa", sum := "ef91ba8c6dc5514a6c3192beaee5cff4fa7088db1c184641b5661047a174c9eb", func := "catchword/catchwordlaw12.MatchCounts", spec := "matchCounts", unfollowed := true, recurses := true, apart := false, narrowed := true }
def MatchCountsUptoSaid : Prop := matchCountsUptoRow.holds Try.pinned (OpenSpec.upto matchCountsSpec)

/-- 'catchwordlaw12.MatchEmpty', WHERE WHAT IT READS IS OF BULK AT MOST 1048576: true; the input reads as it did. -/
def matchEmptyUptoRow : OpenClaim := { program := "ytihbdelgoapeoaa", sum := "ef91ba8c6dc5514a6c3192beaee5cff4fa7088db1c184641b5661047a174c9eb", func := "catchword/catchwordlaw12.MatchEmpty", spec := "matchEmpty", unfollowed := true, recurses := true, apart := false, narrowed := true }
def MatchEmptyUptoSaid : Prop := matchEmptyUptoRow.holds Try.pinned (OpenSpec.upto matchEmptySpec)

/-- 'catchwordlaw12.MatchWindows', WHERE WHAT IT READS IS OF BULK AT MOST 1048576: true; the input reads as it did. -/
def matchWindowsUptoRow : OpenClaim := { program := "ytihbdelgoapeoaa", sum := "ef91ba8c6dc5514a6c3192beaee5cff4fa7088db1c184641b5661047a174c9eb", func := "catchword/catchwordlaw12.MatchWindows", spec := "matchWindows", unfollowed := true, recurses := true, apart := false, narrowed := true }
def MatchWindowsUptoSaid : Prop := matchWindowsUptoRow.holds Try.pinned (OpenSpec.upto matchWindowsSpec)

/-- 'catchwordlaw12.MatchAgain', WHERE WHAT IT READS IS OF BULK AT MOST 1048576: true; the input reads as it did. -/
def matchAgainUptoRow : OpenClaim := { program := "ytihbdelgoapeoaa", sum := "ef91ba8c6dc5514a6c3192beaee5cff4fa7088db1c184641b5661047a174c9eb", func := "catchword/catchwordlaw12.MatchAgain", spec := "matchAgain", unfollowed := true, recurses := true, apart := false, narrowed := true }
def MatchAgainUptoSaid : Prop := matchAgainUptoRow.holds Try.pinned (OpenSpec.upto matchAgainSpec)

/-- 'catchwordlaw12.MatchDistances', WHERE WHAT IT READS IS OF BULK AT MOST 1048576: true; the input reads as it did. -/
def matchDistancesUptoRow : OpenClaim := { program := "ytihbdelgoapeoaa", sum := "ef91ba8c6dc5514a6c3192beaee5cff4fa7088db1c184641b5661047a174c9eb", func := "catchword/catchwordlaw12.MatchDistances", spec := "matchDistances", unfollowed := true, recurses := true, apart := false, narrowed := true }
def MatchDistancesUptoSaid : Prop := matchDistancesUptoRow.holds Try.pinned (OpenSpec.upto matchDistancesSpec)

/-- 'catchwordlaw12.MatchKeeps', WHERE WHAT IT READS IS OF BULK AT MOST 1048576: true; the input reads as it did. -/
def matchKeepsUptoRow : OpenClaim := { program := "ytihbdelgoapeoaa", sum := "ef91ba8c6dc5514a6c3192beaee5cff4fa7088db1c184641b5661047a174c9eb", func := "catchword/catchwordlaw12.MatchKeeps", spec := "matchKeeps", unfollowed := true, recurses := true, apart := false, narrowed := true }
def MatchKeepsUptoSaid : Prop := matchKeepsUptoRow.holds Try.pinned (OpenSpec.upto matchKeepsSpec)

end Rows
end Go.Proofs.Ytihbdelgoapeoaa
