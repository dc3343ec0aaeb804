-- Written by a program of this session for the claim (a changed use of the kit's printer; not the printer's own print).
import Derived.Test.YtkhhmjikohonfaaProg
import Derived.Below
import Derived.Deep.Draws
import Derived.Deep.AppendLies
import Derived.Maps.AppendAt
import Derived.OwnWalk
import Derived.Laws.BytesArg
import Derived.Laws.MakeOwn
import Derived.Laws.OwnMore
import Derived.Deep.OwnRows
import Derived.Tactics
import Derived.Lib.ConvBytes
import Derived.Laws.Slices
import Derived.WalkKit
import Derived.KernelRfl
import Derived.RowKit3
import Derived.Deep.LoopGhost
import Derived.Deep.QuietTactic
import Derived.BigQuiet
import Derived.WideLaws
import Derived.Deep.DeepCutAuto
import Derived.Deep.CutBlock
import Derived.Deep.RegionHeld3
import Derived.Laws.Rows
import Derived.Lib.AppendStr
import Derived.ArgAppend
import Derived.Laws.IdiomCopy
import Derived.OrdersHeld
import Derived.Laws.BitsLemmas
import Derived.RowKit
import Derived.Test.YtkhhmjikohonfaaWWords
import Derived.Test.YtkhhmjikohonfaaWLast
import Derived.Test.YtkhhmjikohonfaaWTab
import Derived.Test.YtkhhmjikohonfaaWFour
import Derived.Test.YtkhhmjikohonfaaWQPut
import Derived.Test.YtkhhmjikohonfaaWApart
import Derived.Test.YtkhhmjikohonfaaWArr
import Derived.Test.YtkhhmjikohonfaaWZeros
import Derived.Test.YtkhhmjikohonfaaWFoot
import Derived.Test.YtkhhmjikohonfaaWKept
import Derived.Test.YtkhhmjikohonfaaWShare
import Derived.Test.YtkhhmjikohonfaaWN
import Derived.Test.YtkhhmjikohonfaaWFootNe
import Derived.Test.YtkhhmjikohonfaaWAt
import Derived.Test.YtkhhmjikohonfaaWEqStruct
import Derived.Test.YtkhhmjikohonfaaWRepsOne
import Derived.Test.YtkhhmjikohonfaaWInv
import Derived.Test.YtkhhmjikohonfaaWInvWords
import Derived.Test.YtkhhmjikohonfaaWGuard
import Derived.Test.YtkhhmjikohonfaaWNEv
import Derived.Test.YtkhhmjikohonfaaWMore
namespace Go.Proofs.Ytkhhmjikohonfaa.PUtfLetters
open Go.RowKit Go.Proofs.YtkhhmjikohonfaaW.PrintWords Go.Proofs.YtkhhmjikohonfaaW.PrintLast Go.Proofs.YtkhhmjikohonfaaW.PrintMore
attribute [local go_sem] max2_int min2_int max_two min_two max_three min_three max_four min_four   -- for this text's walks alone
set_option linter.unusedVariables false
set_option linter.unusedSimpArgs false



def errW : Option Int → Value
  | none => .nilIface
  | some c => .iface 0 (.int .i64 c)
theorem errW_none : errW none = .nilIface := rfl
theorem errW_some (c : Int) : errW (some c) = .iface 0 (.int .i64 c) := rfl

-- the values' own types

end Go.Proofs.Ytkhhmjikohonfaa.PUtfLetters
