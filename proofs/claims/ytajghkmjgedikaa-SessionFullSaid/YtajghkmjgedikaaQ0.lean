-- Written by hprint.py (the kit's printer, with functions that are given). Lean checks it.
import Derived.Test.YtajghkmjgedikaaProg
import Derived.Below
import Derived.Deep.Draws
import Derived.Deep.AppendLies
import Derived.Maps.AppendAt
import Derived.OwnWalk
import Derived.Laws.BytesArg
import Derived.Laws.MakeOwn
import Derived.Laws.OwnMore
import Derived.Deep.OwnRows
import Derived.Tactics
import Derived.Lib.ConvBytes
import Derived.Laws.Slices
import Derived.WalkKit
import Derived.KernelRfl
import Derived.RowKit3
import Derived.Deep.LoopGhost
import Derived.Deep.QuietTactic
import Derived.BigQuiet
import Derived.WideLaws
import Derived.Deep.DeepCutAuto
import Derived.Deep.CutBlock
import Derived.Deep.RegionHeld3
import Derived.Laws.Rows
import Derived.Lib.AppendStr
import Derived.ArgAppend
import Derived.Laws.IdiomCopy
import Derived.OrdersHeld
import Derived.Laws.BitsLemmas
import Derived.RowKit
import Derived.Test.YtajghkmjgedikaaWWords
import Derived.Test.YtajghkmjgedikaaWLast
import Derived.Test.YtajghkmjgedikaaWTab
import Derived.Test.YtajghkmjgedikaaWFour
import Derived.Test.YtajghkmjgedikaaWQPut
import Derived.Test.YtajghkmjgedikaaWApart
import Derived.Test.YtajghkmjgedikaaWArr
import Derived.Test.YtajghkmjgedikaaWZeros
import Derived.Test.YtajghkmjgedikaaWFoot
import Derived.Test.YtajghkmjgedikaaWKept
import Derived.Test.YtajghkmjgedikaaWShare
import Derived.Test.YtajghkmjgedikaaWN
import Derived.Test.YtajghkmjgedikaaWFootNe
import Derived.Test.YtajghkmjgedikaaWAt
import Derived.Test.YtajghkmjgedikaaWEqStruct
import Derived.Test.YtajghkmjgedikaaWRepsOne
import Derived.Test.YtajghkmjgedikaaWInv
import Derived.Test.YtajghkmjgedikaaWInvWords
import Derived.Test.YtajghkmjgedikaaWGuard
import Derived.Test.YtajghkmjgedikaaWNEv
import Derived.Test.YtajghkmjgedikaaWMore
namespace Go.Proofs.Ytajghkmjgedikaa.Q
open Go.RowKit Go.Proofs.YtajghkmjgedikaaW.PrintWords Go.Proofs.YtajghkmjgedikaaW.PrintLast Go.Proofs.YtajghkmjgedikaaW.PrintMore
attribute [local go_sem] max2_int min2_int max_two min_two max_three min_three max_four min_four   -- for this text's walks alone
set_option linter.unusedVariables false
set_option linter.unusedSimpArgs false



def errW : Option Int → Value
  | none => .nilIface
  | some c => .iface 0 (.int .i64 c)
theorem errW_none : errW none = .nilIface := rfl
theorem errW_some (c : Int) : errW (some c) = .iface 0 (.int .i64 c) := rfl

-- the values' own types

end Go.Proofs.Ytajghkmjgedikaa.Q
