-- Written by hprint.py (the kit's printer, with functions that are given). Lean checks it.
import Derived.Test.YtkcoabnghdlboaaProg
import Derived.Below
import Derived.Deep.Draws
import Derived.Deep.AppendLies
import Derived.Maps.AppendAt
import Derived.OwnWalk
import Derived.Laws.BytesArg
import Derived.Laws.MakeOwn
import Derived.Laws.OwnMore
import Derived.Deep.OwnRows
import Derived.Tactics
import Derived.Lib.ConvBytes
import Derived.Laws.Slices
import Derived.WalkKit
import Derived.KernelRfl
import Derived.RowKit3
import Derived.Deep.LoopGhost
import Derived.Deep.QuietTactic
import Derived.BigQuiet
import Derived.WideLaws
import Derived.Deep.DeepCutAuto
import Derived.Deep.CutBlock
import Derived.Deep.RegionHeld3
import Derived.Laws.Rows
import Derived.Lib.AppendStr
import Derived.ArgAppend
import Derived.Laws.IdiomCopy
import Derived.OrdersHeld
import Derived.Laws.BitsLemmas
import Derived.RowKit
import Derived.Test.YtkcoabnghdlboaaWWords
import Derived.Test.YtkcoabnghdlboaaWLast
import Derived.Test.YtkcoabnghdlboaaWTab
import Derived.Test.YtkcoabnghdlboaaWFour
import Derived.Test.YtkcoabnghdlboaaWQPut
import Derived.Test.YtkcoabnghdlboaaWApart
import Derived.Test.YtkcoabnghdlboaaWArr
import Derived.Test.YtkcoabnghdlboaaWZeros
import Derived.Test.YtkcoabnghdlboaaWFoot
import Derived.Test.YtkcoabnghdlboaaWKept
import Derived.Test.YtkcoabnghdlboaaWShare
import Derived.Test.YtkcoabnghdlboaaWN
import Derived.Test.YtkcoabnghdlboaaWFootNe
import Derived.Test.YtkcoabnghdlboaaWAt
import Derived.Test.YtkcoabnghdlboaaWEqStruct
import Derived.Test.YtkcoabnghdlboaaWRepsOne
import Derived.Test.YtkcoabnghdlboaaWInv
import Derived.Test.YtkcoabnghdlboaaWInvWords
import Derived.Test.YtkcoabnghdlboaaWGuard
import Derived.Test.YtkcoabnghdlboaaWNEv
import Derived.Test.YtkcoabnghdlboaaWMore
namespace Go.Proofs.Ytkcoabnghdlboaa.Q
open Go.RowKit Go.Proofs.YtkcoabnghdlboaaW.PrintWords Go.Proofs.YtkcoabnghdlboaaW.PrintLast Go.Proofs.YtkcoabnghdlboaaW.PrintMore
attribute [local go_sem] max2_int min2_int max_two min_two max_three min_three max_four min_four   -- for this text's walks alone
set_option linter.unusedVariables false
set_option linter.unusedSimpArgs false



def errW : Option Int → Value
  | none => .nilIface
  | some c => .iface 0 (.int .i64 c)
theorem errW_none : errW none = .nilIface := rfl
theorem errW_some (c : Int) : errW (some c) = .iface 0 (.int .i64 c) := rfl

-- the values' own types

end Go.Proofs.Ytkcoabnghdlboaa.Q
