/- Written by a program of this session out of the translation and the contracts proved by hand: each function's answer and its proof; each law's statement over plain numbers. -/
import Derived.Test.YtkphidaoodedjaaProg
import Derived.Below
import Derived.Deep.Draws
import Derived.Deep.AppendLies
import Derived.Maps.AppendAt
import Derived.OwnWalk
import Derived.Laws.BytesArg
import Derived.Laws.MakeOwn
import Derived.Laws.OwnMore
import Derived.Deep.OwnRows
import Derived.Tactics
import Derived.Lib.ConvBytes
import Derived.Laws.Slices
import Derived.WalkKit
import Derived.KernelRfl
import Derived.RowKit3
import Derived.Deep.LoopGhost
import Derived.Deep.QuietTactic
import Derived.BigQuiet
import Derived.WideLaws
import Derived.Deep.DeepCutAuto
import Derived.Deep.CutBlock
import Derived.Deep.RegionHeld3
import Derived.Laws.Rows
import Derived.Lib.AppendStr
import Derived.ArgAppend
import Derived.Laws.IdiomCopy
import Derived.OrdersHeld
import Derived.Laws.BitsLemmas
import Derived.RowKit
import Derived.Test.YtkphidaoodedjaaShift
import Derived.Test.YtkphidaoodedjaaBitsIter
import Derived.Test.YtkphidaoodedjaaRef02Even
import Derived.Test.YtkphidaoodedjaaRef06
import Derived.Test.YtkphidaoodedjaaRef06Acc
import Derived.Test.YtkphidaoodedjaaWWords
import Derived.Test.YtkphidaoodedjaaWLast
import Derived.Test.YtkphidaoodedjaaWTab
import Derived.Test.YtkphidaoodedjaaWFour
import Derived.Test.YtkphidaoodedjaaWQPut
import Derived.Test.YtkphidaoodedjaaWApart
import Derived.Test.YtkphidaoodedjaaWArr
import Derived.Test.YtkphidaoodedjaaWZeros
import Derived.Test.YtkphidaoodedjaaWFoot
import Derived.Test.YtkphidaoodedjaaWKept
import Derived.Test.YtkphidaoodedjaaWShare
import Derived.Test.YtkphidaoodedjaaWN
import Derived.Test.YtkphidaoodedjaaWFootNe
import Derived.Test.YtkphidaoodedjaaWAt
import Derived.Test.YtkphidaoodedjaaWEqStruct
import Derived.Test.YtkphidaoodedjaaWRepsOne
import Derived.Test.YtkphidaoodedjaaWInv
import Derived.Test.YtkphidaoodedjaaWInvWords
import Derived.Test.YtkphidaoodedjaaWGuard
import Derived.Test.YtkphidaoodedjaaWNEv
import Derived.Test.YtkphidaoodedjaaWMore
namespace Go.Proofs.Ytkphidaoodedjaa.PT
open Go.RowKit Go.Proofs.YtkphidaoodedjaaW.PrintWords Go.Proofs.YtkphidaoodedjaaW.PrintLast Go.Proofs.YtkphidaoodedjaaW.PrintMore
attribute [local go_sem] max2_int min2_int max_two min_two max_three min_three max_four min_four   -- for this text's walks alone
set_option linter.unusedVariables false
set_option linter.unusedSimpArgs false



def errW : Option Int → Value
  | none => .nilIface
  | some c => .iface 0 (.int .i64 c)
theorem errW_none : errW none = .nilIface := rfl
theorem errW_some (c : Int) : errW (some c) = .iface 0 (.int .i64 c) := rfl

-- the values' own types

end Go.Proofs.Ytkphidaoodedjaa.PT
