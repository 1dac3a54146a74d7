/- Written by a program of this session out of the translation and the contracts proved by hand: each function's answer and its proof; each law's statement over plain numbers. -/
import Derived.Test.YtkphidaoodedjaaDoorProg
import Derived.Below
import Derived.Deep.Draws
import Derived.Deep.AppendLies
import Derived.Maps.AppendAt
import Derived.OwnWalk
import Derived.Laws.BytesArg
import Derived.Laws.MakeOwn
import Derived.Laws.OwnMore
import Derived.Deep.OwnRows
import Derived.Tactics
import Derived.Lib.ConvBytes
import Derived.Laws.Slices
import Derived.WalkKit
import Derived.KernelRfl
import Derived.RowKit3
import Derived.Deep.LoopGhost
import Derived.Deep.QuietTactic
import Derived.BigQuiet
import Derived.WideLaws
import Derived.Deep.DeepCutAuto
import Derived.Deep.CutBlock
import Derived.Deep.RegionHeld3
import Derived.Laws.Rows
import Derived.Lib.AppendStr
import Derived.ArgAppend
import Derived.Laws.IdiomCopy
import Derived.OrdersHeld
import Derived.Laws.BitsLemmas
import Derived.RowKit
import Derived.Test.YtkphidaoodedjaaDoorLogicDaa
import Derived.Test.YtkphidaoodedjaaDoorLogicCpl
import Derived.Test.YtkphidaoodedjaaDoorAgainst
import Derived.Test.YtkphidaoodedjaaDoorRef05
import Derived.Test.YtkphidaoodedjaaDoorRef02Even
import Derived.Test.YtkphidaoodedjaaDoorRef03
import Derived.Test.YtkphidaoodedjaaDoorWWords
import Derived.Test.YtkphidaoodedjaaDoorWLast
import Derived.Test.YtkphidaoodedjaaDoorWTab
import Derived.Test.YtkphidaoodedjaaDoorWFour
import Derived.Test.YtkphidaoodedjaaDoorWQPut
import Derived.Test.YtkphidaoodedjaaDoorWApart
import Derived.Test.YtkphidaoodedjaaDoorWArr
import Derived.Test.YtkphidaoodedjaaDoorWZeros
import Derived.Test.YtkphidaoodedjaaDoorWFoot
import Derived.Test.YtkphidaoodedjaaDoorWKept
import Derived.Test.YtkphidaoodedjaaDoorWShare
import Derived.Test.YtkphidaoodedjaaDoorWN
import Derived.Test.YtkphidaoodedjaaDoorWFootNe
import Derived.Test.YtkphidaoodedjaaDoorWAt
import Derived.Test.YtkphidaoodedjaaDoorWEqStruct
import Derived.Test.YtkphidaoodedjaaDoorWRepsOne
import Derived.Test.YtkphidaoodedjaaDoorWInv
import Derived.Test.YtkphidaoodedjaaDoorWInvWords
import Derived.Test.YtkphidaoodedjaaDoorWGuard
import Derived.Test.YtkphidaoodedjaaDoorWNEv
import Derived.Test.YtkphidaoodedjaaDoorWMore
namespace Go.Proofs.YtkphidaoodedjaaDoor.PD
open Go.RowKit Go.Proofs.YtkphidaoodedjaaDoorW.PrintWords Go.Proofs.YtkphidaoodedjaaDoorW.PrintLast Go.Proofs.YtkphidaoodedjaaDoorW.PrintMore
attribute [local go_sem] max2_int min2_int max_two min_two max_three min_three max_four min_four   -- for this text's walks alone
set_option linter.unusedVariables false
set_option linter.unusedSimpArgs false



def errW : Option Int → Value
  | none => .nilIface
  | some c => .iface 0 (.int .i64 c)
theorem errW_none : errW none = .nilIface := rfl
theorem errW_some (c : Int) : errW (some c) = .iface 0 (.int .i64 c) := rfl

-- the values' own types

end Go.Proofs.YtkphidaoodedjaaDoor.PD
