/- Written by a program of this session out of the translation and the contracts proved by hand: each function's answer and its proof; each law's statement over plain numbers. -/
import Derived.Test.YthidmlnoiginiaaProg
import Derived.Below
import Derived.Deep.Draws
import Derived.Deep.AppendLies
import Derived.Maps.AppendAt
import Derived.OwnWalk
import Derived.Laws.BytesArg
import Derived.Laws.MakeOwn
import Derived.Laws.OwnMore
import Derived.Deep.OwnRows
import Derived.Tactics
import Derived.Lib.ConvBytes
import Derived.Laws.Slices
import Derived.WalkKit
import Derived.KernelRfl
import Derived.RowKit3
import Derived.Deep.LoopGhost
import Derived.Deep.QuietTactic
import Derived.BigQuiet
import Derived.WideLaws
import Derived.Deep.DeepCutAuto
import Derived.Deep.CutBlock
import Derived.Deep.RegionHeld3
import Derived.Laws.Rows
import Derived.Lib.AppendStr
import Derived.ArgAppend
import Derived.Laws.IdiomCopy
import Derived.OrdersHeld
import Derived.Laws.BitsLemmas
import Derived.RowKit
import Derived.Test.YthidmlnoiginiaaRef03
import Derived.Test.YthidmlnoiginiaaWWords
import Derived.Test.YthidmlnoiginiaaWLast
import Derived.Test.YthidmlnoiginiaaWTab
import Derived.Test.YthidmlnoiginiaaWFour
import Derived.Test.YthidmlnoiginiaaWQPut
import Derived.Test.YthidmlnoiginiaaWApart
import Derived.Test.YthidmlnoiginiaaWArr
import Derived.Test.YthidmlnoiginiaaWZeros
import Derived.Test.YthidmlnoiginiaaWFoot
import Derived.Test.YthidmlnoiginiaaWKept
import Derived.Test.YthidmlnoiginiaaWShare
import Derived.Test.YthidmlnoiginiaaWN
import Derived.Test.YthidmlnoiginiaaWFootNe
import Derived.Test.YthidmlnoiginiaaWAt
import Derived.Test.YthidmlnoiginiaaWEqStruct
import Derived.Test.YthidmlnoiginiaaWRepsOne
import Derived.Test.YthidmlnoiginiaaWInv
import Derived.Test.YthidmlnoiginiaaWInvWords
import Derived.Test.YthidmlnoiginiaaWGuard
import Derived.Test.YthidmlnoiginiaaWNEv
import Derived.Test.YthidmlnoiginiaaWMore
namespace Go.Proofs.Ythidmlnoiginiaa.PS
open Go.RowKit Go.Proofs.YthidmlnoiginiaaW.PrintWords Go.Proofs.YthidmlnoiginiaaW.PrintLast Go.Proofs.YthidmlnoiginiaaW.PrintMore
attribute [local go_sem] max2_int min2_int max_two min_two max_three min_three max_four min_four   -- for this text's walks alone
set_option linter.unusedVariables false
set_option linter.unusedSimpArgs false



def errW : Option Int → Value
  | none => .nilIface
  | some c => .iface 0 (.int .i64 c)
theorem errW_none : errW none = .nilIface := rfl
theorem errW_some (c : Int) : errW (some c) = .iface 0 (.int .i64 c) := rfl

theorem info5 : (Try.prog.info? 5).map (fun i => (i.zero, i.size, i.bytes)) = some (some (.int .u8 0), 1, 1) := by kernel_rfl
-- the values' own types

end Go.Proofs.Ythidmlnoiginiaa.PS
