/-
  NARROWER THAN 'FOR EVERY INPUT', by the rows' own cells (each row's printed sentence says how): LogicBits: laid · LogicTurns: laid · LogicSets: laid · LogicDecimal: laid.
  DERIVED. THE GIVEN ROWS OF THIS SEAT. 4 by the template 'for every input the law returns true; each argument reads behind the call as it read before'; 0 by the template 'total and deterministic' (their statements: YtkphidaoodedjaaDoorTotals.lean).
  GIVEN WITH THE SEED: the statements are not yours to turn. If you find one false, say at which input.
  Laid BY PROGRAM, IN A SANDBOX (cutbox-rows.mjs): the forced cells as the released guide's own fill.sh prints them over the translation d85826578a42863c… (all of the seat's roots in one cut). By AI agents, Wed Nov 11 2026. No macro, syntax, notation, axiom, sorry.
-/
import Derived.Test.YtkphidaoodedjaaDoorChecked
import GoSem.Claim
import GoSem.ClaimJoined
import GoSem.ClaimMapViews
import Derived.JoinedTies
import Derived.KernelRfl
namespace Go.Proofs.YtkphidaoodedjaaDoor
/- THE CELL 'sum', in the pinned program and in every row, IS THE sha256 OF THE DUMP (.gsa) THAT YtkphidaoodedjaaDoorProg.lean LOADS. Nothing in Lean hashes anything: it is a label: what it is worth is what the hold of that sum in a sandbox is worth. -/
noncomputable def Tryd.pinned : Pinned := { name := "ytkphidaoodedjaadoor", sum := "d85826578a42863c55e23098f7a466626703d56f4b1cad4ac60dff39836c590e", checked := Tryd.checked }
namespace Rows
def none {H : Type} : Left H := { results := [], args := [] }

/- WHAT THE LISTED PACKAGE-LEVEL VARIABLES READ AS WHEN THE CALL BEGINS. Each datum BY PROGRAM (the guide's laid-datum.mjs) off the statement by which the dump's own 'gosem.cut.vars' lays the variable. In a bare row this is a premise. The card (YtkphidaoodedjaaDoorCards.lean) ties it to the program's text. -/
def laid_charabanc_logic_right {H : Type} : DataW H := .agg [.lit (.int .u8 0), .lit (.int .u8 6), .lit (.int .u8 96), .lit (.int .u8 102)]

/-- 'charabanclaw05.LogicBits': WHATEVER THE INPUT: true; the input reads as it did. -/
def logicBitsSpec : ChangeSpec := { name := "logicBits", fn := fun _ => fun
  | [d1, d2] => { results := [.lit (.bool true)], args := [d1, d2] }
  | _ => none }
def logicBitsRow : OpenClaim := { program := "ytkphidaoodedjaadoor", sum := "d85826578a42863c55e23098f7a466626703d56f4b1cad4ac60dff39836c590e", func := "charabanc/charabanclaw05.LogicBits", spec := "logicBits", unfollowed := true, recurses := true, named := ["charabanc/logic.right"], apart := false, laid := [("charabanc/logic.right", laid_charabanc_logic_right)] }
def LogicBitsSaid : Prop := logicBitsRow.holds Tryd.pinned (OpenSpec.ofChange logicBitsSpec)

/-- ITS FALSE NEIGHBOUR: 'it returns false'. Refute it at one input. -/
def logicBitsWrong : ChangeSpec := { name := "logicBits", fn := fun _ => fun
  | [d1, d2] => { results := [.lit (.bool false)], args := [d1, d2] }
  | _ => none }
def LogicBitsWrongFalsely : Prop := logicBitsRow.holds Tryd.pinned (OpenSpec.ofChange logicBitsWrong)

/-- 'charabanclaw05.LogicTurns': WHATEVER THE INPUT: true; the input reads as it did. -/
def logicTurnsSpec : ChangeSpec := { name := "logicTurns", fn := fun _ => fun
  | [d1, d2] => { results := [.lit (.bool true)], args := [d1, d2] }
  | _ => none }
def logicTurnsRow : OpenClaim := { program := "ytkphidaoodedjaadoor", sum := "d85826578a42863c55e23098f7a466626703d56f4b1cad4ac60dff39836c590e", func := "charabanc/charabanclaw05.LogicTurns", spec := "logicTurns", unfollowed := true, recurses := true, named := ["charabanc/logic.right"], apart := false, laid := [("charabanc/logic.right", laid_charabanc_logic_right)] }
def LogicTurnsSaid : Prop := logicTurnsRow.holds Tryd.pinned (OpenSpec.ofChange logicTurnsSpec)

/-- ITS FALSE NEIGHBOUR: 'it returns false'. Refute it at one input. -/
def logicTurnsWrong : ChangeSpec := { name := "logicTurns", fn := fun _ => fun
  | [d1, d2] => { results := [.lit (.bool false)], args := [d1, d2] }
  | _ => none }
def LogicTurnsWrongFalsely : Prop := logicTurnsRow.holds Tryd.pinned (OpenSpec.ofChange logicTurnsWrong)

/-- 'charabanclaw05.LogicSets': WHATEVER THE INPUT: true; the input reads as it did. -/
def logicSetsSpec : ChangeSpec := { name := "logicSets", fn := fun _ => fun
  | [d1, d2] => { results := [.lit (.bool true)], args := [d1, d2] }
  | _ => none }
def logicSetsRow : OpenClaim := { program := "ytkphidaoodedjaadoor", sum := "d85826578a42863c55e23098f7a466626703d56f4b1cad4ac60dff39836c590e", func := "charabanc/charabanclaw05.LogicSets", spec := "logicSets", unfollowed := true, recurses := true, named := ["charabanc/logic.right"], apart := false, laid := [("charabanc/logic.right", laid_charabanc_logic_right)] }
def LogicSetsSaid : Prop := logicSetsRow.holds Tryd.pinned (OpenSpec.ofChange logicSetsSpec)

/-- ITS FALSE NEIGHBOUR: 'it returns false'. Refute it at one input. -/
def logicSetsWrong : ChangeSpec := { name := "logicSets", fn := fun _ => fun
  | [d1, d2] => { results := [.lit (.bool false)], args := [d1, d2] }
  | _ => none }
def LogicSetsWrongFalsely : Prop := logicSetsRow.holds Tryd.pinned (OpenSpec.ofChange logicSetsWrong)

/-- 'charabanclaw05.LogicDecimal': WHATEVER THE INPUT: true; the input reads as it did. -/
def logicDecimalSpec : ChangeSpec := { name := "logicDecimal", fn := fun _ => fun
  | [d1, d2, d3] => { results := [.lit (.bool true)], args := [d1, d2, d3] }
  | _ => none }
def logicDecimalRow : OpenClaim := { program := "ytkphidaoodedjaadoor", sum := "d85826578a42863c55e23098f7a466626703d56f4b1cad4ac60dff39836c590e", func := "charabanc/charabanclaw05.LogicDecimal", spec := "logicDecimal", unfollowed := true, recurses := true, named := ["charabanc/logic.right"], apart := false, laid := [("charabanc/logic.right", laid_charabanc_logic_right)] }
def LogicDecimalSaid : Prop := logicDecimalRow.holds Tryd.pinned (OpenSpec.ofChange logicDecimalSpec)

/-- ITS FALSE NEIGHBOUR: 'it returns false'. Refute it at one input. -/
def logicDecimalWrong : ChangeSpec := { name := "logicDecimal", fn := fun _ => fun
  | [d1, d2, d3] => { results := [.lit (.bool false)], args := [d1, d2, d3] }
  | _ => none }
def LogicDecimalWrongFalsely : Prop := logicDecimalRow.holds Tryd.pinned (OpenSpec.ofChange logicDecimalWrong)

/- THE SECOND FORM. 'bulk': how many values and letters a reading holds, each counted each time it is reached (what is shared counts as often as it is met; a slice's spare places count too). A statement '..UptoSaid' is the law's where the arguments, and the package variables that the reading takes, are together of bulk at most 1048576: NARROWER than '..Said'. Prove '..Said' where nothing that the law and all that it calls make is longer than what came in: it says more and counts as full. Else prove '..UptoSaid'. A law counts once. -/
mutual
def uptoBulk {H : Type} : DataW H → Nat
  | .lit (.string bytes) => bytes.length + 1
  | .lit _ => 1
  | .nil => 1
  | .ptr d => uptoBulk d + 1
  | .slice elems spare => uptoBulkAll elems + uptoBulkAll spare + 1
  | .agg parts => uptoBulkAll parts + 1
  | .iface _ d => uptoBulk d + 1
  | .map entries => uptoBulkEntries entries + 1
  | .held _ => 1
def uptoBulkAll {H : Type} : List (DataW H) → Nat
  | [] => 0
  | d :: r => uptoBulk d + uptoBulkAll r
def uptoBulkEntries {H : Type} : List (Lit × DataW H) → Nat
  | [] => 0
  | x :: r => uptoBulkEntry x + uptoBulkEntries r
def uptoBulkEntry {H : Type} : Lit × DataW H → Nat
  | (.string bytes, d) => bytes.length + uptoBulk d + 1
  | (_, d) => uptoBulk d + 1
 end
def uptoSmall : (H : Type) → List (DataW H) → Bool := fun _ ds => decide (uptoBulkAll ds ≤ 1048576)
def OpenSpec.upto (s : _root_.Go.ChangeSpec) : _root_.Go.OpenSpec := { _root_.Go.OpenSpec.ofChange s with cond := some uptoSmall }

/-- 'charabanclaw05.LogicBits', WHERE WHAT IT READS IS OF BULK AT MOST 1048576: true; the input reads as it did. -/
def logicBitsUptoRow : OpenClaim := { program := "ytkphidaoodedjaadoor", sum := "d85826578a42863c55e23098f7a466626703d56f4b1cad4ac60dff39836c590e", func := "charabanc/charabanclaw05.LogicBits", spec := "logicBits", unfollowed := true, recurses := true, named := ["charabanc/logic.right"], apart := false, laid := [("charabanc/logic.right", laid_charabanc_logic_right)], narrowed := true }
def LogicBitsUptoSaid : Prop := logicBitsUptoRow.holds Tryd.pinned (OpenSpec.upto logicBitsSpec)

/-- 'charabanclaw05.LogicTurns', WHERE WHAT IT READS IS OF BULK AT MOST 1048576: true; the input reads as it did. -/
def logicTurnsUptoRow : OpenClaim := { program := "ytkphidaoodedjaadoor", sum := "d85826578a42863c55e23098f7a466626703d56f4b1cad4ac60dff39836c590e", func := "charabanc/charabanclaw05.LogicTurns", spec := "logicTurns", unfollowed := true, recurses := true, named := ["charabanc/logic.right"], apart := false, laid := [("charabanc/logic.right", laid_charabanc_logic_right)], narrowed := true }
def LogicTurnsUptoSaid : Prop := logicTurnsUptoRow.holds Tryd.pinned (OpenSpec.upto logicTurnsSpec)

/-- 'charabanclaw05.LogicSets', WHERE WHAT IT READS IS OF BULK AT MOST 1048576: true; the input reads as it did. -/
def logicSetsUptoRow : OpenClaim := { program := "ytkphidaoodedjaadoor", sum := "d85826578a42863c55e23098f7a466626703d56f4b1cad4ac60dff39836c590e", func := "charabanc/charabanclaw05.LogicSets", spec := "logicSets", unfollowed := true, recurses := true, named := ["charabanc/logic.right"], apart := false, laid := [("charabanc/logic.right", laid_charabanc_logic_right)], narrowed := true }
def LogicSetsUptoSaid : Prop := logicSetsUptoRow.holds Tryd.pinned (OpenSpec.upto logicSetsSpec)

/-- 'charabanclaw05.LogicDecimal', WHERE WHAT IT READS IS OF BULK AT MOST 1048576: true; the input reads as it did. -/
def logicDecimalUptoRow : OpenClaim := { program := "ytkphidaoodedjaadoor", sum := "d85826578a42863c55e23098f7a466626703d56f4b1cad4ac60dff39836c590e", func := "charabanc/charabanclaw05.LogicDecimal", spec := "logicDecimal", unfollowed := true, recurses := true, named := ["charabanc/logic.right"], apart := false, laid := [("charabanc/logic.right", laid_charabanc_logic_right)], narrowed := true }
def LogicDecimalUptoSaid : Prop := logicDecimalUptoRow.holds Tryd.pinned (OpenSpec.upto logicDecimalSpec)

end Rows
end Go.Proofs.YtkphidaoodedjaaDoor
