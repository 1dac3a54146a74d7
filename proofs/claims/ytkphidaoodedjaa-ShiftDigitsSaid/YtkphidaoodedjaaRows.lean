/-
  No cell of these rows narrows 'for every input' (looked for: loops, veiled, ifaces, maps, wideKeys, modest, calm, conditions, laid).
  DERIVED. THE GIVEN ROWS OF THIS SEAT. 8 by the template 'for every input the law returns true; each argument reads behind the call as it read before'; 0 by the template 'total and deterministic' (their statements: YtkphidaoodedjaaTotals.lean).
  GIVEN WITH THE SEED: the statements are not yours to turn. If you find one false, say at which input.
  Laid BY PROGRAM, IN A SANDBOX (cutbox-rows.mjs): the forced cells as the released guide's own fill.sh prints them over the translation 6ba2c1490d4fc1b8… (all of the seat's roots in one cut). By AI agents, Wed Nov 11 2026. No macro, syntax, notation, axiom, sorry.
-/
import Derived.Test.YtkphidaoodedjaaChecked
import GoSem.Claim
import GoSem.ClaimJoined
import GoSem.ClaimMapViews
import Derived.JoinedTies
import Derived.KernelRfl
namespace Go.Proofs.Ytkphidaoodedjaa
/- THE CELL 'sum', in the pinned program and in every row, IS THE sha256 OF THE DUMP (.gsa) THAT YtkphidaoodedjaaProg.lean LOADS. Nothing in Lean hashes anything: it is a label: what it is worth is what the hold of that sum in a sandbox is worth. -/
noncomputable def Try.pinned : Pinned := { name := "ytkphidaoodedjaa", sum := "6ba2c1490d4fc1b883ce3af0674122561ba6b53686f033088abc49a6a0ecfff6", checked := Try.checked }
namespace Rows
def none {H : Type} : Left H := { results := [], args := [] }

/-- 'charabanclaw07.BlockMoves': WHATEVER THE INPUT: true; the input reads as it did. -/
def blockMovesSpec : ChangeSpec := { name := "blockMoves", fn := fun _ => fun
  | [d1, d2, d3] => { results := [.lit (.bool true)], args := [d1, d2, d3] }
  | _ => none }
def blockMovesRow : OpenClaim := { program := "ytkphidaoodedjaa", sum := "6ba2c1490d4fc1b883ce3af0674122561ba6b53686f033088abc49a6a0ecfff6", func := "charabanc/charabanclaw07.BlockMoves", spec := "blockMoves", unfollowed := true, recurses := true, apart := false }
def BlockMovesSaid : Prop := blockMovesRow.holds Try.pinned (OpenSpec.ofChange blockMovesSpec)

/-- ITS FALSE NEIGHBOUR: 'it returns false'. Refute it at one input. -/
def blockMovesWrong : ChangeSpec := { name := "blockMoves", fn := fun _ => fun
  | [d1, d2, d3] => { results := [.lit (.bool false)], args := [d1, d2, d3] }
  | _ => none }
def BlockMovesWrongFalsely : Prop := blockMovesRow.holds Try.pinned (OpenSpec.ofChange blockMovesWrong)

/-- 'charabanclaw07.BlockTakes': WHATEVER THE INPUT: true; the input reads as it did. -/
def blockTakesSpec : ChangeSpec := { name := "blockTakes", fn := fun _ => fun
  | [d1, d2, d3] => { results := [.lit (.bool true)], args := [d1, d2, d3] }
  | _ => none }
def blockTakesRow : OpenClaim := { program := "ytkphidaoodedjaa", sum := "6ba2c1490d4fc1b883ce3af0674122561ba6b53686f033088abc49a6a0ecfff6", func := "charabanc/charabanclaw07.BlockTakes", spec := "blockTakes", unfollowed := true, recurses := true, apart := false }
def BlockTakesSaid : Prop := blockTakesRow.holds Try.pinned (OpenSpec.ofChange blockTakesSpec)

/-- ITS FALSE NEIGHBOUR: 'it returns false'. Refute it at one input. -/
def blockTakesWrong : ChangeSpec := { name := "blockTakes", fn := fun _ => fun
  | [d1, d2, d3] => { results := [.lit (.bool false)], args := [d1, d2, d3] }
  | _ => none }
def BlockTakesWrongFalsely : Prop := blockTakesRow.holds Try.pinned (OpenSpec.ofChange blockTakesWrong)

/-- 'charabanclaw07.BlockGoes': WHATEVER THE INPUT: true; the input reads as it did. -/
def blockGoesSpec : ChangeSpec := { name := "blockGoes", fn := fun _ => fun
  | [d1, d2, d3] => { results := [.lit (.bool true)], args := [d1, d2, d3] }
  | _ => none }
def blockGoesRow : OpenClaim := { program := "ytkphidaoodedjaa", sum := "6ba2c1490d4fc1b883ce3af0674122561ba6b53686f033088abc49a6a0ecfff6", func := "charabanc/charabanclaw07.BlockGoes", spec := "blockGoes", unfollowed := true, recurses := true, apart := false }
def BlockGoesSaid : Prop := blockGoesRow.holds Try.pinned (OpenSpec.ofChange blockGoesSpec)

/-- ITS FALSE NEIGHBOUR: 'it returns false'. Refute it at one input. -/
def blockGoesWrong : ChangeSpec := { name := "blockGoes", fn := fun _ => fun
  | [d1, d2, d3] => { results := [.lit (.bool false)], args := [d1, d2, d3] }
  | _ => none }
def BlockGoesWrongFalsely : Prop := blockGoesRow.holds Try.pinned (OpenSpec.ofChange blockGoesWrong)

/-- 'charabanclaw07.BlockKept': WHATEVER THE INPUT: true; the input reads as it did. -/
def blockKeptSpec : ChangeSpec := { name := "blockKept", fn := fun _ => fun
  | [d1, d2, d3] => { results := [.lit (.bool true)], args := [d1, d2, d3] }
  | _ => none }
def blockKeptRow : OpenClaim := { program := "ytkphidaoodedjaa", sum := "6ba2c1490d4fc1b883ce3af0674122561ba6b53686f033088abc49a6a0ecfff6", func := "charabanc/charabanclaw07.BlockKept", spec := "blockKept", unfollowed := true, recurses := true, apart := false }
def BlockKeptSaid : Prop := blockKeptRow.holds Try.pinned (OpenSpec.ofChange blockKeptSpec)

/-- ITS FALSE NEIGHBOUR: 'it returns false'. Refute it at one input. -/
def blockKeptWrong : ChangeSpec := { name := "blockKept", fn := fun _ => fun
  | [d1, d2, d3] => { results := [.lit (.bool false)], args := [d1, d2, d3] }
  | _ => none }
def BlockKeptWrongFalsely : Prop := blockKeptRow.holds Try.pinned (OpenSpec.ofChange blockKeptWrong)

/-- 'charabanclaw06.ShiftDoes': WHATEVER THE INPUT: true; the input reads as it did. -/
def shiftDoesSpec : ChangeSpec := { name := "shiftDoes", fn := fun _ => fun
  | [d1, d2, d3] => { results := [.lit (.bool true)], args := [d1, d2, d3] }
  | _ => none }
def shiftDoesRow : OpenClaim := { program := "ytkphidaoodedjaa", sum := "6ba2c1490d4fc1b883ce3af0674122561ba6b53686f033088abc49a6a0ecfff6", func := "charabanc/charabanclaw06.ShiftDoes", spec := "shiftDoes", unfollowed := true, recurses := true, apart := false }
def ShiftDoesSaid : Prop := shiftDoesRow.holds Try.pinned (OpenSpec.ofChange shiftDoesSpec)

/-- ITS FALSE NEIGHBOUR: 'it returns false'. Refute it at one input. -/
def shiftDoesWrong : ChangeSpec := { name := "shiftDoes", fn := fun _ => fun
  | [d1, d2, d3] => { results := [.lit (.bool false)], args := [d1, d2, d3] }
  | _ => none }
def ShiftDoesWrongFalsely : Prop := shiftDoesRow.holds Try.pinned (OpenSpec.ofChange shiftDoesWrong)

/-- 'charabanclaw06.ShiftDigits': WHATEVER THE INPUT: true; the input reads as it did. -/
def shiftDigitsSpec : ChangeSpec := { name := "shiftDigits", fn := fun _ => fun
  | [d1, d2, d3] => { results := [.lit (.bool true)], args := [d1, d2, d3] }
  | _ => none }
def shiftDigitsRow : OpenClaim := { program := "ytkphidaoodedjaa", sum := "6ba2c1490d4fc1b883ce3af0674122561ba6b53686f033088abc49a6a0ecfff6", func := "charabanc/charabanclaw06.ShiftDigits", spec := "shiftDigits", unfollowed := true, recurses := true, apart := false }
def ShiftDigitsSaid : Prop := shiftDigitsRow.holds Try.pinned (OpenSpec.ofChange shiftDigitsSpec)

/-- ITS FALSE NEIGHBOUR: 'it returns false'. Refute it at one input. -/
def shiftDigitsWrong : ChangeSpec := { name := "shiftDigits", fn := fun _ => fun
  | [d1, d2, d3] => { results := [.lit (.bool false)], args := [d1, d2, d3] }
  | _ => none }
def ShiftDigitsWrongFalsely : Prop := shiftDigitsRow.holds Try.pinned (OpenSpec.ofChange shiftDigitsWrong)

/-- 'charabanclaw06.ShiftBack': WHATEVER THE INPUT: true; the input reads as it did. -/
def shiftBackSpec : ChangeSpec := { name := "shiftBack", fn := fun _ => fun
  | [d1, d2, d3] => { results := [.lit (.bool true)], args := [d1, d2, d3] }
  | _ => none }
def shiftBackRow : OpenClaim := { program := "ytkphidaoodedjaa", sum := "6ba2c1490d4fc1b883ce3af0674122561ba6b53686f033088abc49a6a0ecfff6", func := "charabanc/charabanclaw06.ShiftBack", spec := "shiftBack", unfollowed := true, recurses := true, apart := false }
def ShiftBackSaid : Prop := shiftBackRow.holds Try.pinned (OpenSpec.ofChange shiftBackSpec)

/-- ITS FALSE NEIGHBOUR: 'it returns false'. Refute it at one input. -/
def shiftBackWrong : ChangeSpec := { name := "shiftBack", fn := fun _ => fun
  | [d1, d2, d3] => { results := [.lit (.bool false)], args := [d1, d2, d3] }
  | _ => none }
def ShiftBackWrongFalsely : Prop := shiftBackRow.holds Try.pinned (OpenSpec.ofChange shiftBackWrong)

/-- 'charabanclaw06.ShiftRound': WHATEVER THE INPUT: true; the input reads as it did. -/
def shiftRoundSpec : ChangeSpec := { name := "shiftRound", fn := fun _ => fun
  | [d1, d2, d3] => { results := [.lit (.bool true)], args := [d1, d2, d3] }
  | _ => none }
def shiftRoundRow : OpenClaim := { program := "ytkphidaoodedjaa", sum := "6ba2c1490d4fc1b883ce3af0674122561ba6b53686f033088abc49a6a0ecfff6", func := "charabanc/charabanclaw06.ShiftRound", spec := "shiftRound", unfollowed := true, recurses := true, apart := false }
def ShiftRoundSaid : Prop := shiftRoundRow.holds Try.pinned (OpenSpec.ofChange shiftRoundSpec)

/-- ITS FALSE NEIGHBOUR: 'it returns false'. Refute it at one input. -/
def shiftRoundWrong : ChangeSpec := { name := "shiftRound", fn := fun _ => fun
  | [d1, d2, d3] => { results := [.lit (.bool false)], args := [d1, d2, d3] }
  | _ => none }
def ShiftRoundWrongFalsely : Prop := shiftRoundRow.holds Try.pinned (OpenSpec.ofChange shiftRoundWrong)

/- THE SECOND FORM. 'bulk': how many values and letters a reading holds, each counted each time it is reached (what is shared counts as often as it is met; a slice's spare places count too). A statement '..UptoSaid' is the law's where the arguments, and the package variables that the reading takes, are together of bulk at most 1048576: NARROWER than '..Said'. Prove '..Said' where nothing that the law and all that it calls make is longer than what came in: it says more and counts as full. Else prove '..UptoSaid'. A law counts once. -/
mutual
def uptoBulk {H : Type} : DataW H → Nat
  | .lit (.string bytes) => bytes.length + 1
  | .lit _ => 1
  | .nil => 1
  | .ptr d => uptoBulk d + 1
  | .slice elems spare => uptoBulkAll elems + uptoBulkAll spare + 1
  | .agg parts => uptoBulkAll parts + 1
  | .iface _ d => uptoBulk d + 1
  | .map entries => uptoBulkEntries entries + 1
  | .held _ => 1
def uptoBulkAll {H : Type} : List (DataW H) → Nat
  | [] => 0
  | d :: r => uptoBulk d + uptoBulkAll r
def uptoBulkEntries {H : Type} : List (Lit × DataW H) → Nat
  | [] => 0
  | x :: r => uptoBulkEntry x + uptoBulkEntries r
def uptoBulkEntry {H : Type} : Lit × DataW H → Nat
  | (.string bytes, d) => bytes.length + uptoBulk d + 1
  | (_, d) => uptoBulk d + 1
 end
def uptoSmall : (H : Type) → List (DataW H) → Bool := fun _ ds => decide (uptoBulkAll ds ≤ 1048576)
def OpenSpec.upto (s : _root_.Go.ChangeSpec) : _root_.Go.OpenSpec := { _root_.Go.OpenSpec.ofChange s with cond := some uptoSmall }

/-- 'charabanclaw07.BlockMoves', WHERE WHAT IT READS IS OF BULK AT MOST 1048576: true; the input reads as it did. -/
def blockMovesUptoRow : OpenClaim := { program := "ytkphidaoodedjaa", sum := "6ba2c1490d4fc1b883ce3af0674122561ba6b53686f033088abc49a6a0ecfff6", func := "charabanc/charabanclaw07.BlockMoves", spec := "blockMoves", unfollowed := true, recurses := true, apart := false, narrowed := true }
def BlockMovesUptoSaid : Prop := blockMovesUptoRow.holds Try.pinned (OpenSpec.upto blockMovesSpec)

/-- 'charabanclaw07.BlockTakes', WHERE WHAT IT READS IS OF BULK AT MOST 1048576: true; the input reads as it did. -/
def blockTakesUptoRow : OpenClaim := { program := "ytkphidaoodedjaa", sum := "6ba2c1490d4fc1b883ce3af0674122561ba6b53686f033088abc49a6a0ecfff6", func := "charabanc/charabanclaw07.BlockTakes", spec := "blockTakes", unfollowed := true, recurses := true, apart := false, narrowed := true }
def BlockTakesUptoSaid : Prop := blockTakesUptoRow.holds Try.pinned (OpenSpec.upto blockTakesSpec)

/-- 'charabanclaw07.BlockGoes', WHERE WHAT IT READS IS OF BULK AT MOST 1048576: true; the input reads as it did. -/
def blockGoesUptoRow : OpenClaim := { program := "ytkphidaoodedjaa", sum := "6ba2c1490d4fc1b883ce3af0674122561ba6b53686f033088abc49a6a0ecfff6", func := "charabanc/charabanclaw07.BlockGoes", spec := "blockGoes", unfollowed := true, recurses := true, apart := false, narrowed := true }
def BlockGoesUptoSaid : Prop := blockGoesUptoRow.holds Try.pinned (OpenSpec.upto blockGoesSpec)

/-- 'charabanclaw07.BlockKept', WHERE WHAT IT READS IS OF BULK AT MOST 1048576: true; the input reads as it did. -/
def blockKeptUptoRow : OpenClaim := { program := "ytkphidaoodedjaa", sum := "6ba2c1490d4fc1b883ce3af0674122561ba6b53686f033088abc49a6a0ecfff6", func := "charabanc/charabanclaw07.BlockKept", spec := "blockKept", unfollowed := true, recurses := true, apart := false, narrowed := true }
def BlockKeptUptoSaid : Prop := blockKeptUptoRow.holds Try.pinned (OpenSpec.upto blockKeptSpec)

/-- 'charabanclaw06.ShiftDoes', WHERE WHAT IT READS IS OF BULK AT MOST 1048576: true; the input reads as it did. -/
def shiftDoesUptoRow : OpenClaim := { program := "ytkphidaoodedjaa", sum := "6ba2c1490d4fc1b883ce3af0674122561ba6b53686f033088abc49a6a0ecfff6", func := "charabanc/charabanclaw06.ShiftDoes", spec := "shiftDoes", unfollowed := true, recurses := true, apart := false, narrowed := true }
def ShiftDoesUptoSaid : Prop := shiftDoesUptoRow.holds Try.pinned (OpenSpec.upto shiftDoesSpec)

/-- 'charabanclaw06.ShiftDigits', WHERE WHAT IT READS IS OF BULK AT MOST 1048576: true; the input reads as it did. -/
def shiftDigitsUptoRow : OpenClaim := { program := "ytkphidaoodedjaa", sum := "6ba2c1490d4fc1b883ce3af0674122561ba6b53686f033088abc49a6a0ecfff6", func := "charabanc/charabanclaw06.ShiftDigits", spec := "shiftDigits", unfollowed := true, recurses := true, apart := false, narrowed := true }
def ShiftDigitsUptoSaid : Prop := shiftDigitsUptoRow.holds Try.pinned (OpenSpec.upto shiftDigitsSpec)

/-- 'charabanclaw06.ShiftBack', WHERE WHAT IT READS IS OF BULK AT MOST 1048576: true; the input reads as it did. -/
def shiftBackUptoRow : OpenClaim := { program := "ytkphidaoodedjaa", sum := "6ba2c1490d4fc1b883ce3af0674122561ba6b53686f033088abc49a6a0ecfff6", func := "charabanc/charabanclaw06.ShiftBack", spec := "shiftBack", unfollowed := true, recurses := true, apart := false, narrowed := true }
def ShiftBackUptoSaid : Prop := shiftBackUptoRow.holds Try.pinned (OpenSpec.upto shiftBackSpec)

/-- 'charabanclaw06.ShiftRound', WHERE WHAT IT READS IS OF BULK AT MOST 1048576: true; the input reads as it did. -/
def shiftRoundUptoRow : OpenClaim := { program := "ytkphidaoodedjaa", sum := "6ba2c1490d4fc1b883ce3af0674122561ba6b53686f033088abc49a6a0ecfff6", func := "charabanc/charabanclaw06.ShiftRound", spec := "shiftRound", unfollowed := true, recurses := true, apart := false, narrowed := true }
def ShiftRoundUptoSaid : Prop := shiftRoundUptoRow.holds Try.pinned (OpenSpec.upto shiftRoundSpec)

end Rows
end Go.Proofs.Ytkphidaoodedjaa
