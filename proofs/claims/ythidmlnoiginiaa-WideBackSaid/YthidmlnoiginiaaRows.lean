/-
  No cell of these rows narrows 'for every input' (looked for: loops, veiled, ifaces, maps, wideKeys, modest, calm, conditions, laid).
  DERIVED. THE GIVEN ROWS OF THIS SEAT. 12 by the template 'for every input the law returns true; each argument reads behind the call as it read before'; 0 by the template 'total and deterministic' (their statements: YthidmlnoiginiaaTotals.lean).
  GIVEN WITH THE SEED: the statements are not yours to turn. If you find one false, say at which input.
  Laid BY PROGRAM, IN A SANDBOX (cutbox-rows.mjs): the forced cells as the released guide's own fill.sh prints them over the translation f017c0a789c57ce9… (all of the seat's roots in one cut). By AI agents, Wed Nov 11 2026. No macro, syntax, notation, axiom, sorry.
-/
import Derived.Test.YthidmlnoiginiaaChecked
import GoSem.Claim
import GoSem.ClaimJoined
import GoSem.ClaimMapViews
import Derived.JoinedTies
import Derived.KernelRfl
namespace Go.Proofs.Ythidmlnoiginiaa
/- THE CELL 'sum', in the pinned program and in every row, IS THE sha256 OF THE DUMP (.gsa) THAT YthidmlnoiginiaaProg.lean LOADS. Nothing in Lean hashes anything: it is a label: what it is worth is what the hold of that sum in a sandbox is worth. -/
noncomputable def Try.pinned : Pinned := { name := "ythidmlnoiginiaa", sum := "f017c0a789c57ce9a7a34b05edfefd5c115197783b206cc11d8446d75ea49d75", checked := Try.checked }
namespace Rows
def none {H : Type} : Left H := { results := [], args := [] }

/-- 'charabanclaw01.BitsWords': WHATEVER THE INPUT: true; the input reads as it did. -/
def bitsWordsSpec : ChangeSpec := { name := "bitsWords", fn := fun _ => fun
  | [d1, d2, d3] => { results := [.lit (.bool true)], args := [d1, d2, d3] }
  | _ => none }
def bitsWordsRow : OpenClaim := { program := "ythidmlnoiginiaa", sum := "f017c0a789c57ce9a7a34b05edfefd5c115197783b206cc11d8446d75ea49d75", func := "charabanc/charabanclaw01.BitsWords", spec := "bitsWords", unfollowed := true, recurses := true, apart := false }
def BitsWordsSaid : Prop := bitsWordsRow.holds Try.pinned (OpenSpec.ofChange bitsWordsSpec)

/-- ITS FALSE NEIGHBOUR: 'it returns false'. Refute it at one input. -/
def bitsWordsWrong : ChangeSpec := { name := "bitsWords", fn := fun _ => fun
  | [d1, d2, d3] => { results := [.lit (.bool false)], args := [d1, d2, d3] }
  | _ => none }
def BitsWordsWrongFalsely : Prop := bitsWordsRow.holds Try.pinned (OpenSpec.ofChange bitsWordsWrong)

/-- 'charabanclaw01.BitsSet': WHATEVER THE INPUT: true; the input reads as it did. -/
def bitsSetSpec : ChangeSpec := { name := "bitsSet", fn := fun _ => fun
  | [d1, d2, d3] => { results := [.lit (.bool true)], args := [d1, d2, d3] }
  | _ => none }
def bitsSetRow : OpenClaim := { program := "ythidmlnoiginiaa", sum := "f017c0a789c57ce9a7a34b05edfefd5c115197783b206cc11d8446d75ea49d75", func := "charabanc/charabanclaw01.BitsSet", spec := "bitsSet", unfollowed := true, recurses := true, apart := false }
def BitsSetSaid : Prop := bitsSetRow.holds Try.pinned (OpenSpec.ofChange bitsSetSpec)

/-- ITS FALSE NEIGHBOUR: 'it returns false'. Refute it at one input. -/
def bitsSetWrong : ChangeSpec := { name := "bitsSet", fn := fun _ => fun
  | [d1, d2, d3] => { results := [.lit (.bool false)], args := [d1, d2, d3] }
  | _ => none }
def BitsSetWrongFalsely : Prop := bitsSetRow.holds Try.pinned (OpenSpec.ofChange bitsSetWrong)

/-- 'charabanclaw01.BitsTurns': WHATEVER THE INPUT: true; the input reads as it did. -/
def bitsTurnsSpec : ChangeSpec := { name := "bitsTurns", fn := fun _ => fun
  | [d1, d2] => { results := [.lit (.bool true)], args := [d1, d2] }
  | _ => none }
def bitsTurnsRow : OpenClaim := { program := "ythidmlnoiginiaa", sum := "f017c0a789c57ce9a7a34b05edfefd5c115197783b206cc11d8446d75ea49d75", func := "charabanc/charabanclaw01.BitsTurns", spec := "bitsTurns", unfollowed := true, recurses := true, apart := false }
def BitsTurnsSaid : Prop := bitsTurnsRow.holds Try.pinned (OpenSpec.ofChange bitsTurnsSpec)

/-- ITS FALSE NEIGHBOUR: 'it returns false'. Refute it at one input. -/
def bitsTurnsWrong : ChangeSpec := { name := "bitsTurns", fn := fun _ => fun
  | [d1, d2] => { results := [.lit (.bool false)], args := [d1, d2] }
  | _ => none }
def BitsTurnsWrongFalsely : Prop := bitsTurnsRow.holds Try.pinned (OpenSpec.ofChange bitsTurnsWrong)

/-- 'charabanclaw01.BitsBack': WHATEVER THE INPUT: true; the input reads as it did. -/
def bitsBackSpec : ChangeSpec := { name := "bitsBack", fn := fun _ => fun
  | [d1, d2, d3] => { results := [.lit (.bool true)], args := [d1, d2, d3] }
  | _ => none }
def bitsBackRow : OpenClaim := { program := "ythidmlnoiginiaa", sum := "f017c0a789c57ce9a7a34b05edfefd5c115197783b206cc11d8446d75ea49d75", func := "charabanc/charabanclaw01.BitsBack", spec := "bitsBack", unfollowed := true, recurses := true, apart := false }
def BitsBackSaid : Prop := bitsBackRow.holds Try.pinned (OpenSpec.ofChange bitsBackSpec)

/-- ITS FALSE NEIGHBOUR: 'it returns false'. Refute it at one input. -/
def bitsBackWrong : ChangeSpec := { name := "bitsBack", fn := fun _ => fun
  | [d1, d2, d3] => { results := [.lit (.bool false)], args := [d1, d2, d3] }
  | _ => none }
def BitsBackWrongFalsely : Prop := bitsBackRow.holds Try.pinned (OpenSpec.ofChange bitsBackWrong)

/-- 'charabanclaw03.SumAdds': WHATEVER THE INPUT: true; the input reads as it did. -/
def sumAddsSpec : ChangeSpec := { name := "sumAdds", fn := fun _ => fun
  | [d1, d2, d3] => { results := [.lit (.bool true)], args := [d1, d2, d3] }
  | _ => none }
def sumAddsRow : OpenClaim := { program := "ythidmlnoiginiaa", sum := "f017c0a789c57ce9a7a34b05edfefd5c115197783b206cc11d8446d75ea49d75", func := "charabanc/charabanclaw03.SumAdds", spec := "sumAdds", apart := false }
def SumAddsSaid : Prop := sumAddsRow.holds Try.pinned (OpenSpec.ofChange sumAddsSpec)

/-- ITS FALSE NEIGHBOUR: 'it returns false'. Refute it at one input. -/
def sumAddsWrong : ChangeSpec := { name := "sumAdds", fn := fun _ => fun
  | [d1, d2, d3] => { results := [.lit (.bool false)], args := [d1, d2, d3] }
  | _ => none }
def SumAddsWrongFalsely : Prop := sumAddsRow.holds Try.pinned (OpenSpec.ofChange sumAddsWrong)

/-- 'charabanclaw03.SumSubs': WHATEVER THE INPUT: true; the input reads as it did. -/
def sumSubsSpec : ChangeSpec := { name := "sumSubs", fn := fun _ => fun
  | [d1, d2, d3] => { results := [.lit (.bool true)], args := [d1, d2, d3] }
  | _ => none }
def sumSubsRow : OpenClaim := { program := "ythidmlnoiginiaa", sum := "f017c0a789c57ce9a7a34b05edfefd5c115197783b206cc11d8446d75ea49d75", func := "charabanc/charabanclaw03.SumSubs", spec := "sumSubs", apart := false }
def SumSubsSaid : Prop := sumSubsRow.holds Try.pinned (OpenSpec.ofChange sumSubsSpec)

/-- ITS FALSE NEIGHBOUR: 'it returns false'. Refute it at one input. -/
def sumSubsWrong : ChangeSpec := { name := "sumSubs", fn := fun _ => fun
  | [d1, d2, d3] => { results := [.lit (.bool false)], args := [d1, d2, d3] }
  | _ => none }
def SumSubsWrongFalsely : Prop := sumSubsRow.holds Try.pinned (OpenSpec.ofChange sumSubsWrong)

/-- 'charabanclaw03.SumSteps': WHATEVER THE INPUT: true; the input reads as it did. -/
def sumStepsSpec : ChangeSpec := { name := "sumSteps", fn := fun _ => fun
  | [d1, d2] => { results := [.lit (.bool true)], args := [d1, d2] }
  | _ => none }
def sumStepsRow : OpenClaim := { program := "ythidmlnoiginiaa", sum := "f017c0a789c57ce9a7a34b05edfefd5c115197783b206cc11d8446d75ea49d75", func := "charabanc/charabanclaw03.SumSteps", spec := "sumSteps", apart := false }
def SumStepsSaid : Prop := sumStepsRow.holds Try.pinned (OpenSpec.ofChange sumStepsSpec)

/-- ITS FALSE NEIGHBOUR: 'it returns false'. Refute it at one input. -/
def sumStepsWrong : ChangeSpec := { name := "sumSteps", fn := fun _ => fun
  | [d1, d2] => { results := [.lit (.bool false)], args := [d1, d2] }
  | _ => none }
def SumStepsWrongFalsely : Prop := sumStepsRow.holds Try.pinned (OpenSpec.ofChange sumStepsWrong)

/-- 'charabanclaw03.SumBack': WHATEVER THE INPUT: true; the input reads as it did. -/
def sumBackSpec : ChangeSpec := { name := "sumBack", fn := fun _ => fun
  | [d1, d2, d3] => { results := [.lit (.bool true)], args := [d1, d2, d3] }
  | _ => none }
def sumBackRow : OpenClaim := { program := "ythidmlnoiginiaa", sum := "f017c0a789c57ce9a7a34b05edfefd5c115197783b206cc11d8446d75ea49d75", func := "charabanc/charabanclaw03.SumBack", spec := "sumBack", apart := false }
def SumBackSaid : Prop := sumBackRow.holds Try.pinned (OpenSpec.ofChange sumBackSpec)

/-- ITS FALSE NEIGHBOUR: 'it returns false'. Refute it at one input. -/
def sumBackWrong : ChangeSpec := { name := "sumBack", fn := fun _ => fun
  | [d1, d2, d3] => { results := [.lit (.bool false)], args := [d1, d2, d3] }
  | _ => none }
def SumBackWrongFalsely : Prop := sumBackRow.holds Try.pinned (OpenSpec.ofChange sumBackWrong)

/-- 'charabanclaw04.WideAdds': WHATEVER THE INPUT: true; the input reads as it did. -/
def wideAddsSpec : ChangeSpec := { name := "wideAdds", fn := fun _ => fun
  | [d1, d2, d3] => { results := [.lit (.bool true)], args := [d1, d2, d3] }
  | _ => none }
def wideAddsRow : OpenClaim := { program := "ythidmlnoiginiaa", sum := "f017c0a789c57ce9a7a34b05edfefd5c115197783b206cc11d8446d75ea49d75", func := "charabanc/charabanclaw04.WideAdds", spec := "wideAdds", unfollowed := true, recurses := true, apart := false }
def WideAddsSaid : Prop := wideAddsRow.holds Try.pinned (OpenSpec.ofChange wideAddsSpec)

/-- ITS FALSE NEIGHBOUR: 'it returns false'. Refute it at one input. -/
def wideAddsWrong : ChangeSpec := { name := "wideAdds", fn := fun _ => fun
  | [d1, d2, d3] => { results := [.lit (.bool false)], args := [d1, d2, d3] }
  | _ => none }
def WideAddsWrongFalsely : Prop := wideAddsRow.holds Try.pinned (OpenSpec.ofChange wideAddsWrong)

/-- 'charabanclaw04.WideSubs': WHATEVER THE INPUT: true; the input reads as it did. -/
def wideSubsSpec : ChangeSpec := { name := "wideSubs", fn := fun _ => fun
  | [d1, d2, d3] => { results := [.lit (.bool true)], args := [d1, d2, d3] }
  | _ => none }
def wideSubsRow : OpenClaim := { program := "ythidmlnoiginiaa", sum := "f017c0a789c57ce9a7a34b05edfefd5c115197783b206cc11d8446d75ea49d75", func := "charabanc/charabanclaw04.WideSubs", spec := "wideSubs", unfollowed := true, recurses := true, apart := false }
def WideSubsSaid : Prop := wideSubsRow.holds Try.pinned (OpenSpec.ofChange wideSubsSpec)

/-- ITS FALSE NEIGHBOUR: 'it returns false'. Refute it at one input. -/
def wideSubsWrong : ChangeSpec := { name := "wideSubs", fn := fun _ => fun
  | [d1, d2, d3] => { results := [.lit (.bool false)], args := [d1, d2, d3] }
  | _ => none }
def WideSubsWrongFalsely : Prop := wideSubsRow.holds Try.pinned (OpenSpec.ofChange wideSubsWrong)

/-- 'charabanclaw04.WideBytes': WHATEVER THE INPUT: true; the input reads as it did. -/
def wideBytesSpec : ChangeSpec := { name := "wideBytes", fn := fun _ => fun
  | [d1, d2, d3] => { results := [.lit (.bool true)], args := [d1, d2, d3] }
  | _ => none }
def wideBytesRow : OpenClaim := { program := "ythidmlnoiginiaa", sum := "f017c0a789c57ce9a7a34b05edfefd5c115197783b206cc11d8446d75ea49d75", func := "charabanc/charabanclaw04.WideBytes", spec := "wideBytes", unfollowed := true, recurses := true, apart := false }
def WideBytesSaid : Prop := wideBytesRow.holds Try.pinned (OpenSpec.ofChange wideBytesSpec)

/-- ITS FALSE NEIGHBOUR: 'it returns false'. Refute it at one input. -/
def wideBytesWrong : ChangeSpec := { name := "wideBytes", fn := fun _ => fun
  | [d1, d2, d3] => { results := [.lit (.bool false)], args := [d1, d2, d3] }
  | _ => none }
def WideBytesWrongFalsely : Prop := wideBytesRow.holds Try.pinned (OpenSpec.ofChange wideBytesWrong)

/-- 'charabanclaw04.WideBack': WHATEVER THE INPUT: true; the input reads as it did. -/
def wideBackSpec : ChangeSpec := { name := "wideBack", fn := fun _ => fun
  | [d1, d2, d3] => { results := [.lit (.bool true)], args := [d1, d2, d3] }
  | _ => none }
def wideBackRow : OpenClaim := { program := "ythidmlnoiginiaa", sum := "f017c0a789c57ce9a7a34b05edfefd5c115197783b206cc11d8446d75ea49d75", func := "charabanc/charabanclaw04.WideBack", spec := "wideBack", unfollowed := true, recurses := true, apart := false }
def WideBackSaid : Prop := wideBackRow.holds Try.pinned (OpenSpec.ofChange wideBackSpec)

/-- ITS FALSE NEIGHBOUR: 'it returns false'. Refute it at one input. -/
def wideBackWrong : ChangeSpec := { name := "wideBack", fn := fun _ => fun
  | [d1, d2, d3] => { results := [.lit (.bool false)], args := [d1, d2, d3] }
  | _ => none }
def WideBackWrongFalsely : Prop := wideBackRow.holds Try.pinned (OpenSpec.ofChange wideBackWrong)

/- THE SECOND FORM. 'bulk': how many values and letters a reading holds, each counted each time it is reached (what is shared counts as often as it is met; a slice's spare places count too). A statement '..UptoSaid' is the law's where the arguments, and the package variables that the reading takes, are together of bulk at most 1048576: NARROWER than '..Said'. Prove '..Said' where nothing that the law and all that it calls make is longer than what came in: it says more and counts as full. Else prove '..UptoSaid'. A law counts once. -/
mutual
def uptoBulk {H : Type} : DataW H → Nat
  | .lit (.string bytes) => bytes.length + 1
  | .lit _ => 1
  | .nil => 1
  | .ptr d => uptoBulk d + 1
  | .slice elems spare => uptoBulkAll elems + uptoBulkAll spare + 1
  | .agg parts => uptoBulkAll parts + 1
  | .iface _ d => uptoBulk d + 1
  | .map entries => uptoBulkEntries entries + 1
  | .held _ => 1
def uptoBulkAll {H : Type} : List (DataW H) → Nat
  | [] => 0
  | d :: r => uptoBulk d + uptoBulkAll r
def uptoBulkEntries {H : Type} : List (Lit × DataW H) → Nat
  | [] => 0
  | x :: r => uptoBulkEntry x + uptoBulkEntries r
def uptoBulkEntry {H : Type} : Lit × DataW H → Nat
  | (.string bytes, d) => bytes.length + uptoBulk d + 1
  | (_, d) => uptoBulk d + 1
 end
def uptoSmall : (H : Type) → List (DataW H) → Bool := fun _ ds => decide (uptoBulkAll ds ≤ 1048576)
def OpenSpec.upto (s : _root_.Go.ChangeSpec) : _root_.Go.OpenSpec := { _root_.Go.OpenSpec.ofChange s with cond := some uptoSmall }

/-- 'charabanclaw01.BitsWords', WHERE WHAT IT READS IS OF BULK AT MOST 1048576: true; the input reads as it did. -/
def bitsWordsUptoRow : OpenClaim := { program := "ythidmlnoiginiaa", sum := "f017c0a789c57ce9a7a34b05edfefd5c115197783b206cc11d8446d75ea49d75", func := "charabanc/charabanclaw01.BitsWords", spec := "bitsWords", unfollowed := true, recurses := true, apart := false, narrowed := true }
def BitsWordsUptoSaid : Prop := bitsWordsUptoRow.holds Try.pinned (OpenSpec.upto bitsWordsSpec)

/-- 'charabanclaw01.BitsSet', WHERE WHAT IT READS IS OF BULK AT MOST 1048576: true; the input reads as it did. -/
def bitsSetUptoRow : OpenClaim := { program := "ythidmlnoiginiaa", sum := "f017c0a789c57ce9a7a34b05edfefd5c115197783b206cc11d8446d75ea49d75", func := "charabanc/charabanclaw01.BitsSet", spec := "bitsSet", unfollowed := true, recurses := true, apart := false, narrowed := true }
def BitsSetUptoSaid : Prop := bitsSetUptoRow.holds Try.pinned (OpenSpec.upto bitsSetSpec)

/-- 'charabanclaw01.BitsTurns', WHERE WHAT IT READS IS OF BULK AT MOST 1048576: true; the input reads as it did. -/
def bitsTurnsUptoRow : OpenClaim := { program := "ythidmlnoiginiaa", sum := "f017c0a789c57ce9a7a34b05edfefd5c115197783b206cc11d8446d75ea49d75", func := "charabanc/charabanclaw01.BitsTurns", spec := "bitsTurns", unfollowed := true, recurses := true, apart := false, narrowed := true }
def BitsTurnsUptoSaid : Prop := bitsTurnsUptoRow.holds Try.pinned (OpenSpec.upto bitsTurnsSpec)

/-- 'charabanclaw01.BitsBack', WHERE WHAT IT READS IS OF BULK AT MOST 1048576: true; the input reads as it did. -/
def bitsBackUptoRow : OpenClaim := { program := "ythidmlnoiginiaa", sum := "f017c0a789c57ce9a7a34b05edfefd5c115197783b206cc11d8446d75ea49d75", func := "charabanc/charabanclaw01.BitsBack", spec := "bitsBack", unfollowed := true, recurses := true, apart := false, narrowed := true }
def BitsBackUptoSaid : Prop := bitsBackUptoRow.holds Try.pinned (OpenSpec.upto bitsBackSpec)

/-- 'charabanclaw03.SumAdds', WHERE WHAT IT READS IS OF BULK AT MOST 1048576: true; the input reads as it did. -/
def sumAddsUptoRow : OpenClaim := { program := "ythidmlnoiginiaa", sum := "f017c0a789c57ce9a7a34b05edfefd5c115197783b206cc11d8446d75ea49d75", func := "charabanc/charabanclaw03.SumAdds", spec := "sumAdds", apart := false, narrowed := true }
def SumAddsUptoSaid : Prop := sumAddsUptoRow.holds Try.pinned (OpenSpec.upto sumAddsSpec)

/-- 'charabanclaw03.SumSubs', WHERE WHAT IT READS IS OF BULK AT MOST 1048576: true; the input reads as it did. -/
def sumSubsUptoRow : OpenClaim := { program := "ythidmlnoiginiaa", sum := "f017c0a789c57ce9a7a34b05edfefd5c115197783b206cc11d8446d75ea49d75", func := "charabanc/charabanclaw03.SumSubs", spec := "sumSubs", apart := false, narrowed := true }
def SumSubsUptoSaid : Prop := sumSubsUptoRow.holds Try.pinned (OpenSpec.upto sumSubsSpec)

/-- 'charabanclaw03.SumSteps', WHERE WHAT IT READS IS OF BULK AT MOST 1048576: true; the input reads as it did. -/
def sumStepsUptoRow : OpenClaim := { program := "ythidmlnoiginiaa", sum := "f017c0a789c57ce9a7a34b05edfefd5c115197783b206cc11d8446d75ea49d75", func := "charabanc/charabanclaw03.SumSteps", spec := "sumSteps", apart := false, narrowed := true }
def SumStepsUptoSaid : Prop := sumStepsUptoRow.holds Try.pinned (OpenSpec.upto sumStepsSpec)

/-- 'charabanclaw03.SumBack', WHERE WHAT IT READS IS OF BULK AT MOST 1048576: true; the input reads as it did. -/
def sumBackUptoRow : OpenClaim := { program := "ythidmlnoiginiaa", sum := "f017c0a789c57ce9a7a34b05edfefd5c115197783b206cc11d8446d75ea49d75", func := "charabanc/charabanclaw03.SumBack", spec := "sumBack", apart := false, narrowed := true }
def SumBackUptoSaid : Prop := sumBackUptoRow.holds Try.pinned (OpenSpec.upto sumBackSpec)

/-- 'charabanclaw04.WideAdds', WHERE WHAT IT READS IS OF BULK AT MOST 1048576: true; the input reads as it did. -/
def wideAddsUptoRow : OpenClaim := { program := "ythidmlnoiginiaa", sum := "f017c0a789c57ce9a7a34b05edfefd5c115197783b206cc11d8446d75ea49d75", func := "charabanc/charabanclaw04.WideAdds", spec := "wideAdds", unfollowed := true, recurses := true, apart := false, narrowed := true }
def WideAddsUptoSaid : Prop := wideAddsUptoRow.holds Try.pinned (OpenSpec.upto wideAddsSpec)

/-- 'charabanclaw04.WideSubs', WHERE WHAT IT READS IS OF BULK AT MOST 1048576: true; the input reads as it did. -/
def wideSubsUptoRow : OpenClaim := { program := "ythidmlnoiginiaa", sum := "f017c0a789c57ce9a7a34b05edfefd5c115197783b206cc11d8446d75ea49d75", func := "charabanc/charabanclaw04.WideSubs", spec := "wideSubs", unfollowed := true, recurses := true, apart := false, narrowed := true }
def WideSubsUptoSaid : Prop := wideSubsUptoRow.holds Try.pinned (OpenSpec.upto wideSubsSpec)

/-- 'charabanclaw04.WideBytes', WHERE WHAT IT READS IS OF BULK AT MOST 1048576: true; the input reads as it did. -/
def wideBytesUptoRow : OpenClaim := { program := "ythidmlnoiginiaa", sum := "f017c0a789c57ce9a7a34b05edfefd5c115197783b206cc11d8446d75ea49d75", func := "charabanc/charabanclaw04.WideBytes", spec := "wideBytes", unfollowed := true, recurses := true, apart := false, narrowed := true }
def WideBytesUptoSaid : Prop := wideBytesUptoRow.holds Try.pinned (OpenSpec.upto wideBytesSpec)

/-- 'charabanclaw04.WideBack', WHERE WHAT IT READS IS OF BULK AT MOST 1048576: true; the input reads as it did. -/
def wideBackUptoRow : OpenClaim := { program := "ythidmlnoiginiaa", sum := "f017c0a789c57ce9a7a34b05edfefd5c115197783b206cc11d8446d75ea49d75", func := "charabanc/charabanclaw04.WideBack", spec := "wideBack", unfollowed := true, recurses := true, apart := false, narrowed := true }
def WideBackUptoSaid : Prop := wideBackUptoRow.holds Try.pinned (OpenSpec.upto wideBackSpec)

end Rows
end Go.Proofs.Ythidmlnoiginiaa
