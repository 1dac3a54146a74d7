/-
  No cell of these rows narrows 'for every input' (looked for: loops, veiled, ifaces, maps, wideKeys, modest, calm, conditions, laid).
  DERIVED. THE GIVEN ROWS OF THIS SEAT. 7 by the template 'for every input the law returns true; each argument reads behind the call as it read before'; 0 by the template 'total and deterministic' (their statements: YtkkkjdbcckaedaaTotals.lean).
  GIVEN WITH THE SEED: the statements are not yours to turn. If you find one false, say at which input.
  Laid BY PROGRAM, IN A SANDBOX (cutbox-rows.mjs): the forced cells as the released guide's own fill.sh prints them over the translation 163ce364ac8ab201… (all of the seat's roots in one cut). By AI agents, Wed Nov 11 2026. No macro, syntax, notation, axiom, sorry.
-/
import Derived.Test.YtkkkjdbcckaedaaChecked
import GoSem.Claim
import GoSem.ClaimJoined
import GoSem.ClaimMapViews
import Derived.JoinedTies
import Derived.KernelRfl
namespace Go.Proofs.Ytkkkjdbcckaedaa
/- THE CELL 'sum', in the pinned program and in every row, IS THE sha256 OF THE DUMP (.gsa) THAT YtkkkjdbcckaedaaProg.lean LOADS. Nothing in Lean hashes anything: it is a label: what it is worth is what the hold of that sum in a sandbox is worth. -/
noncomputable def Try.pinned : Pinned := { name := "ytkkkjdbcckaedaa", sum := "163ce364ac8ab201565bae8647483d82c694741038b21fd4175c6d43345278b4", checked := Try.checked }
namespace Rows
def none {H : Type} : Left H := { results := [], args := [] }

/-- 'charabanclaw22.DmaSearch': WHATEVER THE INPUT: true; the input reads as it did. -/
def dmaSearchSpec : ChangeSpec := { name := "dmaSearch", fn := fun _ => fun
  | [d1, d2] => { results := [.lit (.bool true)], args := [d1, d2] }
  | _ => none }
def dmaSearchRow : OpenClaim := { program := "ytkkkjdbcckaedaa", sum := "163ce364ac8ab201565bae8647483d82c694741038b21fd4175c6d43345278b4", func := "charabanc/charabanclaw22.DmaSearch", spec := "dmaSearch", unfollowed := true, recurses := true, apart := false }
def DmaSearchSaid : Prop := dmaSearchRow.holds Try.pinned (OpenSpec.ofChange dmaSearchSpec)

/-- ITS FALSE NEIGHBOUR: 'it returns false'. Refute it at one input. -/
def dmaSearchWrong : ChangeSpec := { name := "dmaSearch", fn := fun _ => fun
  | [d1, d2] => { results := [.lit (.bool false)], args := [d1, d2] }
  | _ => none }
def DmaSearchWrongFalsely : Prop := dmaSearchRow.holds Try.pinned (OpenSpec.ofChange dmaSearchWrong)

/-- 'charabanclaw22.DmaAgain': WHATEVER THE INPUT: true; the input reads as it did. -/
def dmaAgainSpec : ChangeSpec := { name := "dmaAgain", fn := fun _ => fun
  | [d1, d2, d3] => { results := [.lit (.bool true)], args := [d1, d2, d3] }
  | _ => none }
def dmaAgainRow : OpenClaim := { program := "ytkkkjdbcckaedaa", sum := "163ce364ac8ab201565bae8647483d82c694741038b21fd4175c6d43345278b4", func := "charabanc/charabanclaw22.DmaAgain", spec := "dmaAgain", unfollowed := true, recurses := true, apart := false }
def DmaAgainSaid : Prop := dmaAgainRow.holds Try.pinned (OpenSpec.ofChange dmaAgainSpec)

/-- ITS FALSE NEIGHBOUR: 'it returns false'. Refute it at one input. -/
def dmaAgainWrong : ChangeSpec := { name := "dmaAgain", fn := fun _ => fun
  | [d1, d2, d3] => { results := [.lit (.bool false)], args := [d1, d2, d3] }
  | _ => none }
def DmaAgainWrongFalsely : Prop := dmaAgainRow.holds Try.pinned (OpenSpec.ofChange dmaAgainWrong)

/-- 'charabanclaw22.DmaWrites': WHATEVER THE INPUT: true; the input reads as it did. -/
def dmaWritesSpec : ChangeSpec := { name := "dmaWrites", fn := fun _ => fun
  | [d1, d2] => { results := [.lit (.bool true)], args := [d1, d2] }
  | _ => none }
def dmaWritesRow : OpenClaim := { program := "ytkkkjdbcckaedaa", sum := "163ce364ac8ab201565bae8647483d82c694741038b21fd4175c6d43345278b4", func := "charabanc/charabanclaw22.DmaWrites", spec := "dmaWrites", unfollowed := true, recurses := true, apart := false }
def DmaWritesSaid : Prop := dmaWritesRow.holds Try.pinned (OpenSpec.ofChange dmaWritesSpec)

/-- ITS FALSE NEIGHBOUR: 'it returns false'. Refute it at one input. -/
def dmaWritesWrong : ChangeSpec := { name := "dmaWrites", fn := fun _ => fun
  | [d1, d2] => { results := [.lit (.bool false)], args := [d1, d2] }
  | _ => none }
def DmaWritesWrongFalsely : Prop := dmaWritesRow.holds Try.pinned (OpenSpec.ofChange dmaWritesWrong)

/-- 'charabanclaw22.DmaTakes': WHATEVER THE INPUT: true; the input reads as it did. -/
def dmaTakesSpec : ChangeSpec := { name := "dmaTakes", fn := fun _ => fun
  | [d1, d2, d3] => { results := [.lit (.bool true)], args := [d1, d2, d3] }
  | _ => none }
def dmaTakesRow : OpenClaim := { program := "ytkkkjdbcckaedaa", sum := "163ce364ac8ab201565bae8647483d82c694741038b21fd4175c6d43345278b4", func := "charabanc/charabanclaw22.DmaTakes", spec := "dmaTakes", unfollowed := true, recurses := true, apart := false }
def DmaTakesSaid : Prop := dmaTakesRow.holds Try.pinned (OpenSpec.ofChange dmaTakesSpec)

/-- ITS FALSE NEIGHBOUR: 'it returns false'. Refute it at one input. -/
def dmaTakesWrong : ChangeSpec := { name := "dmaTakes", fn := fun _ => fun
  | [d1, d2, d3] => { results := [.lit (.bool false)], args := [d1, d2, d3] }
  | _ => none }
def DmaTakesWrongFalsely : Prop := dmaTakesRow.holds Try.pinned (OpenSpec.ofChange dmaTakesWrong)

/-- 'charabanclaw22.DmaPlays': WHATEVER THE INPUT: true; the input reads as it did. -/
def dmaPlaysSpec : ChangeSpec := { name := "dmaPlays", fn := fun _ => fun
  | [d1, d2] => { results := [.lit (.bool true)], args := [d1, d2] }
  | _ => none }
def dmaPlaysRow : OpenClaim := { program := "ytkkkjdbcckaedaa", sum := "163ce364ac8ab201565bae8647483d82c694741038b21fd4175c6d43345278b4", func := "charabanc/charabanclaw22.DmaPlays", spec := "dmaPlays", unfollowed := true, recurses := true, apart := false }
def DmaPlaysSaid : Prop := dmaPlaysRow.holds Try.pinned (OpenSpec.ofChange dmaPlaysSpec)

/-- ITS FALSE NEIGHBOUR: 'it returns false'. Refute it at one input. -/
def dmaPlaysWrong : ChangeSpec := { name := "dmaPlays", fn := fun _ => fun
  | [d1, d2] => { results := [.lit (.bool false)], args := [d1, d2] }
  | _ => none }
def DmaPlaysWrongFalsely : Prop := dmaPlaysRow.holds Try.pinned (OpenSpec.ofChange dmaPlaysWrong)

/-- 'charabanclaw22.DmaMoves': WHATEVER THE INPUT: true; the input reads as it did. -/
def dmaMovesSpec : ChangeSpec := { name := "dmaMoves", fn := fun _ => fun
  | [d1, d2, d3] => { results := [.lit (.bool true)], args := [d1, d2, d3] }
  | _ => none }
def dmaMovesRow : OpenClaim := { program := "ytkkkjdbcckaedaa", sum := "163ce364ac8ab201565bae8647483d82c694741038b21fd4175c6d43345278b4", func := "charabanc/charabanclaw22.DmaMoves", spec := "dmaMoves", unfollowed := true, recurses := true, apart := false }
def DmaMovesSaid : Prop := dmaMovesRow.holds Try.pinned (OpenSpec.ofChange dmaMovesSpec)

/-- ITS FALSE NEIGHBOUR: 'it returns false'. Refute it at one input. -/
def dmaMovesWrong : ChangeSpec := { name := "dmaMoves", fn := fun _ => fun
  | [d1, d2, d3] => { results := [.lit (.bool false)], args := [d1, d2, d3] }
  | _ => none }
def DmaMovesWrongFalsely : Prop := dmaMovesRow.holds Try.pinned (OpenSpec.ofChange dmaMovesWrong)

/-- 'charabanclaw22.DmaModes': WHATEVER THE INPUT: true; the input reads as it did. -/
def dmaModesSpec : ChangeSpec := { name := "dmaModes", fn := fun _ => fun
  | [d1, d2, d3] => { results := [.lit (.bool true)], args := [d1, d2, d3] }
  | _ => none }
def dmaModesRow : OpenClaim := { program := "ytkkkjdbcckaedaa", sum := "163ce364ac8ab201565bae8647483d82c694741038b21fd4175c6d43345278b4", func := "charabanc/charabanclaw22.DmaModes", spec := "dmaModes", unfollowed := true, recurses := true, apart := false }
def DmaModesSaid : Prop := dmaModesRow.holds Try.pinned (OpenSpec.ofChange dmaModesSpec)

/-- ITS FALSE NEIGHBOUR: 'it returns false'. Refute it at one input. -/
def dmaModesWrong : ChangeSpec := { name := "dmaModes", fn := fun _ => fun
  | [d1, d2, d3] => { results := [.lit (.bool false)], args := [d1, d2, d3] }
  | _ => none }
def DmaModesWrongFalsely : Prop := dmaModesRow.holds Try.pinned (OpenSpec.ofChange dmaModesWrong)

/- THE SECOND FORM. 'bulk': how many values and letters a reading holds, each counted each time it is reached (what is shared counts as often as it is met; a slice's spare places count too). A statement '..UptoSaid' is the law's where the arguments, and the package variables that the reading takes, are together of bulk at most 1048576: NARROWER than '..Said'. Prove '..Said' where nothing that the law and all that it calls make is longer than what came in: it says more and counts as full. Else prove '..UptoSaid'. A law counts once. -/
mutual
def uptoBulk {H : Type} : DataW H → Nat
  | .lit (.string bytes) => bytes.length + 1
  | .lit _ => 1
  | .nil => 1
  | .ptr d => uptoBulk d + 1
  | .slice elems spare => uptoBulkAll elems + uptoBulkAll spare + 1
  | .agg parts => uptoBulkAll parts + 1
  | .iface _ d => uptoBulk d + 1
  | .map entries => uptoBulkEntries entries + 1
  | .held _ => 1
def uptoBulkAll {H : Type} : List (DataW H) → Nat
  | [] => 0
  | d :: r => uptoBulk d + uptoBulkAll r
def uptoBulkEntries {H : Type} : List (Lit × DataW H) → Nat
  | [] => 0
  | x :: r => uptoBulkEntry x + uptoBulkEntries r
def uptoBulkEntry {H : Type} : Lit × DataW H → Nat
  | (.string bytes, d) => bytes.length + uptoBulk d + 1
  | (_, d) => uptoBulk d + 1
 end
def uptoSmall : (H : Type) → List (DataW H) → Bool := fun _ ds => decide (uptoBulkAll ds ≤ 1048576)
def OpenSpec.upto (s : _root_.Go.ChangeSpec) : _root_.Go.OpenSpec := { _root_.Go.OpenSpec.ofChange s with cond := some uptoSmall }

/-- 'charabanclaw22.DmaSearch', WHERE WHAT IT READS IS OF BULK AT MOST 1048576: true; the input reads as it did. -/
def dmaSearchUptoRow : OpenClaim := { program := "ytkkkjdbcckaedaa", sum := "163ce364ac8ab201565bae8647483d82c694741038b21fd4175c6d43345278b4", func := "charabanc/charabanclaw22.DmaSearch", spec := "dmaSearch", unfollowed := true, recurses := true, apart := false, narrowed := true }
def DmaSearchUptoSaid : Prop := dmaSearchUptoRow.holds Try.pinned (OpenSpec.upto dmaSearchSpec)

/-- 'charabanclaw22.DmaAgain', WHERE WHAT IT READS IS OF BULK AT MOST 1048576: true; the input reads as it did. -/
def dmaAgainUptoRow : OpenClaim := { program := "ytkkkjdbcckaedaa", sum := "163ce364ac8ab201565bae8647483d82c694741038b21fd4175c6d43345278b4", func := "charabanc/charabanclaw22.DmaAgain", spec := "dmaAgain", unfollowed := true, recurses := true, apart := false, narrowed := true }
def DmaAgainUptoSaid : Prop := dmaAgainUptoRow.holds Try.pinned (OpenSpec.upto dmaAgainSpec)

/-- 'charabanclaw22.DmaWrites', WHERE WHAT IT READS IS OF BULK AT MOST 1048576: true; the input reads as it did. -/
def dmaWritesUptoRow : OpenClaim := { program := "ytkkkjdbcckaedaa", sum := "163ce364ac8ab201565bae8647483d82c694741038b21fd4175c6d43345278b4", func := "charabanc/charabanclaw22.DmaWrites", spec := "dmaWrites", unfollowed := true, recurses := true, apart := false, narrowed := true }
def DmaWritesUptoSaid : Prop := dmaWritesUptoRow.holds Try.pinned (OpenSpec.upto dmaWritesSpec)

/-- 'charabanclaw22.DmaTakes', WHERE WHAT IT READS IS OF BULK AT MOST 1048576: true; the input reads as it did. -/
def dmaTakesUptoRow : OpenClaim := { program := "ytkkkjdbcckaedaa", sum := "163ce364ac8ab201565bae8647483d82c694741038b21fd4175c6d43345278b4", func := "charabanc/charabanclaw22.DmaTakes", spec := "dmaTakes", unfollowed := true, recurses := true, apart := false, narrowed := true }
def DmaTakesUptoSaid : Prop := dmaTakesUptoRow.holds Try.pinned (OpenSpec.upto dmaTakesSpec)

/-- 'charabanclaw22.DmaPlays', WHERE WHAT IT READS IS OF BULK AT MOST 1048576: true; the input reads as it did. -/
def dmaPlaysUptoRow : OpenClaim := { program := "ytkkkjdbcckaedaa", sum := "163ce364ac8ab201565bae8647483d82c694741038b21fd4175c6d43345278b4", func := "charabanc/charabanclaw22.DmaPlays", spec := "dmaPlays", unfollowed := true, recurses := true, apart := false, narrowed := true }
def DmaPlaysUptoSaid : Prop := dmaPlaysUptoRow.holds Try.pinned (OpenSpec.upto dmaPlaysSpec)

/-- 'charabanclaw22.DmaMoves', WHERE WHAT IT READS IS OF BULK AT MOST 1048576: true; the input reads as it did. -/
def dmaMovesUptoRow : OpenClaim := { program := "ytkkkjdbcckaedaa", sum := "163ce364ac8ab201565bae8647483d82c694741038b21fd4175c6d43345278b4", func := "charabanc/charabanclaw22.DmaMoves", spec := "dmaMoves", unfollowed := true, recurses := true, apart := false, narrowed := true }
def DmaMovesUptoSaid : Prop := dmaMovesUptoRow.holds Try.pinned (OpenSpec.upto dmaMovesSpec)

/-- 'charabanclaw22.DmaModes', WHERE WHAT IT READS IS OF BULK AT MOST 1048576: true; the input reads as it did. -/
def dmaModesUptoRow : OpenClaim := { program := "ytkkkjdbcckaedaa", sum := "163ce364ac8ab201565bae8647483d82c694741038b21fd4175c6d43345278b4", func := "charabanc/charabanclaw22.DmaModes", spec := "dmaModes", unfollowed := true, recurses := true, apart := false, narrowed := true }
def DmaModesUptoSaid : Prop := dmaModesUptoRow.holds Try.pinned (OpenSpec.upto dmaModesSpec)

end Rows
end Go.Proofs.Ytkkkjdbcckaedaa
