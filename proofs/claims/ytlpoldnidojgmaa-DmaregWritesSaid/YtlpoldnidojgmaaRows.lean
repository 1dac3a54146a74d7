/-
  No cell of these rows narrows 'for every input' (looked for: loops, veiled, ifaces, maps, wideKeys, modest, calm, conditions, laid).
  DERIVED. THE GIVEN ROWS OF THIS SEAT. 7 by the template 'for every input the law returns true; each argument reads behind the call as it read before'; 0 by the template 'total and deterministic' (their statements: YtlpoldnidojgmaaTotals.lean).
  GIVEN WITH THE SEED: the statements are not yours to turn. If you find one false, say at which input.
  Laid BY PROGRAM, IN A SANDBOX (cutbox-rows.mjs): the forced cells as the released guide's own fill.sh prints them over the translation c3883a19607ca230… (all of the seat's roots in one cut). By AI agents, Wed Nov 11 2026. No macro, syntax, notation, axiom, sorry.
-/
import Derived.Test.YtlpoldnidojgmaaChecked
import GoSem.Claim
import GoSem.ClaimJoined
import GoSem.ClaimMapViews
import Derived.JoinedTies
import Derived.KernelRfl
namespace Go.Proofs.Ytlpoldnidojgmaa
/- THE CELL 'sum', in the pinned program and in every row, IS THE sha256 OF THE DUMP (.gsa) THAT YtlpoldnidojgmaaProg.lean LOADS. Nothing in Lean hashes anything: it is a label: what it is worth is what the hold of that sum in a sandbox is worth. -/
noncomputable def Try.pinned : Pinned := { name := "ytlpoldnidojgmaa", sum := "c3883a19607ca23068d59fe7c61819e83d8924c822285925627bd91257bca56a", checked := Try.checked }
namespace Rows
def none {H : Type} : Left H := { results := [], args := [] }

/-- 'charabanclaw25.SioWrites': WHATEVER THE INPUT: true; the input reads as it did. -/
def sioWritesSpec : ChangeSpec := { name := "sioWrites", fn := fun _ => fun
  | [d1, d2, d3] => { results := [.lit (.bool true)], args := [d1, d2, d3] }
  | _ => none }
def sioWritesRow : OpenClaim := { program := "ytlpoldnidojgmaa", sum := "c3883a19607ca23068d59fe7c61819e83d8924c822285925627bd91257bca56a", func := "charabanc/charabanclaw25.SioWrites", spec := "sioWrites", unfollowed := true, recurses := true, apart := false }
def SioWritesSaid : Prop := sioWritesRow.holds Try.pinned (OpenSpec.ofChange sioWritesSpec)

/-- ITS FALSE NEIGHBOUR: 'it returns false'. Refute it at one input. -/
def sioWritesWrong : ChangeSpec := { name := "sioWrites", fn := fun _ => fun
  | [d1, d2, d3] => { results := [.lit (.bool false)], args := [d1, d2, d3] }
  | _ => none }
def SioWritesWrongFalsely : Prop := sioWritesRow.holds Try.pinned (OpenSpec.ofChange sioWritesWrong)

/-- 'charabanclaw25.SioMoves': WHATEVER THE INPUT: true; the input reads as it did. -/
def sioMovesSpec : ChangeSpec := { name := "sioMoves", fn := fun _ => fun
  | [d1, d2, d3] => { results := [.lit (.bool true)], args := [d1, d2, d3] }
  | _ => none }
def sioMovesRow : OpenClaim := { program := "ytlpoldnidojgmaa", sum := "c3883a19607ca23068d59fe7c61819e83d8924c822285925627bd91257bca56a", func := "charabanc/charabanclaw25.SioMoves", spec := "sioMoves", unfollowed := true, recurses := true, apart := false }
def SioMovesSaid : Prop := sioMovesRow.holds Try.pinned (OpenSpec.ofChange sioMovesSpec)

/-- ITS FALSE NEIGHBOUR: 'it returns false'. Refute it at one input. -/
def sioMovesWrong : ChangeSpec := { name := "sioMoves", fn := fun _ => fun
  | [d1, d2, d3] => { results := [.lit (.bool false)], args := [d1, d2, d3] }
  | _ => none }
def SioMovesWrongFalsely : Prop := sioMovesRow.holds Try.pinned (OpenSpec.ofChange sioMovesWrong)

/-- 'charabanclaw25.SioPlays': WHATEVER THE INPUT: true; the input reads as it did. -/
def sioPlaysSpec : ChangeSpec := { name := "sioPlays", fn := fun _ => fun
  | [d1, d2] => { results := [.lit (.bool true)], args := [d1, d2] }
  | _ => none }
def sioPlaysRow : OpenClaim := { program := "ytlpoldnidojgmaa", sum := "c3883a19607ca23068d59fe7c61819e83d8924c822285925627bd91257bca56a", func := "charabanc/charabanclaw25.SioPlays", spec := "sioPlays", unfollowed := true, recurses := true, apart := false }
def SioPlaysSaid : Prop := sioPlaysRow.holds Try.pinned (OpenSpec.ofChange sioPlaysSpec)

/-- ITS FALSE NEIGHBOUR: 'it returns false'. Refute it at one input. -/
def sioPlaysWrong : ChangeSpec := { name := "sioPlays", fn := fun _ => fun
  | [d1, d2] => { results := [.lit (.bool false)], args := [d1, d2] }
  | _ => none }
def SioPlaysWrongFalsely : Prop := sioPlaysRow.holds Try.pinned (OpenSpec.ofChange sioPlaysWrong)

/-- 'charabanclaw25.SioOrder': WHATEVER THE INPUT: true; the input reads as it did. -/
def sioOrderSpec : ChangeSpec := { name := "sioOrder", fn := fun _ => fun
  | [d1, d2] => { results := [.lit (.bool true)], args := [d1, d2] }
  | _ => none }
def sioOrderRow : OpenClaim := { program := "ytlpoldnidojgmaa", sum := "c3883a19607ca23068d59fe7c61819e83d8924c822285925627bd91257bca56a", func := "charabanc/charabanclaw25.SioOrder", spec := "sioOrder", unfollowed := true, recurses := true, apart := false }
def SioOrderSaid : Prop := sioOrderRow.holds Try.pinned (OpenSpec.ofChange sioOrderSpec)

/-- ITS FALSE NEIGHBOUR: 'it returns false'. Refute it at one input. -/
def sioOrderWrong : ChangeSpec := { name := "sioOrder", fn := fun _ => fun
  | [d1, d2] => { results := [.lit (.bool false)], args := [d1, d2] }
  | _ => none }
def SioOrderWrongFalsely : Prop := sioOrderRow.holds Try.pinned (OpenSpec.ofChange sioOrderWrong)

/-- 'charabanclaw21.DmaregWrites': WHATEVER THE INPUT: true; the input reads as it did. -/
def dmaregWritesSpec : ChangeSpec := { name := "dmaregWrites", fn := fun _ => fun
  | [d1, d2] => { results := [.lit (.bool true)], args := [d1, d2] }
  | _ => none }
def dmaregWritesRow : OpenClaim := { program := "ytlpoldnidojgmaa", sum := "c3883a19607ca23068d59fe7c61819e83d8924c822285925627bd91257bca56a", func := "charabanc/charabanclaw21.DmaregWrites", spec := "dmaregWrites", unfollowed := true, recurses := true, apart := false }
def DmaregWritesSaid : Prop := dmaregWritesRow.holds Try.pinned (OpenSpec.ofChange dmaregWritesSpec)

/-- ITS FALSE NEIGHBOUR: 'it returns false'. Refute it at one input. -/
def dmaregWritesWrong : ChangeSpec := { name := "dmaregWrites", fn := fun _ => fun
  | [d1, d2] => { results := [.lit (.bool false)], args := [d1, d2] }
  | _ => none }
def DmaregWritesWrongFalsely : Prop := dmaregWritesRow.holds Try.pinned (OpenSpec.ofChange dmaregWritesWrong)

/-- 'charabanclaw21.DmaregAll': WHATEVER THE INPUT: true; the input reads as it did. -/
def dmaregAllSpec : ChangeSpec := { name := "dmaregAll", fn := fun _ => fun
  | [d] => { results := [.lit (.bool true)], args := [d] }
  | _ => none }
def dmaregAllRow : OpenClaim := { program := "ytlpoldnidojgmaa", sum := "c3883a19607ca23068d59fe7c61819e83d8924c822285925627bd91257bca56a", func := "charabanc/charabanclaw21.DmaregAll", spec := "dmaregAll", unfollowed := true, recurses := true, apart := false }
def DmaregAllSaid : Prop := dmaregAllRow.holds Try.pinned (OpenSpec.ofChange dmaregAllSpec)

/-- ITS FALSE NEIGHBOUR: 'it returns false'. Refute it at one input. -/
def dmaregAllWrong : ChangeSpec := { name := "dmaregAll", fn := fun _ => fun
  | [d] => { results := [.lit (.bool false)], args := [d] }
  | _ => none }
def DmaregAllWrongFalsely : Prop := dmaregAllRow.holds Try.pinned (OpenSpec.ofChange dmaregAllWrong)

/-- 'charabanclaw21.DmaregForgets': WHATEVER THE INPUT: true; the input reads as it did. -/
def dmaregForgetsSpec : ChangeSpec := { name := "dmaregForgets", fn := fun _ => fun
  | [d1, d2] => { results := [.lit (.bool true)], args := [d1, d2] }
  | _ => none }
def dmaregForgetsRow : OpenClaim := { program := "ytlpoldnidojgmaa", sum := "c3883a19607ca23068d59fe7c61819e83d8924c822285925627bd91257bca56a", func := "charabanc/charabanclaw21.DmaregForgets", spec := "dmaregForgets", unfollowed := true, recurses := true, apart := false }
def DmaregForgetsSaid : Prop := dmaregForgetsRow.holds Try.pinned (OpenSpec.ofChange dmaregForgetsSpec)

/-- ITS FALSE NEIGHBOUR: 'it returns false'. Refute it at one input. -/
def dmaregForgetsWrong : ChangeSpec := { name := "dmaregForgets", fn := fun _ => fun
  | [d1, d2] => { results := [.lit (.bool false)], args := [d1, d2] }
  | _ => none }
def DmaregForgetsWrongFalsely : Prop := dmaregForgetsRow.holds Try.pinned (OpenSpec.ofChange dmaregForgetsWrong)

/- THE SECOND FORM. 'bulk': how many values and letters a reading holds, each counted each time it is reached (what is shared counts as often as it is met; a slice's spare places count too). A statement '..UptoSaid' is the law's where the arguments, and the package variables that the reading takes, are together of bulk at most 1048576: NARROWER than '..Said'. Prove '..Said' where nothing that the law and all that it calls make is longer than what came in: it says more and counts as full. Else prove '..UptoSaid'. A law counts once. -/
mutual
def uptoBulk {H : Type} : DataW H → Nat
  | .lit (.string bytes) => bytes.length + 1
  | .lit _ => 1
  | .nil => 1
  | .ptr d => uptoBulk d + 1
  | .slice elems spare => uptoBulkAll elems + uptoBulkAll spare + 1
  | .agg parts => uptoBulkAll parts + 1
  | .iface _ d => uptoBulk d + 1
  | .map entries => uptoBulkEntries entries + 1
  | .held _ => 1
def uptoBulkAll {H : Type} : List (DataW H) → Nat
  | [] => 0
  | d :: r => uptoBulk d + uptoBulkAll r
def uptoBulkEntries {H : Type} : List (Lit × DataW H) → Nat
  | [] => 0
  | x :: r => uptoBulkEntry x + uptoBulkEntries r
def uptoBulkEntry {H : Type} : Lit × DataW H → Nat
  | (.string bytes, d) => bytes.length + uptoBulk d + 1
  | (_, d) => uptoBulk d + 1
 end
def uptoSmall : (H : Type) → List (DataW H) → Bool := fun _ ds => decide (uptoBulkAll ds ≤ 1048576)
def OpenSpec.upto (s : _root_.Go.ChangeSpec) : _root_.Go.OpenSpec := { _root_.Go.OpenSpec.ofChange s with cond := some uptoSmall }

/-- 'charabanclaw25.SioWrites', WHERE WHAT IT READS IS OF BULK AT MOST 1048576: true; the input reads as it did. -/
def sioWritesUptoRow : OpenClaim := { program := "ytlpoldnidojgmaa", sum := "c3883a19607ca23068d59fe7c61819e83d8924c822285925627bd91257bca56a", func := "charabanc/charabanclaw25.SioWrites", spec := "sioWrites", unfollowed := true, recurses := true, apart := false, narrowed := true }
def SioWritesUptoSaid : Prop := sioWritesUptoRow.holds Try.pinned (OpenSpec.upto sioWritesSpec)

/-- 'charabanclaw25.SioMoves', WHERE WHAT IT READS IS OF BULK AT MOST 1048576: true; the input reads as it did. -/
def sioMovesUptoRow : OpenClaim := { program := "ytlpoldnidojgmaa", sum := "c3883a19607ca23068d59fe7c61819e83d8924c822285925627bd91257bca56a", func := "charabanc/charabanclaw25.SioMoves", spec := "sioMoves", unfollowed := true, recurses := true, apart := false, narrowed := true }
def SioMovesUptoSaid : Prop := sioMovesUptoRow.holds Try.pinned (OpenSpec.upto sioMovesSpec)

/-- 'charabanclaw25.SioPlays', WHERE WHAT IT READS IS OF BULK AT MOST 1048576: true; the input reads as it did. -/
def sioPlaysUptoRow : OpenClaim := { program := "ytlpoldnidojgmaa", sum := "c3883a19607ca23068d59fe7c61819e83d8924c822285925627bd91257bca56a", func := "charabanc/charabanclaw25.SioPlays", spec := "sioPlays", unfollowed := true, recurses := true, apart := false, narrowed := true }
def SioPlaysUptoSaid : Prop := sioPlaysUptoRow.holds Try.pinned (OpenSpec.upto sioPlaysSpec)

/-- 'charabanclaw25.SioOrder', WHERE WHAT IT READS IS OF BULK AT MOST 1048576: true; the input reads as it did. -/
def sioOrderUptoRow : OpenClaim := { program := "ytlpoldnidojgmaa", sum := "c3883a19607ca23068d59fe7c61819e83d8924c822285925627bd91257bca56a", func := "charabanc/charabanclaw25.SioOrder", spec := "sioOrder", unfollowed := true, recurses := true, apart := false, narrowed := true }
def SioOrderUptoSaid : Prop := sioOrderUptoRow.holds Try.pinned (OpenSpec.upto sioOrderSpec)

/-- 'charabanclaw21.DmaregWrites', WHERE WHAT IT READS IS OF BULK AT MOST 1048576: true; the input reads as it did. -/
def dmaregWritesUptoRow : OpenClaim := { program := "ytlpoldnidojgmaa", sum := "c3883a19607ca23068d59fe7c61819e83d8924c822285925627bd91257bca56a", func := "charabanc/charabanclaw21.DmaregWrites", spec := "dmaregWrites", unfollowed := true, recurses := true, apart := false, narrowed := true }
def DmaregWritesUptoSaid : Prop := dmaregWritesUptoRow.holds Try.pinned (OpenSpec.upto dmaregWritesSpec)

/-- 'charabanclaw21.DmaregAll', WHERE WHAT IT READS IS OF BULK AT MOST 1048576: true; the input reads as it did. -/
def dmaregAllUptoRow : OpenClaim := { program := "ytlpoldnidojgmaa", sum := "c3883a19607ca23068d59fe7c61819e83d8924c822285925627bd91257bca56a", func := "charabanc/charabanclaw21.DmaregAll", spec := "dmaregAll", unfollowed := true, recurses := true, apart := false, narrowed := true }
def DmaregAllUptoSaid : Prop := dmaregAllUptoRow.holds Try.pinned (OpenSpec.upto dmaregAllSpec)

/-- 'charabanclaw21.DmaregForgets', WHERE WHAT IT READS IS OF BULK AT MOST 1048576: true; the input reads as it did. -/
def dmaregForgetsUptoRow : OpenClaim := { program := "ytlpoldnidojgmaa", sum := "c3883a19607ca23068d59fe7c61819e83d8924c822285925627bd91257bca56a", func := "charabanc/charabanclaw21.DmaregForgets", spec := "dmaregForgets", unfollowed := true, recurses := true, apart := false, narrowed := true }
def DmaregForgetsUptoSaid : Prop := dmaregForgetsUptoRow.holds Try.pinned (OpenSpec.upto dmaregForgetsSpec)

end Rows
end Go.Proofs.Ytlpoldnidojgmaa
