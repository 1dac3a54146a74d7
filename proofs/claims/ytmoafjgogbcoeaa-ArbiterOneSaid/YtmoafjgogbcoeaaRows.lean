/-
  No cell of these rows narrows 'for every input' (looked for: loops, veiled, ifaces, maps, wideKeys, modest, calm, conditions, laid).
  DERIVED. THE GIVEN ROWS OF THIS SEAT. 12 by the template 'for every input the law returns true; each argument reads behind the call as it read before'; 0 by the template 'total and deterministic' (their statements: YtmoafjgogbcoeaaTotals.lean).
  GIVEN WITH THE SEED: the statements are not yours to turn. If you find one false, say at which input.
  Laid BY PROGRAM, IN A SANDBOX (cutbox-rows.mjs): the forced cells as the released guide's own fill.sh prints them over the translation e8013305ed367492… (all of the seat's roots in one cut). By AI agents, Wed Nov 11 2026. No macro, syntax, notation, axiom, sorry.
-/
import Derived.Test.YtmoafjgogbcoeaaChecked
import GoSem.Claim
import GoSem.ClaimJoined
import GoSem.ClaimMapViews
import Derived.JoinedTies
import Derived.KernelRfl
namespace Go.Proofs.Ytmoafjgogbcoeaa
/- THE CELL 'sum', in the pinned program and in every row, IS THE sha256 OF THE DUMP (.gsa) THAT YtmoafjgogbcoeaaProg.lean LOADS. Nothing in Lean hashes anything: it is a label: what it is worth is what the hold of that sum in a sandbox is worth. -/
noncomputable def Try.pinned : Pinned := { name := "ytmoafjgogbcoeaa", sum := "e8013305ed3674929dfb4d7165fb6830a714a864004ded8f16433bb8017466a5", checked := Try.checked }
namespace Rows
def none {H : Type} : Left H := { results := [], args := [] }

/-- 'charabanclaw27.ArbiterTicks': WHATEVER THE INPUT: true; the input reads as it did. -/
def arbiterTicksSpec : ChangeSpec := { name := "arbiterTicks", fn := fun _ => fun
  | [d1, d2, d3] => { results := [.lit (.bool true)], args := [d1, d2, d3] }
  | _ => none }
def arbiterTicksRow : OpenClaim := { program := "ytmoafjgogbcoeaa", sum := "e8013305ed3674929dfb4d7165fb6830a714a864004ded8f16433bb8017466a5", func := "charabanc/charabanclaw27.ArbiterTicks", spec := "arbiterTicks", unfollowed := true, recurses := true, apart := false }
def ArbiterTicksSaid : Prop := arbiterTicksRow.holds Try.pinned (OpenSpec.ofChange arbiterTicksSpec)

/-- ITS FALSE NEIGHBOUR: 'it returns false'. Refute it at one input. -/
def arbiterTicksWrong : ChangeSpec := { name := "arbiterTicks", fn := fun _ => fun
  | [d1, d2, d3] => { results := [.lit (.bool false)], args := [d1, d2, d3] }
  | _ => none }
def ArbiterTicksWrongFalsely : Prop := arbiterTicksRow.holds Try.pinned (OpenSpec.ofChange arbiterTicksWrong)

/-- 'charabanclaw27.ArbiterPlays': WHATEVER THE INPUT: true; the input reads as it did. -/
def arbiterPlaysSpec : ChangeSpec := { name := "arbiterPlays", fn := fun _ => fun
  | [d1, d2, d3] => { results := [.lit (.bool true)], args := [d1, d2, d3] }
  | _ => none }
def arbiterPlaysRow : OpenClaim := { program := "ytmoafjgogbcoeaa", sum := "e8013305ed3674929dfb4d7165fb6830a714a864004ded8f16433bb8017466a5", func := "charabanc/charabanclaw27.ArbiterPlays", spec := "arbiterPlays", unfollowed := true, recurses := true, apart := false }
def ArbiterPlaysSaid : Prop := arbiterPlaysRow.holds Try.pinned (OpenSpec.ofChange arbiterPlaysSpec)

/-- ITS FALSE NEIGHBOUR: 'it returns false'. Refute it at one input. -/
def arbiterPlaysWrong : ChangeSpec := { name := "arbiterPlays", fn := fun _ => fun
  | [d1, d2, d3] => { results := [.lit (.bool false)], args := [d1, d2, d3] }
  | _ => none }
def ArbiterPlaysWrongFalsely : Prop := arbiterPlaysRow.holds Try.pinned (OpenSpec.ofChange arbiterPlaysWrong)

/-- 'charabanclaw27.ArbiterOne': WHATEVER THE INPUT: true; the input reads as it did. -/
def arbiterOneSpec : ChangeSpec := { name := "arbiterOne", fn := fun _ => fun
  | [d1, d2, d3] => { results := [.lit (.bool true)], args := [d1, d2, d3] }
  | _ => none }
def arbiterOneRow : OpenClaim := { program := "ytmoafjgogbcoeaa", sum := "e8013305ed3674929dfb4d7165fb6830a714a864004ded8f16433bb8017466a5", func := "charabanc/charabanclaw27.ArbiterOne", spec := "arbiterOne", unfollowed := true, recurses := true, apart := false }
def ArbiterOneSaid : Prop := arbiterOneRow.holds Try.pinned (OpenSpec.ofChange arbiterOneSpec)

/-- ITS FALSE NEIGHBOUR: 'it returns false'. Refute it at one input. -/
def arbiterOneWrong : ChangeSpec := { name := "arbiterOne", fn := fun _ => fun
  | [d1, d2, d3] => { results := [.lit (.bool false)], args := [d1, d2, d3] }
  | _ => none }
def ArbiterOneWrongFalsely : Prop := arbiterOneRow.holds Try.pinned (OpenSpec.ofChange arbiterOneWrong)

/-- 'charabanclaw23.CtcWrites': WHATEVER THE INPUT: true; the input reads as it did. -/
def ctcWritesSpec : ChangeSpec := { name := "ctcWrites", fn := fun _ => fun
  | [d1, d2, d3] => { results := [.lit (.bool true)], args := [d1, d2, d3] }
  | _ => none }
def ctcWritesRow : OpenClaim := { program := "ytmoafjgogbcoeaa", sum := "e8013305ed3674929dfb4d7165fb6830a714a864004ded8f16433bb8017466a5", func := "charabanc/charabanclaw23.CtcWrites", spec := "ctcWrites", unfollowed := true, recurses := true, apart := false }
def CtcWritesSaid : Prop := ctcWritesRow.holds Try.pinned (OpenSpec.ofChange ctcWritesSpec)

/-- ITS FALSE NEIGHBOUR: 'it returns false'. Refute it at one input. -/
def ctcWritesWrong : ChangeSpec := { name := "ctcWrites", fn := fun _ => fun
  | [d1, d2, d3] => { results := [.lit (.bool false)], args := [d1, d2, d3] }
  | _ => none }
def CtcWritesWrongFalsely : Prop := ctcWritesRow.holds Try.pinned (OpenSpec.ofChange ctcWritesWrong)

/-- 'charabanclaw23.CtcTicks': WHATEVER THE INPUT: true; the input reads as it did. -/
def ctcTicksSpec : ChangeSpec := { name := "ctcTicks", fn := fun _ => fun
  | [d1, d2] => { results := [.lit (.bool true)], args := [d1, d2] }
  | _ => none }
def ctcTicksRow : OpenClaim := { program := "ytmoafjgogbcoeaa", sum := "e8013305ed3674929dfb4d7165fb6830a714a864004ded8f16433bb8017466a5", func := "charabanc/charabanclaw23.CtcTicks", spec := "ctcTicks", unfollowed := true, recurses := true, apart := false }
def CtcTicksSaid : Prop := ctcTicksRow.holds Try.pinned (OpenSpec.ofChange ctcTicksSpec)

/-- ITS FALSE NEIGHBOUR: 'it returns false'. Refute it at one input. -/
def ctcTicksWrong : ChangeSpec := { name := "ctcTicks", fn := fun _ => fun
  | [d1, d2] => { results := [.lit (.bool false)], args := [d1, d2] }
  | _ => none }
def CtcTicksWrongFalsely : Prop := ctcTicksRow.holds Try.pinned (OpenSpec.ofChange ctcTicksWrong)

/-- 'charabanclaw23.CtcPlays': WHATEVER THE INPUT: true; the input reads as it did. -/
def ctcPlaysSpec : ChangeSpec := { name := "ctcPlays", fn := fun _ => fun
  | [d1, d2] => { results := [.lit (.bool true)], args := [d1, d2] }
  | _ => none }
def ctcPlaysRow : OpenClaim := { program := "ytmoafjgogbcoeaa", sum := "e8013305ed3674929dfb4d7165fb6830a714a864004ded8f16433bb8017466a5", func := "charabanc/charabanclaw23.CtcPlays", spec := "ctcPlays", unfollowed := true, recurses := true, apart := false }
def CtcPlaysSaid : Prop := ctcPlaysRow.holds Try.pinned (OpenSpec.ofChange ctcPlaysSpec)

/-- ITS FALSE NEIGHBOUR: 'it returns false'. Refute it at one input. -/
def ctcPlaysWrong : ChangeSpec := { name := "ctcPlays", fn := fun _ => fun
  | [d1, d2] => { results := [.lit (.bool false)], args := [d1, d2] }
  | _ => none }
def CtcPlaysWrongFalsely : Prop := ctcPlaysRow.holds Try.pinned (OpenSpec.ofChange ctcPlaysWrong)

/-- 'charabanclaw23.CtcPeriods': WHATEVER THE INPUT: true; the input reads as it did. -/
def ctcPeriodsSpec : ChangeSpec := { name := "ctcPeriods", fn := fun _ => fun
  | [d1, d2, d3] => { results := [.lit (.bool true)], args := [d1, d2, d3] }
  | _ => none }
def ctcPeriodsRow : OpenClaim := { program := "ytmoafjgogbcoeaa", sum := "e8013305ed3674929dfb4d7165fb6830a714a864004ded8f16433bb8017466a5", func := "charabanc/charabanclaw23.CtcPeriods", spec := "ctcPeriods", unfollowed := true, recurses := true, apart := false }
def CtcPeriodsSaid : Prop := ctcPeriodsRow.holds Try.pinned (OpenSpec.ofChange ctcPeriodsSpec)

/-- ITS FALSE NEIGHBOUR: 'it returns false'. Refute it at one input. -/
def ctcPeriodsWrong : ChangeSpec := { name := "ctcPeriods", fn := fun _ => fun
  | [d1, d2, d3] => { results := [.lit (.bool false)], args := [d1, d2, d3] }
  | _ => none }
def CtcPeriodsWrongFalsely : Prop := ctcPeriodsRow.holds Try.pinned (OpenSpec.ofChange ctcPeriodsWrong)

/-- 'charabanclaw23.CtcApart': WHATEVER THE INPUT: true; the input reads as it did. -/
def ctcApartSpec : ChangeSpec := { name := "ctcApart", fn := fun _ => fun
  | [d1, d2, d3] => { results := [.lit (.bool true)], args := [d1, d2, d3] }
  | _ => none }
def ctcApartRow : OpenClaim := { program := "ytmoafjgogbcoeaa", sum := "e8013305ed3674929dfb4d7165fb6830a714a864004ded8f16433bb8017466a5", func := "charabanc/charabanclaw23.CtcApart", spec := "ctcApart", unfollowed := true, recurses := true, apart := false }
def CtcApartSaid : Prop := ctcApartRow.holds Try.pinned (OpenSpec.ofChange ctcApartSpec)

/-- ITS FALSE NEIGHBOUR: 'it returns false'. Refute it at one input. -/
def ctcApartWrong : ChangeSpec := { name := "ctcApart", fn := fun _ => fun
  | [d1, d2, d3] => { results := [.lit (.bool false)], args := [d1, d2, d3] }
  | _ => none }
def CtcApartWrongFalsely : Prop := ctcApartRow.holds Try.pinned (OpenSpec.ofChange ctcApartWrong)

/-- 'charabanclaw24.PioWrites': WHATEVER THE INPUT: true; the input reads as it did. -/
def pioWritesSpec : ChangeSpec := { name := "pioWrites", fn := fun _ => fun
  | [d1, d2, d3] => { results := [.lit (.bool true)], args := [d1, d2, d3] }
  | _ => none }
def pioWritesRow : OpenClaim := { program := "ytmoafjgogbcoeaa", sum := "e8013305ed3674929dfb4d7165fb6830a714a864004ded8f16433bb8017466a5", func := "charabanc/charabanclaw24.PioWrites", spec := "pioWrites", unfollowed := true, recurses := true, apart := false }
def PioWritesSaid : Prop := pioWritesRow.holds Try.pinned (OpenSpec.ofChange pioWritesSpec)

/-- ITS FALSE NEIGHBOUR: 'it returns false'. Refute it at one input. -/
def pioWritesWrong : ChangeSpec := { name := "pioWrites", fn := fun _ => fun
  | [d1, d2, d3] => { results := [.lit (.bool false)], args := [d1, d2, d3] }
  | _ => none }
def PioWritesWrongFalsely : Prop := pioWritesRow.holds Try.pinned (OpenSpec.ofChange pioWritesWrong)

/-- 'charabanclaw24.PioLines': WHATEVER THE INPUT: true; the input reads as it did. -/
def pioLinesSpec : ChangeSpec := { name := "pioLines", fn := fun _ => fun
  | [d1, d2, d3] => { results := [.lit (.bool true)], args := [d1, d2, d3] }
  | _ => none }
def pioLinesRow : OpenClaim := { program := "ytmoafjgogbcoeaa", sum := "e8013305ed3674929dfb4d7165fb6830a714a864004ded8f16433bb8017466a5", func := "charabanc/charabanclaw24.PioLines", spec := "pioLines", unfollowed := true, recurses := true, apart := false }
def PioLinesSaid : Prop := pioLinesRow.holds Try.pinned (OpenSpec.ofChange pioLinesSpec)

/-- ITS FALSE NEIGHBOUR: 'it returns false'. Refute it at one input. -/
def pioLinesWrong : ChangeSpec := { name := "pioLines", fn := fun _ => fun
  | [d1, d2, d3] => { results := [.lit (.bool false)], args := [d1, d2, d3] }
  | _ => none }
def PioLinesWrongFalsely : Prop := pioLinesRow.holds Try.pinned (OpenSpec.ofChange pioLinesWrong)

/-- 'charabanclaw24.PioPlays': WHATEVER THE INPUT: true; the input reads as it did. -/
def pioPlaysSpec : ChangeSpec := { name := "pioPlays", fn := fun _ => fun
  | [d1, d2] => { results := [.lit (.bool true)], args := [d1, d2] }
  | _ => none }
def pioPlaysRow : OpenClaim := { program := "ytmoafjgogbcoeaa", sum := "e8013305ed3674929dfb4d7165fb6830a714a864004ded8f16433bb8017466a5", func := "charabanc/charabanclaw24.PioPlays", spec := "pioPlays", unfollowed := true, recurses := true, apart := false }
def PioPlaysSaid : Prop := pioPlaysRow.holds Try.pinned (OpenSpec.ofChange pioPlaysSpec)

/-- ITS FALSE NEIGHBOUR: 'it returns false'. Refute it at one input. -/
def pioPlaysWrong : ChangeSpec := { name := "pioPlays", fn := fun _ => fun
  | [d1, d2] => { results := [.lit (.bool false)], args := [d1, d2] }
  | _ => none }
def PioPlaysWrongFalsely : Prop := pioPlaysRow.holds Try.pinned (OpenSpec.ofChange pioPlaysWrong)

/-- 'charabanclaw24.PioOnce': WHATEVER THE INPUT: true; the input reads as it did. -/
def pioOnceSpec : ChangeSpec := { name := "pioOnce", fn := fun _ => fun
  | [d1, d2, d3] => { results := [.lit (.bool true)], args := [d1, d2, d3] }
  | _ => none }
def pioOnceRow : OpenClaim := { program := "ytmoafjgogbcoeaa", sum := "e8013305ed3674929dfb4d7165fb6830a714a864004ded8f16433bb8017466a5", func := "charabanc/charabanclaw24.PioOnce", spec := "pioOnce", unfollowed := true, recurses := true, apart := false }
def PioOnceSaid : Prop := pioOnceRow.holds Try.pinned (OpenSpec.ofChange pioOnceSpec)

/-- ITS FALSE NEIGHBOUR: 'it returns false'. Refute it at one input. -/
def pioOnceWrong : ChangeSpec := { name := "pioOnce", fn := fun _ => fun
  | [d1, d2, d3] => { results := [.lit (.bool false)], args := [d1, d2, d3] }
  | _ => none }
def PioOnceWrongFalsely : Prop := pioOnceRow.holds Try.pinned (OpenSpec.ofChange pioOnceWrong)

/- THE SECOND FORM. 'bulk': how many values and letters a reading holds, each counted each time it is reached (what is shared counts as often as it is met; a slice's spare places count too). A statement '..UptoSaid' is the law's where the arguments, and the package variables that the reading takes, are together of bulk at most 1048576: NARROWER than '..Said'. Prove '..Said' where nothing that the law and all that it calls make is longer than what came in: it says more and counts as full. Else prove '..UptoSaid'. A law counts once. -/
mutual
def uptoBulk {H : Type} : DataW H → Nat
  | .lit (.string bytes) => bytes.length + 1
  | .lit _ => 1
  | .nil => 1
  | .ptr d => uptoBulk d + 1
  | .slice elems spare => uptoBulkAll elems + uptoBulkAll spare + 1
  | .agg parts => uptoBulkAll parts + 1
  | .iface _ d => uptoBulk d + 1
  | .map entries => uptoBulkEntries entries + 1
  | .held _ => 1
def uptoBulkAll {H : Type} : List (DataW H) → Nat
  | [] => 0
  | d :: r => uptoBulk d + uptoBulkAll r
def uptoBulkEntries {H : Type} : List (Lit × DataW H) → Nat
  | [] => 0
  | x :: r => uptoBulkEntry x + uptoBulkEntries r
def uptoBulkEntry {H : Type} : Lit × DataW H → Nat
  | (.string bytes, d) => bytes.length + uptoBulk d + 1
  | (_, d) => uptoBulk d + 1
 end
def uptoSmall : (H : Type) → List (DataW H) → Bool := fun _ ds => decide (uptoBulkAll ds ≤ 1048576)
def OpenSpec.upto (s : _root_.Go.ChangeSpec) : _root_.Go.OpenSpec := { _root_.Go.OpenSpec.ofChange s with cond := some uptoSmall }

/-- 'charabanclaw27.ArbiterTicks', WHERE WHAT IT READS IS OF BULK AT MOST 1048576: true; the input reads as it did. -/
def arbiterTicksUptoRow : OpenClaim := { program := "ytmoafjgogbcoeaa", sum := "e8013305ed3674929dfb4d7165fb6830a714a864004ded8f16433bb8017466a5", func := "charabanc/charabanclaw27.ArbiterTicks", spec := "arbiterTicks", unfollowed := true, recurses := true, apart := false, narrowed := true }
def ArbiterTicksUptoSaid : Prop := arbiterTicksUptoRow.holds Try.pinned (OpenSpec.upto arbiterTicksSpec)

/-- 'charabanclaw27.ArbiterPlays', WHERE WHAT IT READS IS OF BULK AT MOST 1048576: true; the input reads as it did. -/
def arbiterPlaysUptoRow : OpenClaim := { program := "ytmoafjgogbcoeaa", sum := "e8013305ed3674929dfb4d7165fb6830a714a864004ded8f16433bb8017466a5", func := "charabanc/charabanclaw27.ArbiterPlays", spec := "arbiterPlays", unfollowed := true, recurses := true, apart := false, narrowed := true }
def ArbiterPlaysUptoSaid : Prop := arbiterPlaysUptoRow.holds Try.pinned (OpenSpec.upto arbiterPlaysSpec)

/-- 'charabanclaw27.ArbiterOne', WHERE WHAT IT READS IS OF BULK AT MOST 1048576: true; the input reads as it did. -/
def arbiterOneUptoRow : OpenClaim := { program := "ytmoafjgogbcoeaa", sum := "e8013305ed3674929dfb4d7165fb6830a714a864004ded8f16433bb8017466a5", func := "charabanc/charabanclaw27.ArbiterOne", spec := "arbiterOne", unfollowed := true, recurses := true, apart := false, narrowed := true }
def ArbiterOneUptoSaid : Prop := arbiterOneUptoRow.holds Try.pinned (OpenSpec.upto arbiterOneSpec)

/-- 'charabanclaw23.CtcWrites', WHERE WHAT IT READS IS OF BULK AT MOST 1048576: true; the input reads as it did. -/
def ctcWritesUptoRow : OpenClaim := { program := "ytmoafjgogbcoeaa", sum := "e8013305ed3674929dfb4d7165fb6830a714a864004ded8f16433bb8017466a5", func := "charabanc/charabanclaw23.CtcWrites", spec := "ctcWrites", unfollowed := true, recurses := true, apart := false, narrowed := true }
def CtcWritesUptoSaid : Prop := ctcWritesUptoRow.holds Try.pinned (OpenSpec.upto ctcWritesSpec)

/-- 'charabanclaw23.CtcTicks', WHERE WHAT IT READS IS OF BULK AT MOST 1048576: true; the input reads as it did. -/
def ctcTicksUptoRow : OpenClaim := { program := "ytmoafjgogbcoeaa", sum := "e8013305ed3674929dfb4d7165fb6830a714a864004ded8f16433bb8017466a5", func := "charabanc/charabanclaw23.CtcTicks", spec := "ctcTicks", unfollowed := true, recurses := true, apart := false, narrowed := true }
def CtcTicksUptoSaid : Prop := ctcTicksUptoRow.holds Try.pinned (OpenSpec.upto ctcTicksSpec)

/-- 'charabanclaw23.CtcPlays', WHERE WHAT IT READS IS OF BULK AT MOST 1048576: true; the input reads as it did. -/
def ctcPlaysUptoRow : OpenClaim := { program := "ytmoafjgogbcoeaa", sum := "e8013305ed3674929dfb4d7165fb6830a714a864004ded8f16433bb8017466a5", func := "charabanc/charabanclaw23.CtcPlays", spec := "ctcPlays", unfollowed := true, recurses := true, apart := false, narrowed := true }
def CtcPlaysUptoSaid : Prop := ctcPlaysUptoRow.holds Try.pinned (OpenSpec.upto ctcPlaysSpec)

/-- 'charabanclaw23.CtcPeriods', WHERE WHAT IT READS IS OF BULK AT MOST 1048576: true; the input reads as it did. -/
def ctcPeriodsUptoRow : OpenClaim := { program := "ytmoafjgogbcoeaa", sum := "e8013305ed3674929dfb4d7165fb6830a714a864004ded8f16433bb8017466a5", func := "charabanc/charabanclaw23.CtcPeriods", spec := "ctcPeriods", unfollowed := true, recurses := true, apart := false, narrowed := true }
def CtcPeriodsUptoSaid : Prop := ctcPeriodsUptoRow.holds Try.pinned (OpenSpec.upto ctcPeriodsSpec)

/-- 'charabanclaw23.CtcApart', WHERE WHAT IT READS IS OF BULK AT MOST 1048576: true; the input reads as it did. -/
def ctcApartUptoRow : OpenClaim := { program := "ytmoafjgogbcoeaa", sum := "e8013305ed3674929dfb4d7165fb6830a714a864004ded8f16433bb8017466a5", func := "charabanc/charabanclaw23.CtcApart", spec := "ctcApart", unfollowed := true, recurses := true, apart := false, narrowed := true }
def CtcApartUptoSaid : Prop := ctcApartUptoRow.holds Try.pinned (OpenSpec.upto ctcApartSpec)

/-- 'charabanclaw24.PioWrites', WHERE WHAT IT READS IS OF BULK AT MOST 1048576: true; the input reads as it did. -/
def pioWritesUptoRow : OpenClaim := { program := "ytmoafjgogbcoeaa", sum := "e8013305ed3674929dfb4d7165fb6830a714a864004ded8f16433bb8017466a5", func := "charabanc/charabanclaw24.PioWrites", spec := "pioWrites", unfollowed := true, recurses := true, apart := false, narrowed := true }
def PioWritesUptoSaid : Prop := pioWritesUptoRow.holds Try.pinned (OpenSpec.upto pioWritesSpec)

/-- 'charabanclaw24.PioLines', WHERE WHAT IT READS IS OF BULK AT MOST 1048576: true; the input reads as it did. -/
def pioLinesUptoRow : OpenClaim := { program := "ytmoafjgogbcoeaa", sum := "e8013305ed3674929dfb4d7165fb6830a714a864004ded8f16433bb8017466a5", func := "charabanc/charabanclaw24.PioLines", spec := "pioLines", unfollowed := true, recurses := true, apart := false, narrowed := true }
def PioLinesUptoSaid : Prop := pioLinesUptoRow.holds Try.pinned (OpenSpec.upto pioLinesSpec)

/-- 'charabanclaw24.PioPlays', WHERE WHAT IT READS IS OF BULK AT MOST 1048576: true; the input reads as it did. -/
def pioPlaysUptoRow : OpenClaim := { program := "ytmoafjgogbcoeaa", sum := "e8013305ed3674929dfb4d7165fb6830a714a864004ded8f16433bb8017466a5", func := "charabanc/charabanclaw24.PioPlays", spec := "pioPlays", unfollowed := true, recurses := true, apart := false, narrowed := true }
def PioPlaysUptoSaid : Prop := pioPlaysUptoRow.holds Try.pinned (OpenSpec.upto pioPlaysSpec)

/-- 'charabanclaw24.PioOnce', WHERE WHAT IT READS IS OF BULK AT MOST 1048576: true; the input reads as it did. -/
def pioOnceUptoRow : OpenClaim := { program := "ytmoafjgogbcoeaa", sum := "e8013305ed3674929dfb4d7165fb6830a714a864004ded8f16433bb8017466a5", func := "charabanc/charabanclaw24.PioOnce", spec := "pioOnce", unfollowed := true, recurses := true, apart := false, narrowed := true }
def PioOnceUptoSaid : Prop := pioOnceUptoRow.holds Try.pinned (OpenSpec.upto pioOnceSpec)

end Rows
end Go.Proofs.Ytmoafjgogbcoeaa
