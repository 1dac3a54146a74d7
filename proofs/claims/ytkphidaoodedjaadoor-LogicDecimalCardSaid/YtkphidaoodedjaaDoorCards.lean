/-
  DERIVED. GIVEN WITH THE SEED: THE CARDS: each row of YtkphidaoodedjaaDoorRows.lean that lists a variable, with what it lists TIED to the program's text (the seventh form; the later family's looks); each row that meets fmt, with fmt's text TOLD by the authors' own Lean function (tested against real Go, not proved from fmt's source: count such statements apart). THE CARD IS WHAT COUNTS. Prove the row's statement (the work); the ties are given (YtkphidaoodedjaaDoorTie.lean); close each card by the builder's one call (the guide's Derived/Test/ToyasCard.lean, 'card_holds'). Laid BY PROGRAM, IN A SANDBOX (cutbox-door.mjs). By AI agents, Wed Nov 11 2026. No macro, syntax, notation, axiom, sorry.
-/
import Derived.Test.YtkphidaoodedjaaDoorRows
import GoSem.ClaimSeven
namespace Go.Proofs.YtkphidaoodedjaaDoor
namespace Rows

/-- THE TIED CARD OF 'charabanclaw05.LogicBits'. -/
def logicBitsCard : Claim7 := { stood := { row := logicBitsRow, standIns := [], harness := (true, "1dcba9da4f97084eafe5ea988c2f49c5e3fd1e14078efda926271fe129c8c433"), looks := false }, kinds := [], alts := [], laidByText := true, laidKinds := [.data], laidTests := true, laidLooks := .later }
def LogicBitsCardSaid : Prop := Claim7.holds Tryd.pinned (.plain (OpenSpec.ofChange logicBitsSpec)) logicBitsCard

/-- THE TIED CARD OF 'charabanclaw05.LogicTurns'. -/
def logicTurnsCard : Claim7 := { stood := { row := logicTurnsRow, standIns := [], harness := (true, "1dcba9da4f97084eafe5ea988c2f49c5e3fd1e14078efda926271fe129c8c433"), looks := false }, kinds := [], alts := [], laidByText := true, laidKinds := [.data], laidTests := true, laidLooks := .later }
def LogicTurnsCardSaid : Prop := Claim7.holds Tryd.pinned (.plain (OpenSpec.ofChange logicTurnsSpec)) logicTurnsCard

/-- THE TIED CARD OF 'charabanclaw05.LogicSets'. -/
def logicSetsCard : Claim7 := { stood := { row := logicSetsRow, standIns := [], harness := (true, "1dcba9da4f97084eafe5ea988c2f49c5e3fd1e14078efda926271fe129c8c433"), looks := false }, kinds := [], alts := [], laidByText := true, laidKinds := [.data], laidTests := true, laidLooks := .later }
def LogicSetsCardSaid : Prop := Claim7.holds Tryd.pinned (.plain (OpenSpec.ofChange logicSetsSpec)) logicSetsCard

/-- THE TIED CARD OF 'charabanclaw05.LogicDecimal'. -/
def logicDecimalCard : Claim7 := { stood := { row := logicDecimalRow, standIns := [], harness := (true, "1dcba9da4f97084eafe5ea988c2f49c5e3fd1e14078efda926271fe129c8c433"), looks := false }, kinds := [], alts := [], laidByText := true, laidKinds := [.data], laidTests := true, laidLooks := .later }
def LogicDecimalCardSaid : Prop := Claim7.holds Tryd.pinned (.plain (OpenSpec.ofChange logicDecimalSpec)) logicDecimalCard

/-- THE SECOND FORM's CARD OF 'charabanclaw05.LogicBits'. -/
def logicBitsUptoCard : Claim7 := { stood := { row := logicBitsUptoRow, standIns := [], harness := (true, "1dcba9da4f97084eafe5ea988c2f49c5e3fd1e14078efda926271fe129c8c433"), looks := false }, kinds := [], alts := [], laidByText := true, laidKinds := [.data], laidTests := true, laidLooks := .later }
def LogicBitsUptoCardSaid : Prop := Claim7.holds Tryd.pinned (.plain (OpenSpec.upto logicBitsSpec)) logicBitsUptoCard

/-- THE SECOND FORM's CARD OF 'charabanclaw05.LogicTurns'. -/
def logicTurnsUptoCard : Claim7 := { stood := { row := logicTurnsUptoRow, standIns := [], harness := (true, "1dcba9da4f97084eafe5ea988c2f49c5e3fd1e14078efda926271fe129c8c433"), looks := false }, kinds := [], alts := [], laidByText := true, laidKinds := [.data], laidTests := true, laidLooks := .later }
def LogicTurnsUptoCardSaid : Prop := Claim7.holds Tryd.pinned (.plain (OpenSpec.upto logicTurnsSpec)) logicTurnsUptoCard

/-- THE SECOND FORM's CARD OF 'charabanclaw05.LogicSets'. -/
def logicSetsUptoCard : Claim7 := { stood := { row := logicSetsUptoRow, standIns := [], harness := (true, "1dcba9da4f97084eafe5ea988c2f49c5e3fd1e14078efda926271fe129c8c433"), looks := false }, kinds := [], alts := [], laidByText := true, laidKinds := [.data], laidTests := true, laidLooks := .later }
def LogicSetsUptoCardSaid : Prop := Claim7.holds Tryd.pinned (.plain (OpenSpec.upto logicSetsSpec)) logicSetsUptoCard

/-- THE SECOND FORM's CARD OF 'charabanclaw05.LogicDecimal'. -/
def logicDecimalUptoCard : Claim7 := { stood := { row := logicDecimalUptoRow, standIns := [], harness := (true, "1dcba9da4f97084eafe5ea988c2f49c5e3fd1e14078efda926271fe129c8c433"), looks := false }, kinds := [], alts := [], laidByText := true, laidKinds := [.data], laidTests := true, laidLooks := .later }
def LogicDecimalUptoCardSaid : Prop := Claim7.holds Tryd.pinned (.plain (OpenSpec.upto logicDecimalSpec)) logicDecimalUptoCard
end Rows
end Go.Proofs.YtkphidaoodedjaaDoor
