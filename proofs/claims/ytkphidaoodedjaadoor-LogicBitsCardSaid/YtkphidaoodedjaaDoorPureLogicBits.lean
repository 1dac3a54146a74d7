/- The statement LogicBits over plain numbers: and, or, xor and their flags are the reference's. -/
import Derived.Test.YtkphidaoodedjaaDoorPureLogic
namespace Go.Proofs.YtkphidaoodedjaaDoor.Pure
open Go.RowKit Go.Proofs.YtkphidaoodedjaaDoor.PL Go.Proofs.YtkphidaoodedjaaDoorW.PrintWords Go.Proofs.YtkphidaoodedjaaDoorW.PrintLast Go.Proofs.YtkphidaoodedjaaDoorW.PrintMore
theorem LogicBits : charabanclaw05_LogicBits.Pure := by
  intro a b wa wb
  have ba := bounds_u8 wa
  have bb := bounds_u8 wb
  refine ⟨36, ?_⟩
  unfold charabanclaw05_LogicBits.f logic_And.f logic_Or.f logic_Xor.f
  rw [awake05, if_pos ⟨ba, bb⟩, if_pos ⟨ba, bb⟩, if_pos ⟨ba, bb⟩, refand_is a b ba.1 ba.2 bb.1 bb.2, refor_is a b ba.1 ba.2 bb.1 bb.2, refxor_is a b ba.1 ba.2 bb.1 bb.2]
  simp only [Option.bind_some, if_true, beq_self_eq_true]
end Go.Proofs.YtkphidaoodedjaaDoor.Pure
