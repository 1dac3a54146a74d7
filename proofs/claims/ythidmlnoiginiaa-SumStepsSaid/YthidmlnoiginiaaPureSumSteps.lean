/- The statement SumSteps over plain numbers: one more, and one less, of a byte, with their flags, are the reference's; C is kept. -/
import Derived.Test.YthidmlnoiginiaaPureSum
import Derived.Test.YthidmlnoiginiaaPSx2
namespace Go.Proofs.Ythidmlnoiginiaa.Pure
open Go.RowKit Go.Proofs.Ythidmlnoiginiaa.PS Go.Proofs.YthidmlnoiginiaaW.PrintWords Go.Proofs.YthidmlnoiginiaaW.PrintLast Go.Proofs.YthidmlnoiginiaaW.PrintMore
theorem SumSteps : charabanclaw03_SumSteps.Pure := by
  intro a f wa wf
  have ba := bounds_u8 wa
  have bf := bounds_u8 wf
  refine ⟨6, ?_⟩
  unfold charabanclaw03_SumSteps.f charabancref03_Inc.f charabancref03_Dec.f
  rw [awake03, inc_is 0 a f ba.1 ba.2, dec_is 0 a f ba.1 ba.2, if_pos ⟨ba, bf⟩, if_pos ⟨ba, bf⟩]
  simp only [Option.bind_some, if_true, M.carry_same, beq_self_eq_true]
end Go.Proofs.Ythidmlnoiginiaa.Pure
