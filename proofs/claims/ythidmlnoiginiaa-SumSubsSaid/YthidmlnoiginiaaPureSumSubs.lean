/- The statement SumSubs over plain numbers: a difference, a comparison, and a byte's other sign, with their flags, are the reference's. -/
import Derived.Test.YthidmlnoiginiaaPureSum
import Derived.Test.YthidmlnoiginiaaPSx2
namespace Go.Proofs.Ythidmlnoiginiaa.Pure
open Go.RowKit Go.Proofs.Ythidmlnoiginiaa.PS Go.Proofs.YthidmlnoiginiaaW.PrintWords Go.Proofs.YthidmlnoiginiaaW.PrintLast Go.Proofs.YthidmlnoiginiaaW.PrintMore
theorem SumSubs : charabanclaw03_SumSubs.Pure := by
  intro a b c wa wb
  have ba := bounds_u8 wa
  have bb := bounds_u8 wb
  refine ⟨6, ?_⟩
  unfold charabanclaw03_SumSubs.f charabancref03_Sub.f charabancref03_Neg.f charabancref03_Cmp.f charabancref03_Sub.f
  rw [awake03, sub_is 0 a b c ba.1 ba.2 bb.1 bb.2, neg_is 0 a ba.1 ba.2, cmp_is 0 a b ba.1 ba.2 bb.1 bb.2, if_pos ⟨ba, bb⟩, if_pos ⟨by decide, ba⟩, if_pos ⟨ba, bb⟩]
  simp only [Option.bind_some, if_true, beq_self_eq_true]
end Go.Proofs.Ythidmlnoiginiaa.Pure
