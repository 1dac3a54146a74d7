/- The statement SumAdds over plain numbers: a sum of two bytes and a carry, and its flags, are the reference's. -/
import Derived.Test.YthidmlnoiginiaaPureSum
import Derived.Test.YthidmlnoiginiaaPSx2
namespace Go.Proofs.Ythidmlnoiginiaa.Pure
open Go.RowKit Go.Proofs.Ythidmlnoiginiaa.PS Go.Proofs.YthidmlnoiginiaaW.PrintWords Go.Proofs.YthidmlnoiginiaaW.PrintLast Go.Proofs.YthidmlnoiginiaaW.PrintMore
theorem SumAdds : charabanclaw03_SumAdds.Pure := by
  intro a b c wa wb
  have ba := bounds_u8 wa
  have bb := bounds_u8 wb
  refine ⟨6, ?_⟩
  unfold charabanclaw03_SumAdds.f charabancref03_Add.f
  rw [awake03, add_is 0 a b c ba.1 ba.2 bb.1 bb.2, if_pos ⟨ba, bb⟩]
  simp only [Option.bind_some, if_true, beq_self_eq_true]
end Go.Proofs.Ythidmlnoiginiaa.Pure
