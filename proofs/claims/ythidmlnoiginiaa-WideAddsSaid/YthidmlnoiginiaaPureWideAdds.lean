/- The statement WideAdds over plain numbers: any sum of two words, without and with the carry, and its flags, are the reference's. -/
import Derived.Test.YthidmlnoiginiaaPureWide
namespace Go.Proofs.Ythidmlnoiginiaa.Pure
open Go.RowKit Go.Proofs.Ythidmlnoiginiaa.PW Go.Proofs.YthidmlnoiginiaaW.PrintWords Go.Proofs.YthidmlnoiginiaaW.PrintLast Go.Proofs.YthidmlnoiginiaaW.PrintMore
theorem WideAdds : charabanclaw04_WideAdds.Pure := by
  intro a b f wa wb wf
  have ba := bounds_u16 wa
  have bb := bounds_u16 wb
  have bf := bounds_u8 wf
  refine ⟨12, ?_⟩
  unfold charabanclaw04_WideAdds.f charabancref04_Add.f
  rw [w_awake, w_add a b f ba bb bf, w_adc a b f ba bb bf, w_radc 12 (by omega) a b f ba bb bf, if_pos ⟨ba, bb, bf⟩]
  simp only [Option.bind_some, if_true, beq_self_eq_true]
end Go.Proofs.Ythidmlnoiginiaa.Pure
