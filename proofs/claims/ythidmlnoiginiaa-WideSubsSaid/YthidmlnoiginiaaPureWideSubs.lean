/- The statement WideSubs over plain numbers: any difference of two words and the carry, and any word moved, are the reference's. -/
import Derived.Test.YthidmlnoiginiaaPureWide
namespace Go.Proofs.Ythidmlnoiginiaa.Pure
open Go.RowKit Go.Proofs.Ythidmlnoiginiaa.PW Go.Proofs.YthidmlnoiginiaaW.PrintWords Go.Proofs.YthidmlnoiginiaaW.PrintLast Go.Proofs.YthidmlnoiginiaaW.PrintMore
theorem WideSubs : charabanclaw04_WideSubs.Pure := by
  intro a n f wa _ wf
  have ba := bounds_u16 wa
  have bf := bounds_u8 wf
  have bn : 0 ≤ IntKind.u16.wrap n ∧ IntKind.u16.wrap n ≤ 65535 := by rw [IntKind.wrap_u16]; omega
  refine ⟨12, ?_⟩
  unfold charabanclaw04_WideSubs.f
  rw [w_awake, w_sbc a _ f ba bn bf, w_rsbc 12 (by omega) a _ f ba bn bf, w_move a n ba.1 ba.2, w_rmove a n ba.1 ba.2, (w_near a (n % 256) ba.1 ba.2 (by omega) (by omega)).1, (w_near a (n % 256) ba.1 ba.2 (by omega) (by omega)).2]
  simp only [Option.bind_some, if_true, beq_self_eq_true]
end Go.Proofs.Ythidmlnoiginiaa.Pure
