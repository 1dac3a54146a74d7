/- The statement BlockMoves over plain numbers: a step of a move and of a search give the reference's flags. -/
import Derived.Test.YtkphidaoodedjaaPureBlock
namespace Go.Proofs.Ytkphidaoodedjaa.Pure
open Go.RowKit Go.Proofs.Ytkphidaoodedjaa.PK Go.Proofs.YtkphidaoodedjaaW.PrintWords Go.Proofs.YtkphidaoodedjaaW.PrintLast Go.Proofs.YtkphidaoodedjaaW.PrintMore
theorem BlockMoves : charabanclaw07_BlockMoves.Pure := by
  intro a w f wa ww wf
  have ba := bounds_u8 wa
  have bw := bounds_u16 ww
  have bf := bounds_u8 wf
  have bb : 0 ≤ w / 256 ∧ w / 256 ≤ 255 := by omega
  refine ⟨6, ?_⟩
  unfold charabanclaw07_BlockMoves.f
  rw [awake07, hi_byte w bw.1 bw.2, Int.tmod_eq_emod_of_nonneg bw.1]
  have b3 : 0 ≤ w % 3 ∧ w % 3 ≤ 65535 := by omega
  rw [move_is 4 a (w / 256) (w % 3) f ba.1 ba.2 bb.1 bb.2 bf.1 bf.2, move_is 4 a (w / 256) w f ba.1 ba.2 bb.1 bb.2 bf.1 bf.2, find_is 0 a (w / 256) (w % 3) f ba.1 ba.2 bb.1 bb.2 bf.1 bf.2]
  unfold charabancref07_Move.f charabancref07_Find.f
  simp only [if_pos (show (0 ≤ a ∧ a ≤ 255) ∧ (0 ≤ w / 256 ∧ w / 256 ≤ 255) ∧ (0 ≤ w % 3 ∧ w % 3 ≤ 65535) ∧ (0 ≤ f ∧ f ≤ 255) from ⟨ba, bb, b3, bf⟩), if_pos (show (0 ≤ a ∧ a ≤ 255) ∧ (0 ≤ w / 256 ∧ w / 256 ≤ 255) ∧ (0 ≤ w ∧ w ≤ 65535) ∧ (0 ≤ f ∧ f ≤ 255) from ⟨ba, bb, bw, bf⟩), Option.bind_some, if_true, beq_self_eq_true]
end Go.Proofs.Ytkphidaoodedjaa.Pure
