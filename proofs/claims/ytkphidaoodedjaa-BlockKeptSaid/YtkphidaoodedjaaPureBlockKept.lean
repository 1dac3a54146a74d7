/- The statement BlockKept over plain numbers: which flags a step keeps, and what the others tell. -/
import Derived.Test.YtkphidaoodedjaaPureBlock
import Derived.Test.YtkphidaoodedjaaPKx3
namespace Go.Proofs.Ytkphidaoodedjaa.Pure
open Go.RowKit Go.Proofs.Ytkphidaoodedjaa.PK Go.Proofs.YtkphidaoodedjaaW.PrintWords Go.Proofs.YtkphidaoodedjaaW.PrintLast Go.Proofs.YtkphidaoodedjaaW.PrintMore
theorem BlockKept : charabanclaw07_BlockKept.Pure := by
  intro a w f wa ww wf
  have ba := bounds_u8 wa
  have bw := bounds_u16 ww
  have bf := bounds_u8 wf
  have bb : 0 ≤ w / 256 ∧ w / 256 ≤ 255 := by omega
  have gm : 0 ≤ M.rmoveF a (w / 256) w f ∧ M.rmoveF a (w / 256) w f ≤ 255 := M.mk_range _ _ _ _ _ _ _ _
  have gn : 0 ≤ M.rfindF a (w / 256) w f ∧ M.rfindF a (w / 256) w f ≤ 255 := M.mk_range _ _ _ _ _ _ _ _
  have e1 : Go.bits .and .u8 (Go.bits .xor .u8 (M.rmoveF a (w / 256) w f) f) 193 = 0 := M.xor193 _ _ (by unfold M.rmoveF; rw [M.is_mk7]) (by unfold M.rmoveF; rw [M.is_mk6]) (by unfold M.rmoveF; rw [M.is_mk0])
  have e2 : Go.bits .and .u8 (M.rmoveF a (w / 256) w f) 18 = 0 := by
    rw [(M.mask _ gm.1 gm.2).2.2.1]; unfold M.rmoveF; rw [M.is_mk4, M.is_mk1]; rfl
  have e3 : Go.bits .and .u8 (Go.bits .xor .u8 (M.rfindF a (w / 256) w f) f) 1 = 0 := M.xor1 _ _ (by unfold M.rfindF; rw [M.is_mk0])
  have e4 : Go.bits .and .u8 (M.rfindF a (w / 256) w f) 2 = 2 := by
    rw [(M.mask _ gn.1 gn.2).2.2.2.1]; unfold M.rfindF; rw [M.is_mk1]; rfl
  have e5 : (Go.bits .and .u8 (M.rfindF a (w / 256) w f) 64 != 0) = (a == w / 256) := by
    rw [(M.and4 _ gn.1 gn.2).2]; unfold M.rfindF; rw [M.is_mk6, M.subF_6, M.sub_zero a _ ba.1 ba.2 bb.1 bb.2]
  have e6 : (Go.bits .and .u8 (M.rmoveF a (w / 256) w f) 4 != 0) = (w != 0) := by
    rw [(M.and4 _ gm.1 gm.2).1]; unfold M.rmoveF; rw [M.is_mk2]
  have e7 : (Go.bits .and .u8 (M.rfindF a (w / 256) w f) 4 != 0) = (w != 0) := by
    rw [(M.and4 _ gn.1 gn.2).1]; unfold M.rfindF; rw [M.is_mk2]
  refine ⟨6, ?_⟩
  unfold charabanclaw07_BlockKept.f
  rw [awake07, hi_byte w bw.1 bw.2, move_is 4 a _ w f ba.1 ba.2 bb.1 bb.2 bf.1 bf.2, find_is 0 a _ w f ba.1 ba.2 bb.1 bb.2 bf.1 bf.2]
  simp only [Option.bind_some, if_true, e1, e2, e3, e4, e5, e6, e7, beq_self_eq_true]
end Go.Proofs.Ytkphidaoodedjaa.Pure
