/- The statement BlockGoes over plain numbers: a block goes on as the reference says; a search ends where it finds, a count where nothing is left. -/
import Derived.Test.YtkphidaoodedjaaPureBlock
import Derived.Test.YtkphidaoodedjaaPKx3
namespace Go.Proofs.Ytkphidaoodedjaa.Pure
open Go.RowKit Go.Proofs.Ytkphidaoodedjaa.PK Go.Proofs.YtkphidaoodedjaaW.PrintWords Go.Proofs.YtkphidaoodedjaaW.PrintLast Go.Proofs.YtkphidaoodedjaaW.PrintMore
theorem BlockGoes : charabanclaw07_BlockGoes.Pure := by
  intro kind a w _ wa ww
  have ba := bounds_u8 wa
  have bw := bounds_u16 ww
  have bb : 0 ≤ w / 256 ∧ w / 256 ≤ 255 := by omega
  have en : wrap64 (wrap64 a + (7 + 1) % 256) = a + 8 := by unfold wrap64; omega
  have g1 := M.mk_range (M.is (M.subF a (w / 256) false) 7) (M.is (M.subF a (w / 256) false) 6) (M.is (M.rfindN a (w / 256)) 1) (M.is (M.subF a (w / 256) false) 4) (M.is (M.rfindN a (w / 256)) 3) (w % 4 != 0) true (M.is 0 0)
  have g2 : 0 ≤ M.rcountF a (w / 256) (a + 8) ∧ M.rcountF a (w / 256) (a + 8) ≤ 255 := M.mk_range _ _ _ _ _ _ _ _
  have g3 : 0 ≤ M.rmoveF a (w / 256) (w % 4) 255 ∧ M.rmoveF a (w / 256) (w % 4) 255 ≤ 255 := M.mk_range _ _ _ _ _ _ _ _
  have r1 : M.ragain 1 (M.rfindF a (w / 256) (w % 4) 0) = ((w % 4 != 0) && (a != w / 256)) := by
    show (M.is (M.rfindF a (w / 256) (w % 4) 0) 2 && !M.is (M.rfindF a (w / 256) (w % 4) 0) 6) = _
    unfold M.rfindF
    rw [M.is_mk2, M.is_mk6, M.subF_6, M.sub_zero' a _ ba.1 ba.2 bb.1 bb.2]
  have r2 : M.ragain 2 (M.rcountF a (w / 256) (a + 8)) = (w / 256 != 0) := by
    show (!M.is (M.rcountF a (w / 256) (a + 8)) 6) = _
    unfold M.rcountF
    rw [M.is_mk6]
    rfl
  have r3 : M.ragain 0 (M.rmoveF a (w / 256) (w % 4) 255) = (w % 4 != 0) := by
    show M.is (M.rmoveF a (w / 256) (w % 4) 255) 2 = _
    unfold M.rmoveF
    rw [M.is_mk2]
  refine ⟨6, ?_⟩
  unfold charabanclaw07_BlockGoes.f block_Take.f
  rw [awake07, hi_byte w bw.1 bw.2, Int.tmod_eq_emod_of_nonneg bw.1, find_is 0 a _ _ 0 ba.1 ba.2 bb.1 bb.2 (by decide) (by decide), en, counted_is 2 a _ (a + 8) ba.1 ba.2 bb.1 bb.2 (by omega) (by omega),
    move_is 4 a _ _ 255 ba.1 ba.2 bb.1 bb.2 (by decide) (by decide)]
  unfold block_Again.f charabancref07_Again.f
  rw [if_pos ba]
  simp only [Option.bind_some, if_true, beq_self_eq_true]
  rw [if_pos (show 0 ≤ M.rfindF a (w / 256) (w % 4) 0 ∧ M.rfindF a (w / 256) (w % 4) 0 ≤ 255 from g1), if_pos g2, if_pos g3, r1, r2, r3]
  simp only [Option.bind_some, if_true, beq_self_eq_true]
  by_cases h : w % 4 = 0
  · rw [if_pos h, h]
    simp
  · have e : (w % 4 != 0) = true := by simpa using h
    rw [if_neg h, e]
    simp
end Go.Proofs.Ytkphidaoodedjaa.Pure
