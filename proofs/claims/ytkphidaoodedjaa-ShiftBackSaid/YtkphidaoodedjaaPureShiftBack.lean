/- The statement ShiftBack over plain numbers: what is turned to and fro is as it was. -/
import Derived.Test.YtkphidaoodedjaaPureShift
import Derived.Test.YtkphidaoodedjaaPTx3
namespace Go.Proofs.Ytkphidaoodedjaa.Pure
open Go.RowKit Go.Proofs.Ytkphidaoodedjaa.PT Go.Proofs.YtkphidaoodedjaaW.PrintWords Go.Proofs.YtkphidaoodedjaaW.PrintLast Go.Proofs.YtkphidaoodedjaaW.PrintMore
theorem ShiftBack : charabanclaw06_ShiftBack.Pure := by
  intro a b f wa wb wf
  have ba := bounds_u8 wa
  have bb := bounds_u8 wb
  have bf := bounds_u8 wf
  have r0 := M.turnedR_range 0 b f bb.1 bb.2
  have r2 := M.turnedR_range 2 b f bb.1 bb.2
  have g0 := M.doF_range 0 b f
  have g2 := M.doF_range 2 b f
  have d := M.dig_range a b ba.1 ba.2 bb.1 bb.2
  have gd := M.evenC_range (M.digL a b) (M.is f 0)
  have h2 : M.is (M.doF 2 b f) 0 = M.is b 7 := by rw [M.doF_is, M.evenC_0]; rfl
  have k23 := M.back23 b f (M.doF 2 b f) bb.1 bb.2 h2
  have i3 : M.is (M.doF 3 (M.turnedR 2 b f) (M.doF 2 b f)) 0 = M.is f 0 := by rw [M.doF_is, M.evenC_0]; exact k23.2
  have dg := M.dig_back a b ba.1 ba.2 bb.1 bb.2
  have ra : M.raccR 2 b f = M.turnedR 2 b f := rfl
  have rf : M.raccF 2 b f = M.mk (M.is f 7) (M.is f 6) (M.is (M.turnedR 2 b f) 5) false (M.is (M.turnedR 2 b f) 3) (M.is f 2) false (M.is b 7) := rfl
  unfold charabanclaw06_ShiftBack.f
  rw [awake06, do_yes 0 b f rfl bb.1 bb.2 bf.1 bf.2, do_yes 2 b f rfl bb.1 bb.2 bf.1 bf.2, digit_left a b f ba.1 ba.2 bb.1 bb.2 bf.1 bf.2, acc_is 2 b f bb.1 bb.2 bf.1 bf.2]
  simp only [Option.bind_some, if_true]
  rw [do_yes 1 _ _ rfl r0.1 r0.2 g0.1 g0.2, do_yes 3 _ _ rfl r2.1 r2.2 g2.1 g2.2, digit_right _ _ _ d.1.1 d.1.2 d.2.1.1 d.2.1.2 gd.1 gd.2]
  simp only [Option.bind_some]
  rw [if_pos (M.back01 b f _ bb.1 bb.2), if_pos k23.1, if_pos (M.xor1 _ _ i3), if_pos dg.1, if_pos dg.2, if_pos ra, if_pos (M.xor1 _ _ (by rw [rf, M.is_mk0, h2])), M.xor196 _ _ (by rw [rf, M.is_mk7]) (by rw [rf, M.is_mk6]) (by rw [rf, M.is_mk2])]
  rfl
end Go.Proofs.Ytkphidaoodedjaa.Pure
