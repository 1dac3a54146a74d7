/- The statement ShiftDoes over plain numbers: each shift and each turn of the accumulator is the reference's. -/
import Derived.Test.YtkphidaoodedjaaPureShift
namespace Go.Proofs.Ytkphidaoodedjaa.Pure
open Go.RowKit Go.Proofs.Ytkphidaoodedjaa.PT Go.Proofs.YtkphidaoodedjaaW.PrintWords Go.Proofs.YtkphidaoodedjaaW.PrintLast Go.Proofs.YtkphidaoodedjaaW.PrintMore
theorem ShiftDoes : charabanclaw06_ShiftDoes.Pure := by
  intro kind b f _ wb wf
  have bb := bounds_u8 wb
  have bf := bounds_u8 wf
  refine ⟨16, ?_⟩
  unfold charabanclaw06_ShiftDoes.f charabancref06_Acc.f
  rw [awake06, acc_is kind b f bb.1 bb.2 bf.1 bf.2, if_pos ⟨bb, bf⟩]
  cases hk : M.kindB kind
  · rw [do_no kind b f hk bb.1 bb.2 bf.1 bf.2, refdo_no 16 kind b f hk bb.1 bb.2 bf.1 bf.2]
    simp only [Option.bind_some, if_true, beq_self_eq_true]
  · rw [do_yes kind b f hk bb.1 bb.2 bf.1 bf.2, refdo_yes 16 (by omega) kind b f hk bb.1 bb.2 bf.1 bf.2]
    simp only [Option.bind_some, if_true, beq_self_eq_true]
end Go.Proofs.Ytkphidaoodedjaa.Pure
