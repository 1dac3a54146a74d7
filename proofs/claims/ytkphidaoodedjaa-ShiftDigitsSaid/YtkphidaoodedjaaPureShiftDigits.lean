/- The statement ShiftDigits over plain numbers: nibbles turned through a byte and memory, and a bit asked, are the reference's. -/
import Derived.Test.YtkphidaoodedjaaPureShift
import Derived.Test.YtkphidaoodedjaaPTx3
namespace Go.Proofs.Ytkphidaoodedjaa.Pure
open Go.RowKit Go.Proofs.Ytkphidaoodedjaa.PT Go.Proofs.YtkphidaoodedjaaW.PrintWords Go.Proofs.YtkphidaoodedjaaW.PrintLast Go.Proofs.YtkphidaoodedjaaW.PrintMore
theorem ShiftDigits : charabanclaw06_ShiftDigits.Pure := by
  intro a b n wa wb _
  have ba := bounds_u8 wa
  have bb := bounds_u8 wb
  have f0 : 0 ≤ n % 256 := by omega
  have f1 : n % 256 ≤ 255 := by omega
  refine ⟨16, ?_⟩
  unfold charabanclaw06_ShiftDigits.f
  rw [awake06, digit_left a b _ ba.1 ba.2 bb.1 bb.2 f0 f1, digit_right a b _ ba.1 ba.2 bb.1 bb.2 f0 f1, refdigit_left 16 (by omega) a b _ ba.1 ba.2 bb.1 bb.2 f0 f1, refdigit_right 16 (by omega) a b _ ba.1 ba.2 bb.1 bb.2 f0 f1,
    bit_is n a b _ ba.1 ba.2 bb.1 bb.2 f0 f1, bit_is _ a b _ ba.1 ba.2 bb.1 bb.2 f0 f1]
  unfold charabancref06_Bit.f
  simp only [if_pos (show (0 ≤ a ∧ a ≤ 255) ∧ (0 ≤ b ∧ b ≤ 255) ∧ (0 ≤ n % 256 ∧ n % 256 ≤ 255) from ⟨ba, bb, f0, f1⟩), Option.bind_some, if_true, beq_self_eq_true]
end Go.Proofs.Ytkphidaoodedjaa.Pure
