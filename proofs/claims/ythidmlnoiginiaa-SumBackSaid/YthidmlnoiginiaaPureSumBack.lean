/- The statement SumBack over plain numbers: what is added and taken away is as it was; the carry of the one is the borrow of the other; the order plays no part. -/
import Derived.Test.YthidmlnoiginiaaPureSum
import Derived.Test.YthidmlnoiginiaaPSx3
namespace Go.Proofs.Ythidmlnoiginiaa.Pure
open Go.RowKit Go.Proofs.Ythidmlnoiginiaa.PS Go.Proofs.YthidmlnoiginiaaW.PrintWords Go.Proofs.YthidmlnoiginiaaW.PrintLast Go.Proofs.YthidmlnoiginiaaW.PrintMore
theorem add_comm' (a b : Int) (c : Bool) : M.addR a b c = M.addR b a c ∧ M.addF a b c = M.addF b a c := by
  have h : M.addR a b c = M.addR b a c := by unfold M.addR; rw [Int.add_comm a b]
  refine ⟨h, ?_⟩
  unfold M.addF
  rw [h, Int.add_comm (a % 16) (b % 16), Int.add_comm (M.sg a) (M.sg b), Int.add_comm a b]
theorem back1 (a b : Int) (c : Bool) (h0 : 0 ≤ a) (h1 : a ≤ 255) : M.subR (M.addR a b c) b c = a := by unfold M.subR M.addR; omega
theorem back2 (a b : Int) (c : Bool) (h0 : 0 ≤ a) (h1 : a ≤ 255) : M.addR (M.subR a b c) b c = a := by unfold M.subR M.addR; omega
theorem carry_borrow (a b : Int) (c : Bool) (h0 : 0 ≤ a) (h1 : a ≤ 255) (h2 : 0 ≤ b) (h3 : b ≤ 255) : Go.bits .and .u8 (Go.bits .xor .u8 (M.subF a b c) (M.addF (M.subR a b c) b c)) 1 = 0 := by
  have hc := b2i_range c
  have r := M.bits_range .xor (M.subF a b c) (M.addF (M.subR a b c) b c)
  rw [M.and1 _ r.1 r.2, M.bit_xor _ _ 0 (by omega)]
  unfold M.subF M.addF
  rw [(M.mk_bits _ _ _ _ _ _ _ _).2.2.2.2.2.2.2, (M.mk_bits _ _ _ _ _ _ _ _).2.2.2.2.2.2.2]
  have e : decide (a - b - M.b2i c < 0) = decide (M.subR a b c + b + M.b2i c > 255) := by
    rw [Bool.eq_iff_iff]
    simp
    unfold M.subR
    omega
  rw [e, Bool.xor_self]
  rfl
theorem SumBack : charabanclaw03_SumBack.Pure := by
  intro a b c wa wb
  have ba := bounds_u8 wa
  have bb := bounds_u8 wb
  refine ⟨6, ?_⟩
  unfold charabanclaw03_SumBack.f
  rw [awake03, add_is 0 a b c ba.1 ba.2 bb.1 bb.2, add_is 0 b a c bb.1 bb.2 ba.1 ba.2, sub_is 0 a b c ba.1 ba.2 bb.1 bb.2]
  simp only [Option.bind_some, if_true]
  rw [sub_is 0 _ b c (M.addR_range a b c).1 (M.addR_range a b c).2 bb.1 bb.2, add_is 0 _ b c (M.subR_range a b c).1 (M.subR_range a b c).2 bb.1 bb.2]
  simp only [Option.bind_some]
  rw [if_pos (add_comm' a b c).1, if_pos (add_comm' a b c).2, if_pos (back1 a b c ba.1 ba.2), if_pos (back2 a b c ba.1 ba.2), carry_borrow a b c ba.1 ba.2 bb.1 bb.2]
  rfl
end Go.Proofs.Ythidmlnoiginiaa.Pure
