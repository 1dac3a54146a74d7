/- The statement BitsSet over plain numbers: whether a bit is set, the byte with it set or not, and its lowest bit, are the reference's. -/
import Derived.Test.YthidmlnoiginiaaPureRef01
namespace Go.Proofs.Ythidmlnoiginiaa.Pure
open Go.RowKit Go.Proofs.Ythidmlnoiginiaa.PB Go.Proofs.YthidmlnoiginiaaW.PrintWords Go.Proofs.YthidmlnoiginiaaW.PrintLast Go.Proofs.YthidmlnoiginiaaW.PrintMore
theorem BitsSet : charabanclaw01_BitsSet.Pure := by
  intro a n on wa _
  have ba := bounds_u8 wa
  refine ⟨24, ?_⟩
  unfold charabanclaw01_BitsSet.f
  rw [awake01]
  simp only [Option.bind_some, if_true]
  rw [bits_is a n ba.1 ba.2, ref_is 24 (by omega) a n ba.1 ba.2]
  simp only [Option.bind_some, beq_self_eq_true, if_true]
  rw [bits_with, ref_with 24 (by omega) a n on ba.1 ba.2]
  simp only [Option.bind_some, if_true]
  rw [ref_first 24 (by omega) a ba.1 ba.2]
  unfold bits_First.f
  rw [if_pos ba]
  simp
end Go.Proofs.Ythidmlnoiginiaa.Pure
