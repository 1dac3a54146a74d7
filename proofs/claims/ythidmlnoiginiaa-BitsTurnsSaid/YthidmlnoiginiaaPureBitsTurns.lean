/- The statement BitsTurns over plain numbers: a byte turned, its sign, and whether its bits are even, are the reference's. -/
import Derived.Test.YthidmlnoiginiaaPureRef01
namespace Go.Proofs.Ythidmlnoiginiaa.Pure
open Go.RowKit Go.Proofs.Ythidmlnoiginiaa.PB Go.Proofs.YthidmlnoiginiaaW.PrintWords Go.Proofs.YthidmlnoiginiaaW.PrintLast Go.Proofs.YthidmlnoiginiaaW.PrintMore
theorem signed_some (a : Int) (h0 : 0 ≤ a) (h1 : a ≤ 255) : ∃ s, bits_Signed.f a = some s ∧ charabancref01_Signed.f a = some s := by
  have h : ∀ b : Fin 256, (bits_Signed.f (b.val : Int)).isSome = true := by decide +kernel
  obtain ⟨x, rfl⟩ := fin_of h0 h1
  obtain ⟨s, hs⟩ := Option.isSome_iff_exists.1 (h x)
  exact ⟨s, hs, (signed_tab x) ▸ hs⟩
theorem BitsTurns : charabanclaw01_BitsTurns.Pure := by
  intro a n wa _
  have ba := bounds_u8 wa
  obtain ⟨s, hs1, hs2⟩ := signed_some a ba.1 ba.2
  have he : bits_Even.f a = some (M.evenB a) := by unfold bits_Even.f; rw [if_pos ba]
  have hf := ref_even 24 (by omega) a ba.1 ba.2
  have ht := ref_turn 24 (by omega) a n ba.1 ba.2
  have hu := bits_turn a n
  refine ⟨24, ?_⟩
  unfold charabanclaw01_BitsTurns.f
  rw [awake01, hu, ht, hs1, hs2, he, hf]
  simp only [Option.bind_some, if_true, beq_self_eq_true]
end Go.Proofs.Ythidmlnoiginiaa.Pure
