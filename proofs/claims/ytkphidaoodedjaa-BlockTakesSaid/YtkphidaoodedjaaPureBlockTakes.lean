/- The statement BlockTakes over plain numbers: the flags of a step that takes in or gives out are the reference's. -/
import Derived.Test.YtkphidaoodedjaaPureBlock
import Derived.Test.YtkphidaoodedjaaPKx3
namespace Go.Proofs.Ytkphidaoodedjaa.Pure
open Go.RowKit Go.Proofs.Ytkphidaoodedjaa.PK Go.Proofs.YtkphidaoodedjaaW.PrintWords Go.Proofs.YtkphidaoodedjaaW.PrintLast Go.Proofs.YtkphidaoodedjaaW.PrintMore
theorem tmod256 (x : Int) : ∃ q, x = 256 * q + Int.tmod x 256 ∧ -256 < Int.tmod x 256 ∧ Int.tmod x 256 < 256 :=
  ⟨Int.tdiv x 256, by have := Int.mul_tdiv_add_tmod x 256; omega, Int.lt_tmod_of_pos x (by decide), Int.tmod_lt_of_pos x (by decide)⟩
theorem sum_far (b c y : Int) (h0 : 0 ≤ b) (h1 : b ≤ 255) (h2 : 0 ≤ c) (h3 : c ≤ 255) : wrap64 ((wrap64 b) + (Int.tmod (wrap64 ((Int.tmod (wrap64 ((wrap64 c) + (Int.tmod y 256))) 256) + 256)) 256)) = b + (c + y) % 256 := by
  obtain ⟨q, e, l, r⟩ := tmod256 y
  generalize Int.tmod y 256 = m at e l r ⊢
  have e1 : wrap64 (wrap64 c + m) = c + m := by unfold wrap64; omega
  rw [e1]
  obtain ⟨p, e2, l2, r2⟩ := tmod256 (c + m)
  generalize Int.tmod (c + m) 256 = n at e2 l2 r2 ⊢
  have e3 : wrap64 (n + 256) = n + 256 := by unfold wrap64; omega
  rw [e3, Int.tmod_eq_emod_of_nonneg (by omega)]
  unfold wrap64
  omega
theorem sum_near (b c y : Int) (h0 : 0 ≤ b) (h1 : b ≤ 255) : wrap64 ((wrap64 b) + ((c + y) % 256)) = b + (c + y) % 256 := by
  unfold wrap64; omega
theorem BlockTakes : charabanclaw07_BlockTakes.Pure := by
  intro b w y wb ww _
  have bb := bounds_u8 wb
  have bw := bounds_u16 ww
  have bc : 0 ≤ w / 256 ∧ w / 256 ≤ 255 := by omega
  have bl : 0 ≤ w % 256 ∧ w % 256 ≤ 255 := by omega
  have e2 : wrap64 (wrap64 b + wrap64 (w / 256)) = b + w / 256 := by unfold wrap64; omega
  refine ⟨6, ?_⟩
  unfold charabanclaw07_BlockTakes.f block_Take.f charabancref07_Take.f block_Give.f charabancref07_Give.f
  rw [awake07, hi_byte w bw.1 bw.2, Int.tmod_eq_emod_of_nonneg bw.1, show w % 256 % 256 = w % 256 by omega, sum_near b _ y bb.1 bb.2, sum_far b _ y bb.1 bb.2 bc.1 bc.2, e2]
  rw [counted_is 2 b _ (b + (w / 256 + y) % 256) bb.1 bb.2 bl.1 bl.2 (by omega) (by omega), counted_is 2 b _ (b + w / 256) bb.1 bb.2 bl.1 bl.2 (by omega) (by omega)]
  unfold charabancref07_counted.f
  rw [if_pos ⟨bb, bl, by omega, by omega⟩, if_pos ⟨bb, bl, by omega, by omega⟩]
  simp only [Option.bind_some, if_true, beq_self_eq_true]
end Go.Proofs.Ytkphidaoodedjaa.Pure
