/- The statement WideBytes over plain numbers: sums and differences of words are those of their bytes, with the carry handed on. -/
import Derived.Test.YthidmlnoiginiaaPureWide
import Derived.Test.YthidmlnoiginiaaPWx3
namespace Go.Proofs.Ythidmlnoiginiaa.Pure
open Go.RowKit Go.Proofs.Ythidmlnoiginiaa.PW Go.Proofs.YthidmlnoiginiaaW.PrintWords Go.Proofs.YthidmlnoiginiaaW.PrintLast Go.Proofs.YthidmlnoiginiaaW.PrintMore
theorem b_lo (a : Int) (h0 : 0 ≤ a) (h1 : a ≤ 65535) : charabancref01_Lo.f a = some (a % 256) := by
  unfold charabancref01_Lo.f
  rw [w64 a (by omega) (by omega), Int.tmod_eq_emod_of_nonneg (by omega)]
  congr 1
  omega
theorem b_hi (a : Int) (h0 : 0 ≤ a) (h1 : a ≤ 65535) : charabancref01_Hi.f a = some (a / 256) := by
  unfold charabancref01_Hi.f
  rw [w64 a (by omega) (by omega), Int.tdiv_eq_ediv_of_nonneg (by omega), w64 _ (by omega) (by omega)]
  congr 1
  omega
theorem b_word (x y : Int) (h0 : 0 ≤ x) (h1 : x ≤ 255) (h2 : 0 ≤ y) (h3 : y ≤ 255) : charabancref01_Word.f x y = some (256 * x + y) := by
  unfold charabancref01_Word.f
  rw [w64 x (by omega) (by omega), w64 y (by omega) (by omega), w64 (256 * x) (by omega) (by omega), w64 (256 * x + y) (by omega) (by omega), IntKind.wrap_u16]
  congr 1
  omega
/-- But for Z the flags are the higher byte's. -/
theorem all_but_z (i : Int) (z : Bool) : Go.bits .and .u8 (Go.bits .xor .u8 (if z then Go.bits .andNot .u8 i 64 else i) i) 191 = 0 := by
  have r := M.bits_range .and (Go.bits .xor .u8 (if z then Go.bits .andNot .u8 i 64 else i) i) 191
  refine M.byte_ext r.1 r.2 (by decide) (by decide) fun k hk => ?_
  rw [M.bit_and _ _ k hk, M.bit_xor _ _ k hk]
  cases z
  · simp only [Bool.false_eq_true, if_false, Bool.xor_self, Bool.false_and]
    rcases M.lt8 hk with rfl | rfl | rfl | rfl | rfl | rfl | rfl | rfl <;> rfl
  · simp only [if_true]
    rw [M.bit_andNot _ _ k hk]
    rcases M.lt8 hk with rfl | rfl | rfl | rfl | rfl | rfl | rfl | rfl
    all_goals
      generalize M.bit i _ = v
      cases v <;> rfl
theorem z_tab : ∀ s z y h x p n c : Bool, (Go.bits .and .u8 (M.mk s z y h x p n c) 64 != 0) = z := by decide +kernel
theorem z_is (r : Int) (half over out minus : Bool) : (Go.bits .and .u8 (M.wflag r half over out minus) 64 != 0) = (r == 0) := z_tab _ _ _ _ _ _ _ _
theorem sub_end (k : Nat) (a b f : Int) (ba : 0 ≤ a ∧ a ≤ 65535) (bb : 0 ≤ b ∧ b ≤ 65535) (bf : 0 ≤ f ∧ f ≤ 255) : charabanclaw04_WideBytes.j0 (k + 1) a b f false = some true := by
  simp only [charabanclaw04_WideBytes.j0]
  rw [if_neg (by decide), w_sbc a b f ba bb bf, b_lo a ba.1 ba.2, b_lo b bb.1 bb.2, b_hi a ba.1 ba.2, b_hi b bb.1 bb.2, w_test' f bf.1 bf.2]
  simp only [Option.bind_some, charabancref03_Sub.f]
  rw [if_pos (by omega)]
  simp only [Option.bind_some]
  rw [if_pos (by omega), M.subF_c, M.one_eq]
  simp only [Option.bind_some]
  have hR := M.wsubR_is a b (M.bit f 0) ba.1 ba.2 bb.1 bb.2
  have hF := M.wsubF_is a b (M.bit f 0) ba.1 ba.2 bb.1 bb.2
  have hz := z_is ((a - b - M.b2i (M.bit f 0)) % 65536) (decide (a % 4096 - b % 4096 - M.b2i (M.bit f 0) < 0)) (M.farw (M.sgw a - M.sgw b - M.b2i (M.bit f 0))) (decide (a - b - M.b2i (M.bit f 0) < 0)) true
  unfold M.wsubR at hR
  unfold M.wsubF at hF
  rw [M.subF_c, M.one_ne] at hR hF
  rw [b_word _ _ (M.subR_range _ _ _).1 (M.subR_range _ _ _).2 (M.subR_range _ _ _).1 (M.subR_range _ _ _).2]
  simp only [Option.bind_some]
  rw [if_pos hR.symm, hz, ← hF, if_pos (all_but_z _ _)]
  simp
theorem WideBytes : charabanclaw04_WideBytes.Pure := by
  intro a b f wa wb wf
  have ba := bounds_u16 wa
  have bb := bounds_u16 wb
  have bf := bounds_u8 wf
  refine ⟨1, ?_⟩
  unfold charabanclaw04_WideBytes.f
  rw [w_awake, w_adc a b f ba bb bf, b_lo a ba.1 ba.2, b_lo b bb.1 bb.2, b_hi a ba.1 ba.2, b_hi b bb.1 bb.2, w_test' f bf.1 bf.2]
  simp only [Option.bind_some, if_true, charabancref03_Add.f]
  rw [if_pos (by omega)]
  simp only [Option.bind_some]
  rw [if_pos (by omega), M.addF_c, M.one_eq]
  simp only [Option.bind_some]
  have hR := M.waddR_is a b (M.bit f 0) ba.1 ba.2 bb.1 bb.2
  have hF := M.waddF_is a b (M.bit f 0) ba.1 ba.2 bb.1 bb.2
  have hz := z_is ((a + b + M.b2i (M.bit f 0)) % 65536) (decide (a % 4096 + b % 4096 + M.b2i (M.bit f 0) > 4095)) (M.farw (M.sgw a + M.sgw b + M.b2i (M.bit f 0))) (decide (a + b + M.b2i (M.bit f 0) > 65535)) false
  unfold M.waddR at hR
  unfold M.waddF at hF
  rw [M.addF_c, M.one_ne] at hR hF
  rw [b_word _ _ (M.addR_range _ _ _).1 (M.addR_range _ _ _).2 (M.addR_range _ _ _).1 (M.addR_range _ _ _).2]
  simp only [Option.bind_some]
  rw [if_pos hR.symm, hz, ← hF, if_pos (all_but_z _ _), bne_self_eq_false]
  exact sub_end 0 a b f ba bb bf
end Go.Proofs.Ythidmlnoiginiaa.Pure
