/- Sums of words (wide, charabancref04), over plain numbers: what the laws of layer 4 share. -/
import Derived.Test.YthidmlnoiginiaaPWx2
import Derived.Test.YthidmlnoiginiaaMath5
import Derived.OpenShut
namespace Go.Proofs.Ythidmlnoiginiaa.Pure
open Go.RowKit Go.Proofs.Ythidmlnoiginiaa.PW Go.Proofs.YthidmlnoiginiaaW.PrintWords Go.Proofs.YthidmlnoiginiaaW.PrintLast Go.Proofs.YthidmlnoiginiaaW.PrintMore
set_option linter.unusedVariables false

theorem w_awake : charabanclaw04_awake.f = some true := by decide +kernel
theorem w_is_tab : ∀ a : Fin 256, charabancref01_Is.f 12 (a.val : Int) 0 = some (M.bit a.val 0) := by decide +kernel
theorem w_carry (k : Nat) (hk : 12 ≤ k) (f : Int) (h0 : 0 ≤ f) (h1 : f ≤ 255) : charabancref04_carry.f k f = some (M.b2i (M.bit f 0)) := by
  obtain ⟨x, rfl⟩ := M.fin_of h0 h1
  unfold charabancref04_carry.f
  rw [at_rounds (charabancref01_Is.mono _ _) hk (w_is_tab x)]
  cases M.bit (x.val : Int) 0 <;> rfl
theorem w_signed (a : Int) (h0 : 0 ≤ a) (h1 : a ≤ 65535) : charabancref04_signed.f a = some (M.sgw a) := by
  unfold charabancref04_signed.f M.sgw wrap64
  split
  · rw [show (a + 9223372036854775808) % 18446744073709551616 - 9223372036854775808 = a by omega]
  · rw [show ((a + 9223372036854775808) % 18446744073709551616 - 9223372036854775808 - 65536 + 9223372036854775808) % 18446744073709551616 - 9223372036854775808 = a - 65536 by omega]
theorem w_test (f : Int) (h0 : 0 ≤ f) (h1 : f ≤ 255) : (Go.bits .and .u8 f 1 != 0) = M.bit f 0 := by rw [M.and1 f h0 h1, M.one_ne]
theorem w_test' (f : Int) (h0 : 0 ≤ f) (h1 : f ≤ 255) : (Go.bits .and .u8 f 1 == 1) = M.bit f 0 := by rw [M.and1 f h0 h1, M.one_eq]
theorem w_add (a b f : Int) (h0 : 0 ≤ a ∧ a ≤ 65535) (h1 : 0 ≤ b ∧ b ≤ 65535) (h2 : 0 ≤ f ∧ f ≤ 255) : wide_Add.f a b f = some ((a + b) % 65536, M.rwaddF a b f) := by
  unfold wide_Add.f
  rw [if_pos ⟨h0, h1, h2⟩, M.wadd_keep a b f h0.1 h0.2 h1.1 h1.2, M.waddR_is a b false h0.1 h0.2 h1.1 h1.2]
  rw [show M.b2i false = 0 from rfl, Int.add_zero]
theorem w_adc (a b f : Int) (h0 : 0 ≤ a ∧ a ≤ 65535) (h1 : 0 ≤ b ∧ b ≤ 65535) (h2 : 0 ≤ f ∧ f ≤ 255) :
    wide_Adc.f a b f = some ((a + b + M.b2i (M.bit f 0)) % 65536, M.wflag ((a + b + M.b2i (M.bit f 0)) % 65536) (decide (a % 4096 + b % 4096 + M.b2i (M.bit f 0) > 4095)) (M.farw (M.sgw a + M.sgw b + M.b2i (M.bit f 0))) (decide (a + b + M.b2i (M.bit f 0) > 65535)) false) := by
  unfold wide_Adc.f
  rw [if_pos ⟨h0, h1, h2⟩, w_test f h2.1 h2.2, M.waddF_is a b _ h0.1 h0.2 h1.1 h1.2, M.waddR_is a b _ h0.1 h0.2 h1.1 h1.2]
theorem w_sbc (a b f : Int) (h0 : 0 ≤ a ∧ a ≤ 65535) (h1 : 0 ≤ b ∧ b ≤ 65535) (h2 : 0 ≤ f ∧ f ≤ 255) :
    wide_Sbc.f a b f = some ((a - b - M.b2i (M.bit f 0)) % 65536, M.wflag ((a - b - M.b2i (M.bit f 0)) % 65536) (decide (a % 4096 - b % 4096 - M.b2i (M.bit f 0) < 0)) (M.farw (M.sgw a - M.sgw b - M.b2i (M.bit f 0))) (decide (a - b - M.b2i (M.bit f 0) < 0)) true) := by
  unfold wide_Sbc.f
  rw [if_pos ⟨h0, h1, h2⟩, w_test f h2.1 h2.2, M.wsubF_is a b _ h0.1 h0.2 h1.1 h1.2, M.wsubR_is a b _ h0.1 h0.2 h1.1 h1.2]
theorem sgw_range (a : Int) (h0 : 0 ≤ a) (h1 : a ≤ 65535) : -32768 ≤ M.sgw a ∧ M.sgw a ≤ 32767 := by unfold M.sgw; split <;> omega
theorem w64 (x : Int) (h0 : -1000000 ≤ x) (h1 : x ≤ 1000000) : wrap64 x = x := by unfold wrap64; omega
theorem w_radc (k : Nat) (hk : 12 ≤ k) (a b f : Int) (h0 : 0 ≤ a ∧ a ≤ 65535) (h1 : 0 ≤ b ∧ b ≤ 65535) (h2 : 0 ≤ f ∧ f ≤ 255) :
    charabancref04_Adc.f k a b f = some ((a + b + M.b2i (M.bit f 0)) % 65536, M.wflag ((a + b + M.b2i (M.bit f 0)) % 65536) (decide (a % 4096 + b % 4096 + M.b2i (M.bit f 0) > 4095)) (M.farw (M.sgw a + M.sgw b + M.b2i (M.bit f 0))) (decide (a + b + M.b2i (M.bit f 0) > 65535)) false) := by
  have hc := M.b2i_range (M.bit f 0)
  have ra := sgw_range a h0.1 h0.2
  have rb := sgw_range b h1.1 h1.2
  unfold charabancref04_Adc.f
  rw [w_carry k hk f h2.1 h2.2, w_signed a h0.1 h0.2, w_signed b h1.1 h1.2]
  simp only [Option.bind_some]
  generalize M.b2i (M.bit f 0) = q at *
  rw [w64 a (by omega) (by omega), w64 b (by omega) (by omega), w64 (a + b) (by omega) (by omega), w64 (a + b + q) (by omega) (by omega), Int.tmod_eq_emod_of_nonneg (a := a + b + q) (by omega), Int.tmod_eq_emod_of_nonneg (a := a) (by omega), Int.tmod_eq_emod_of_nonneg (a := b) (by omega), w64 (a % 4096 + b % 4096) (by omega) (by omega), w64 (a % 4096 + b % 4096 + q) (by omega) (by omega)]
  generalize M.sgw a = u at *
  generalize M.sgw b = v at *
  rw [w64 (u + v) (by omega) (by omega), w64 (u + v + q) (by omega) (by omega), IntKind.wrap_u16, show (a + b + q) % 65536 % 65536 = (a + b + q) % 65536 by omega]
  unfold charabancref04_result.f M.wflag M.farw
  by_cases h : u + v + q < -32768
  · rw [if_pos h, if_pos (by omega), decide_eq_true h, Bool.true_or]
    rfl
  · rw [if_neg h, if_pos (by omega), decide_eq_false h, Bool.false_or]
    rfl
theorem w_rsbc (k : Nat) (hk : 12 ≤ k) (a b f : Int) (h0 : 0 ≤ a ∧ a ≤ 65535) (h1 : 0 ≤ b ∧ b ≤ 65535) (h2 : 0 ≤ f ∧ f ≤ 255) :
    charabancref04_Sbc.f k a b f = some ((a - b - M.b2i (M.bit f 0)) % 65536, M.wflag ((a - b - M.b2i (M.bit f 0)) % 65536) (decide (a % 4096 - b % 4096 - M.b2i (M.bit f 0) < 0)) (M.farw (M.sgw a - M.sgw b - M.b2i (M.bit f 0))) (decide (a - b - M.b2i (M.bit f 0) < 0)) true) := by
  have hc := M.b2i_range (M.bit f 0)
  have ra := sgw_range a h0.1 h0.2
  have rb := sgw_range b h1.1 h1.2
  unfold charabancref04_Sbc.f
  rw [w_carry k hk f h2.1 h2.2, w_signed a h0.1 h0.2, w_signed b h1.1 h1.2]
  simp only [Option.bind_some]
  generalize M.b2i (M.bit f 0) = q at *
  rw [w64 a (by omega) (by omega), w64 b (by omega) (by omega), w64 (a - b) (by omega) (by omega), w64 (a - b - q) (by omega) (by omega), w64 (a - b - q + 131072) (by omega) (by omega), Int.tmod_eq_emod_of_nonneg (a := a - b - q + 131072) (by omega), Int.tmod_eq_emod_of_nonneg (a := a) (by omega), Int.tmod_eq_emod_of_nonneg (a := b) (by omega), w64 (a % 4096 - b % 4096) (by omega) (by omega), w64 (a % 4096 - b % 4096 - q) (by omega) (by omega)]
  generalize M.sgw a = u at *
  generalize M.sgw b = v at *
  rw [w64 (u - v) (by omega) (by omega), w64 (u - v - q) (by omega) (by omega), IntKind.wrap_u16, show (a - b - q + 131072) % 65536 % 65536 = (a - b - q) % 65536 by omega]
  unfold charabancref04_result.f M.wflag M.farw
  by_cases h : u - v - q < -32768
  · rw [if_pos h, if_pos (by omega), decide_eq_true h, Bool.true_or]
    rfl
  · rw [if_neg h, if_pos (by omega), decide_eq_false h, Bool.false_or]
    rfl
theorem w_move (a n : Int) (h0 : 0 ≤ a) (h1 : a ≤ 65535) : wide_Move.f a n = some ((a + n) % 65536) := by
  unfold wide_Move.f
  simp only [IntKind.wrap_u16, Option.some.injEq]
  omega
theorem w_rmove (a n : Int) (h0 : 0 ≤ a) (h1 : a ≤ 65535) : charabancref04_Move.f a n = some ((a + n) % 65536) := by
  unfold charabancref04_Move.f
  have key : ∀ m : Int, -65536 < m → m < 65536 → (m - n) % 65536 = 0 → IntKind.u16.wrap (Int.tmod (wrap64 (Int.tmod (wrap64 (wrap64 a + m)) 65536 + 65536)) 65536) = (a + n) % 65536 := by
    intro m hm hm' he
    rw [w64 a (by omega) (by omega), w64 (a + m) (by omega) (by omega)]
    by_cases hn : 0 ≤ a + m
    · rw [Int.tmod_eq_emod_of_nonneg hn, w64 _ (by omega) (by omega), Int.tmod_eq_emod_of_nonneg (by omega), IntKind.wrap_u16]
      omega
    · have e : Int.tmod (a + m) 65536 = -((-(a + m)) % 65536) := by
        rw [show a + m = -(-(a + m)) by omega, Int.neg_tmod, Int.tmod_eq_emod_of_nonneg (by omega)]
        simp
      rw [e, w64 _ (by omega) (by omega), Int.tmod_eq_emod_of_nonneg (by omega), IntKind.wrap_u16]
      omega
  rw [Option.some.injEq]
  by_cases hn : 0 ≤ n
  · rw [Int.tmod_eq_emod_of_nonneg hn]
    exact key _ (by omega) (by omega) (by omega)
  · have e : Int.tmod n 65536 = -((-n) % 65536) := by
      rw [show n = -(-n) by omega, Int.neg_tmod, Int.tmod_eq_emod_of_nonneg (by omega)]
      simp
    rw [e]
    exact key _ (by omega) (by omega) (by omega)
theorem w_signed_tab : ∀ b : Fin 256, bits_Signed.f (b.val : Int) = some (M.sg b.val) ∧ charabancref01_Signed.f (b.val : Int) = some (M.sg b.val) := by decide +kernel
theorem w_near (a b : Int) (h0 : 0 ≤ a) (h1 : a ≤ 65535) (h2 : 0 ≤ b) (h3 : b ≤ 255) : wide_Near.f a b = some ((a + M.sg b) % 65536) ∧ charabancref04_Near.f a b = some ((a + M.sg b) % 65536) := by
  obtain ⟨x, rfl⟩ := M.fin_of h2 h3
  unfold wide_Near.f charabancref04_Near.f
  rw [(w_signed_tab x).1, (w_signed_tab x).2]
  simp only [Option.bind_some]
  rw [w_move a _ h0 h1, w_rmove a _ h0 h1]
  exact ⟨rfl, rfl⟩
end Go.Proofs.Ythidmlnoiginiaa.Pure
