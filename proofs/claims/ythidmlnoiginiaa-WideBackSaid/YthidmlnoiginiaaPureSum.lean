/- The program's sums of bytes (sum.Add, Sub, Cmp, Inc, Dec, Neg), over plain numbers: each answers what the plain words say. -/
import Derived.Test.YthidmlnoiginiaaPSx1
import Derived.Test.YthidmlnoiginiaaMath3
import Derived.OpenShut
namespace Go.Proofs.Ythidmlnoiginiaa.Pure
open Go.RowKit Go.Proofs.Ythidmlnoiginiaa.PS Go.Proofs.YthidmlnoiginiaaW.PrintWords Go.Proofs.YthidmlnoiginiaaW.PrintLast Go.Proofs.YthidmlnoiginiaaW.PrintMore

theorem result_is (r : Int) (h0 : 0 ≤ r) (h1 : r ≤ 255) : flags_Result.f r = some (M.resF r) := by
  rw [← M.resF_is r h0 h1]
  unfold flags_Result.f
  split <;> rfl
theorem when_is (b : Bool) (x : Int) : sum_when.f b x = some (x * M.b2i b % 256) := by cases b <;> rfl
theorem all4 (k : Nat) (x1 x2 x3 x4 : Int) : sum_all.f (k + 5) [x1, x2, x3, x4] = some (Go.bits .or .u8 (Go.bits .or .u8 (Go.bits .or .u8 (Go.bits .or .u8 0 x1) x2) x3) x4) := by
  simp [sum_all.f, sum_all.l0, rd, wrap64]
theorem all5 (k : Nat) (x1 x2 x3 x4 x5 : Int) : sum_all.f (k + 6) [x1, x2, x3, x4, x5] = some (Go.bits .or .u8 (Go.bits .or .u8 (Go.bits .or .u8 (Go.bits .or .u8 (Go.bits .or .u8 0 x1) x2) x3) x4) x5) := by
  simp [sum_all.f, sum_all.l0, rd, wrap64]
theorem b2i_range (c : Bool) : 0 ≤ M.b2i c ∧ M.b2i c ≤ 1 := by cases c <;> decide
theorem add_is (k : Nat) (a b : Int) (c : Bool) (h0 : 0 ≤ a) (h1 : a ≤ 255) (h2 : 0 ≤ b) (h3 : b ≤ 255) : sum_Add.f (k + 6) a b c = some (M.addR a b c, M.addF a b c) := by
  have hc := b2i_range c
  have h16 : sum_one_uint16.f c = some (M.b2i c) := by cases c <;> rfl
  have hw : (IntKind.u16.wrap ((IntKind.u16.wrap ((IntKind.u16.wrap a) + (IntKind.u16.wrap b))) + M.b2i c)) = a + b + M.b2i c := by
    simp only [IntKind.wrap_u16]
    omega
  have hr : (a + b + M.b2i c) % 256 = M.addR a b c := rfl
  unfold sum_Add.f
  rw [h16]
  simp only [Option.bind_some, hw, hr]
  rw [result_is _ (M.addR_range a b c).1 (M.addR_range a b c).2]
  simp only [Option.bind_some, when_is]
  rw [all4 (k + 1)]
  simp only [Option.bind_some]
  rw [M.addF_or a b c h0 h1 h2 h3]
theorem sub_is (k : Nat) (a b : Int) (c : Bool) (h0 : 0 ≤ a) (h1 : a ≤ 255) (h2 : 0 ≤ b) (h3 : b ≤ 255) : sum_Sub.f (k + 6) a b c = some (M.subR a b c, M.subF a b c) := by
  have hc := b2i_range c
  have h16 : sum_one_uint16.f c = some (M.b2i c) := by cases c <;> rfl
  have hw : (IntKind.u16.wrap ((IntKind.u16.wrap ((IntKind.u16.wrap a) - (IntKind.u16.wrap b))) - M.b2i c)) = (a - b - M.b2i c) % 65536 := by
    simp only [IntKind.wrap_u16]
    omega
  have hr : (a - b - M.b2i c) % 65536 % 256 = M.subR a b c := by unfold M.subR; omega
  have hd : decide ((a - b - M.b2i c) % 65536 > 255) = decide (a - b - M.b2i c < 0) := by
    rw [Bool.eq_iff_iff]; simp; omega
  unfold sum_Sub.f
  rw [h16]
  simp only [Option.bind_some, hw, hr, hd]
  rw [result_is _ (M.subR_range a b c).1 (M.subR_range a b c).2]
  simp only [Option.bind_some, when_is]
  rw [all5]
  simp only [Option.bind_some]
  rw [M.subF_or a b c h0 h1 h2 h3]
theorem neg_is (k : Nat) (a : Int) (h0 : 0 ≤ a) (h1 : a ≤ 255) : sum_Neg.f (k + 6) a = some (M.subR 0 a false, M.subF 0 a false) := by
  unfold sum_Neg.f
  rw [sub_is k 0 a false (by omega) (by omega) h0 h1]
  rfl
theorem cmp_is (k : Nat) (a b : Int) (h0 : 0 ≤ a) (h1 : a ≤ 255) (h2 : 0 ≤ b) (h3 : b ≤ 255) : sum_Cmp.f (k + 6) a b = some (M.linesF (M.subF a b false) b) := by
  unfold sum_Cmp.f
  rw [sub_is k a b false h0 h1 h2 h3]
  simp only [Option.bind_some, flags_Keep.f, M.keep_lines]
theorem inc_is (k : Nat) (a f : Int) (h0 : 0 ≤ a) (h1 : a ≤ 255) : sum_Inc.f (k + 6) a f = some (M.addR a 1 false, M.carryF (M.addF a 1 false) f) := by
  unfold sum_Inc.f
  rw [add_is k a 1 false h0 h1 (by omega) (by omega)]
  simp only [Option.bind_some, flags_Keep.f, M.keep_carry]
theorem dec_is (k : Nat) (a f : Int) (h0 : 0 ≤ a) (h1 : a ≤ 255) : sum_Dec.f (k + 6) a f = some (M.subR a 1 false, M.carryF (M.subF a 1 false) f) := by
  unfold sum_Dec.f
  rw [sub_is k a 1 false h0 h1 (by omega) (by omega)]
  simp only [Option.bind_some, flags_Keep.f, M.keep_carry]
theorem awake03 : charabanclaw03_awake.f 6 = some true := by decide +kernel
end Go.Proofs.Ythidmlnoiginiaa.Pure
