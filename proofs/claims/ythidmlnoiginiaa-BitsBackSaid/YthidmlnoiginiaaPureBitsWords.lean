/- The statement BitsWords over plain numbers: a word's bytes, and the word of two bytes, by shifts and by numbers, are one. -/
import Derived.Test.YthidmlnoiginiaaPBx1
import Derived.OpenShut
namespace Go.Proofs.Ythidmlnoiginiaa.Pure
open Go.RowKit Go.Proofs.Ythidmlnoiginiaa.PB Go.Proofs.YthidmlnoiginiaaW.PrintWords Go.Proofs.YthidmlnoiginiaaW.PrintLast

theorem awake01 : charabanclaw01_awake.f = some true := by decide +kernel
theorem word_is (x y : Int) (h0 : 0 ≤ x) (h1 : x ≤ 255) (h2 : 0 ≤ y) (h3 : y ≤ 255) : Go.bits .or .u16 (IntKind.u16.wrap ((IntKind.u16.wrap x) * 256)) (IntKind.u16.wrap y) = 256 * x + y := by
  obtain ⟨X, rfl⟩ := Int.eq_ofNat_of_zero_le h0
  obtain ⟨Y, rfl⟩ := Int.eq_ofNat_of_zero_le h2
  simp only [IntKind.wrap_u16]
  rw [show ((X : Int) % 65536 * 256 % 65536) = ((X * 256 : Nat) : Int) by omega, show ((Y : Int) % 65536) = (Y : Int) by omega, u16_or_nat _ _ (by omega) (by omega), nat_join 8 _ _ (by omega) (by omega)]
  omega
theorem BitsWords : charabanclaw01_BitsWords.Pure := by
  intro w hi lo hw hh hl
  have bw := bounds_u16 hw
  have bh := bounds_u8 hh
  have bl := bounds_u8 hl
  unfold charabanclaw01_BitsWords.f
  rw [awake01]
  simp only [Option.bind_some, if_true, bits_Lo.f, bits_Hi.f, bits_Word.f, charabancref01_Lo.f, charabancref01_Hi.f, charabancref01_Word.f]
  rw [if_pos, if_pos]
  · rw [word_is hi lo (by omega) (by omega) (by omega) (by omega)]
    simp only [IntKind.wrap_u16, wrap64, Option.some.injEq, beq_iff_eq]
    omega
  · unfold wrap64
    rw [Int.tdiv_eq_ediv_of_nonneg (by omega)]
    omega
  · unfold wrap64
    rw [Int.tmod_eq_emod_of_nonneg (by omega)]
    omega
end Go.Proofs.Ythidmlnoiginiaa.Pure
