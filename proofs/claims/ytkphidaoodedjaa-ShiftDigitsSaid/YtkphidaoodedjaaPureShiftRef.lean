/- The reference's bits (charabancref01) and the program's bits.Is, over plain numbers: each answers what the plain words M.is, M.withB say. -/
import Derived.Test.YtkphidaoodedjaaPTx2
import Derived.OpenShut
import Derived.Laws.Bits128
namespace Go.Proofs.Ytkphidaoodedjaa.Pure
open Go.RowKit Go.Proofs.Ytkphidaoodedjaa.PT Go.Proofs.YtkphidaoodedjaaW.PrintWords Go.Proofs.YtkphidaoodedjaaW.PrintLast Go.Proofs.YtkphidaoodedjaaW.PrintMore
theorem fin_of {a : Int} (h0 : 0 ≤ a) (h1 : a ≤ 255) : ∃ x : Fin 256, a = (x.val : Int) := ⟨⟨a.toNat, by omega⟩, by simp; omega⟩
theorem fin8_of {n : Int} (h0 : 0 ≤ n) (h1 : n ≤ 7) : ∃ x : Fin 8, n = (x.val : Int) := ⟨⟨n.toNat, by omega⟩, by simp; omega⟩

theorem is_tab : ∀ a : Fin 256, ∀ n : Fin 8, charabancref01_Is.f 12 (a.val : Int) (n.val : Int) = some (M.is a.val n.val) := by decide +kernel
theorem is_out {a n : Int} (h : ¬ (0 ≤ n ∧ n ≤ 7)) : M.is a n = false := by
  unfold M.is M.may
  have : decide (0 ≤ n) = false ∨ decide (n < 8) = false := by simp; omega
  rcases this with h | h <;> simp [h]
theorem ref_is (k : Nat) (hk : 12 ≤ k) (a n : Int) (h0 : 0 ≤ a) (h1 : a ≤ 255) : charabancref01_Is.f k a n = some (M.is a n) := by
  by_cases hn : 0 ≤ n ∧ n ≤ 7
  · obtain ⟨x, rfl⟩ := fin_of h0 h1
    obtain ⟨y, rfl⟩ := fin8_of hn.1 hn.2
    exact at_rounds (charabancref01_Is.mono _ _) hk (is_tab x y)
  · unfold charabancref01_Is.f
    rw [is_out hn]
    by_cases h : n < 0
    · rw [if_pos h]
    · rw [if_neg h, if_pos (by omega)]
theorem with_tab : ∀ a : Fin 256, ∀ n : Fin 8, ∀ on : Bool, charabancref01_With.f 16 (a.val : Int) (n.val : Int) on = some (M.withB a.val n.val on) := by decide +kernel
theorem with_out {a n : Int} (h : ¬ (0 ≤ n ∧ n ≤ 7)) (on : Bool) : M.withB a n on = a := by
  unfold M.withB M.may
  have : (decide (0 ≤ n) && decide (n < 8)) = false := by simp; omega
  rw [this]
  rfl
theorem ref_with (k : Nat) (hk : 16 ≤ k) (a n : Int) (on : Bool) (h0 : 0 ≤ a) (h1 : a ≤ 255) : charabancref01_With.f k a n on = some (M.withB a n on) := by
  by_cases hn : 0 ≤ n ∧ n ≤ 7
  · obtain ⟨x, rfl⟩ := fin_of h0 h1
    obtain ⟨y, rfl⟩ := fin8_of hn.1 hn.2
    exact at_rounds (charabancref01_With.mono _ _ _) hk (with_tab x y on)
  · obtain ⟨m, rfl⟩ : ∃ m, k = m + 1 := ⟨k - 1, by omega⟩
    rw [with_out hn]
    unfold charabancref01_With.f
    by_cases h : n < 0
    · rw [if_pos h]; simp only [charabancref01_With.j0, if_true]
    · rw [if_neg h, decide_eq_true (show n > 7 by omega)]; simp only [charabancref01_With.j0, if_true]

/-! the program's own -/
theorem bits_is (a n : Int) (h0 : 0 ≤ a) (h1 : a ≤ 255) : bits_Is.f a n = some (M.is a n) := by
  unfold bits_Is.f bits_may.f
  by_cases hn : 0 ≤ n ∧ n ≤ 7
  · rw [if_pos (by omega), decide_eq_true (show n < 8 by omega)]
    simp only [Option.bind_some, if_true]
    rw [if_pos hn.1]
    have hs := M.shr_bit a n.toNat h0 h1
    have hm : min n.toNat IntKind.u8.bits = n.toNat := Nat.min_eq_left (by show n.toNat ≤ 8; omega)
    unfold shr
    rw [hm, hs]
    have : M.may n = true := by simp [M.may]; omega
    simp [M.is, this]
  · rw [is_out hn]
    by_cases h : n ≥ 0
    · rw [if_pos h, decide_eq_false (show ¬ n < 8 by omega)]; rfl
    · rw [if_neg h]; rfl
theorem i64_and7 (n : Int) : Go.bits .and .i64 n 7 = n % 8 := by
  unfold Go.bits
  have h : (BitVec.ofInt 64 n &&& BitVec.ofInt 64 7).toNat = (n % 8).toNat := by
    rw [BitVec.toNat_and, BitVec.toNat_ofInt, BitVec.toNat_ofInt, show ((7 : Int) % (2 ^ 64 : Nat)).toNat = 7 by decide, nat_mask3]
    omega
  show IntKind.i64.wrap (((BitVec.ofInt 64 n &&& BitVec.ofInt 64 7).toNat : Nat) : Int) = _
  rw [h, IntKind.wrap_i64]
  omega
end Go.Proofs.Ytkphidaoodedjaa.Pure
