/- The reference's bits (charabancref01), over plain numbers: each answers what the plain words M.is, M.evenB, M.firstB and their kin say. -/
import Derived.Test.YthidmlnoiginiaaPBx2
import Derived.OpenShut
import Derived.Laws.Bits128
namespace Go.Proofs.Ythidmlnoiginiaa.Pure
open Go.RowKit Go.Proofs.Ythidmlnoiginiaa.PB Go.Proofs.YthidmlnoiginiaaW.PrintWords Go.Proofs.YthidmlnoiginiaaW.PrintLast Go.Proofs.YthidmlnoiginiaaW.PrintMore

theorem awake01 : charabanclaw01_awake.f = some true := by decide +kernel
theorem fin_of {a : Int} (h0 : 0 ≤ a) (h1 : a ≤ 255) : ∃ x : Fin 256, a = (x.val : Int) := ⟨⟨a.toNat, by omega⟩, by simp; omega⟩
theorem fin8_of {n : Int} (h0 : 0 ≤ n) (h1 : n ≤ 7) : ∃ x : Fin 8, n = (x.val : Int) := ⟨⟨n.toNat, by omega⟩, by simp; omega⟩

theorem is_tab : ∀ a : Fin 256, ∀ n : Fin 8, charabancref01_Is.f 12 (a.val : Int) (n.val : Int) = some (M.is a.val n.val) := by decide +kernel
theorem is_out {a n : Int} (h : ¬ (0 ≤ n ∧ n ≤ 7)) : M.is a n = false := by
  unfold M.is M.may
  have : decide (0 ≤ n) = false ∨ decide (n < 8) = false := by simp; omega
  rcases this with h | h <;> simp [h]
theorem ref_is (k : Nat) (hk : 12 ≤ k) (a n : Int) (h0 : 0 ≤ a) (h1 : a ≤ 255) : charabancref01_Is.f k a n = some (M.is a n) := by
  by_cases hn : 0 ≤ n ∧ n ≤ 7
  · obtain ⟨x, rfl⟩ := fin_of h0 h1
    obtain ⟨y, rfl⟩ := fin8_of hn.1 hn.2
    exact at_rounds (charabancref01_Is.mono _ _) hk (is_tab x y)
  · unfold charabancref01_Is.f
    rw [is_out hn]
    by_cases h : n < 0
    · rw [if_pos h]
    · rw [if_neg h, if_pos (by omega)]
theorem first_tab : ∀ a : Fin 256, charabancref01_First.f 24 (a.val : Int) = some (M.firstB a.val) := by decide +kernel
theorem ref_first (k : Nat) (hk : 24 ≤ k) (a : Int) (h0 : 0 ≤ a) (h1 : a ≤ 255) : charabancref01_First.f k a = some (M.firstB a) := by
  obtain ⟨x, rfl⟩ := fin_of h0 h1
  exact at_rounds (charabancref01_First.mono _) hk (first_tab x)
theorem even_tab : ∀ a : Fin 256, charabancref01_Even.f 24 (a.val : Int) = some (M.evenB a.val) := by decide +kernel
theorem ref_even (k : Nat) (hk : 24 ≤ k) (a : Int) (h0 : 0 ≤ a) (h1 : a ≤ 255) : charabancref01_Even.f k a = some (M.evenB a) := by
  obtain ⟨x, rfl⟩ := fin_of h0 h1
  exact at_rounds (charabancref01_Even.mono _) hk (even_tab x)
theorem with_tab : ∀ a : Fin 256, ∀ n : Fin 8, ∀ on : Bool, charabancref01_With.f 16 (a.val : Int) (n.val : Int) on = some (M.withB a.val n.val on) := by decide +kernel
theorem with_out {a n : Int} (h : ¬ (0 ≤ n ∧ n ≤ 7)) (on : Bool) : M.withB a n on = a := by
  unfold M.withB M.may
  have : (decide (0 ≤ n) && decide (n < 8)) = false := by simp; omega
  rw [this]
  rfl
theorem ref_with (k : Nat) (hk : 16 ≤ k) (a n : Int) (on : Bool) (h0 : 0 ≤ a) (h1 : a ≤ 255) : charabancref01_With.f k a n on = some (M.withB a n on) := by
  by_cases hn : 0 ≤ n ∧ n ≤ 7
  · obtain ⟨x, rfl⟩ := fin_of h0 h1
    obtain ⟨y, rfl⟩ := fin8_of hn.1 hn.2
    exact at_rounds (charabancref01_With.mono _ _ _) hk (with_tab x y on)
  · obtain ⟨m, rfl⟩ : ∃ m, k = m + 1 := ⟨k - 1, by omega⟩
    rw [with_out hn]
    unfold charabancref01_With.f
    by_cases h : n < 0
    · rw [if_pos h]; simp only [charabancref01_With.j0, if_true]
    · rw [if_neg h, decide_eq_true (show n > 7 by omega)]; simp only [charabancref01_With.j0, if_true]

/-! the program's own -/
theorem bits_is (a n : Int) (h0 : 0 ≤ a) (h1 : a ≤ 255) : bits_Is.f a n = some (M.is a n) := by
  unfold bits_Is.f bits_may.f
  by_cases hn : 0 ≤ n ∧ n ≤ 7
  · rw [if_pos (by omega), decide_eq_true (show n < 8 by omega)]
    simp only [Option.bind_some, if_true]
    rw [if_pos hn.1]
    have hs := M.shr_bit a n.toNat h0 h1
    have hm : min n.toNat IntKind.u8.bits = n.toNat := Nat.min_eq_left (by show n.toNat ≤ 8; omega)
    unfold shr
    rw [hm, hs]
    have : M.may n = true := by simp [M.may]; omega
    simp [M.is, this]
  · rw [is_out hn]
    by_cases h : n ≥ 0
    · rw [if_pos h, decide_eq_false (show ¬ n < 8 by omega)]; rfl
    · rw [if_neg h]; rfl
theorem bits_with (a n : Int) (on : Bool) : bits_With.f a n on = some (M.withB a n on) := by
  unfold bits_With.f bits_may.f
  by_cases hn : 0 ≤ n ∧ n ≤ 7
  · rw [if_pos (by omega), decide_eq_true (show n < 8 by omega)]
    simp only [Option.bind_some, if_true]
    have hm : min n.toNat IntKind.u8.bits = n.toNat := Nat.min_eq_left (by show n.toNat ≤ 8; omega)
    have : M.may n = true := by simp [M.may]; omega
    unfold shl
    rw [hm]
    cases on <;> simp [M.withB, this, hn.1]
  · rw [with_out hn]
    by_cases h : n ≥ 0
    · rw [if_pos h, decide_eq_false (show ¬ n < 8 by omega)]; rfl
    · rw [if_neg h]; rfl
theorem i64_and7 (n : Int) : Go.bits .and .i64 n 7 = n % 8 := by
  unfold Go.bits
  have h : (BitVec.ofInt 64 n &&& BitVec.ofInt 64 7).toNat = (n % 8).toNat := by
    rw [BitVec.toNat_and, BitVec.toNat_ofInt, BitVec.toNat_ofInt, show ((7 : Int) % (2 ^ 64 : Nat)).toNat = 7 by decide, nat_mask3]
    omega
  show IntKind.i64.wrap (((BitVec.ofInt 64 n &&& BitVec.ofInt 64 7).toNat : Nat) : Int) = _
  rw [h, IntKind.wrap_i64]
  omega
theorem i64_and1023 (n : Int) : Go.bits .and .i64 n 1023 = n % 1024 := by
  unfold Go.bits
  have h : (BitVec.ofInt 64 n &&& BitVec.ofInt 64 1023).toNat = (n % 1024).toNat := by
    rw [BitVec.toNat_and, BitVec.toNat_ofInt, BitVec.toNat_ofInt, show ((1023 : Int) % (2 ^ 64 : Nat)).toNat = 1023 by decide, nat_mask10]
    omega
  show IntKind.i64.wrap (((BitVec.ofInt 64 n &&& BitVec.ofInt 64 1023).toNat : Nat) : Int) = _
  rw [h, IntKind.wrap_i64]
  omega
/-- A byte, turned to the left by r (0 to 7). -/
def turnF (a r : Int) : Int := Go.bits .or .u8 (shl .u8 a r) (shr .u8 a (8 - r))
theorem bits_turn (a n : Int) : bits_Turn.f a n = some (turnF a (n % 8)) := by
  unfold bits_Turn.f
  rw [i64_and7, show wrap64 (8 - n % 8) = 8 - n % 8 by unfold wrap64; omega, if_pos (by omega), if_pos (by omega)]
  rfl
theorem signed_tab : ∀ a : Fin 256, bits_Signed.f (a.val : Int) = charabancref01_Signed.f a.val := by decide +kernel
theorem turn_tab : ∀ a : Fin 256, ∀ r : Fin 8, charabancref01_Turn.l0 24 (a.val : Int) (r.val : Int) 0 0 = some (turnF a.val r.val) := by decide +kernel
theorem turn_tab2 : ∀ a : Fin 256, ∀ r : Fin 8, charabancref01_Turn.l0 24 (a.val : Int) (-(r.val : Int)) 0 0 = some (turnF a.val ((8 - r.val : Int) % 8)) := by decide +kernel
theorem ref_turn (k : Nat) (hk : 24 ≤ k) (a n : Int) (h0 : 0 ≤ a) (h1 : a ≤ 255) : charabancref01_Turn.f k a n = some (turnF a (n % 8)) := by
  obtain ⟨x, rfl⟩ := fin_of h0 h1
  refine at_rounds (charabancref01_Turn.mono _ _) hk ?_
  unfold charabancref01_Turn.f
  by_cases hn : 0 ≤ n
  · rw [Int.tmod_eq_emod_of_nonneg hn]
    obtain ⟨y, hy⟩ := fin8_of (n := n % 8) (by omega) (by omega)
    rw [hy]
    exact turn_tab x y
  · obtain ⟨y, hy⟩ := fin8_of (n := (-n) % 8) (by omega) (by omega)
    have e : Int.tmod n 8 = -((-n) % 8) := by
      rw [show n = -(-n) by omega, Int.neg_tmod, Int.tmod_eq_emod_of_nonneg (by omega)]
      simp
    rw [e, hy, show n % 8 = (8 - (y.val : Int)) % 8 by omega]
    exact turn_tab2 x y
end Go.Proofs.Ythidmlnoiginiaa.Pure
