/- The reference's bits (charabancref01) over plain numbers: each answers what the plain words M.is, M.withB say. -/
import Derived.Test.YtkphidaoodedjaaDoorPLx2
import Derived.Test.YtkphidaoodedjaaDoorMathLogic
import Derived.OpenShut
import Derived.Laws.Bits128
namespace Go.Proofs.YtkphidaoodedjaaDoor.Pure
open Go.RowKit Go.Proofs.YtkphidaoodedjaaDoor.PL Go.Proofs.YtkphidaoodedjaaDoorW.PrintWords Go.Proofs.YtkphidaoodedjaaDoorW.PrintLast Go.Proofs.YtkphidaoodedjaaDoorW.PrintMore
theorem fin_of {a : Int} (h0 : 0 ≤ a) (h1 : a ≤ 255) : ∃ x : Fin 256, a = (x.val : Int) := ⟨⟨a.toNat, by omega⟩, by simp; omega⟩
theorem fin8_of {n : Int} (h0 : 0 ≤ n) (h1 : n ≤ 7) : ∃ x : Fin 8, n = (x.val : Int) := ⟨⟨n.toNat, by omega⟩, by simp; omega⟩

theorem is_tab : ∀ a : Fin 256, ∀ n : Fin 8, charabancref01_Is.f 12 (a.val : Int) (n.val : Int) = some (M.is a.val n.val) := by decide +kernel
theorem is_out {a n : Int} (h : ¬ (0 ≤ n ∧ n ≤ 7)) : M.is a n = false := by
  unfold M.is M.may
  have : decide (0 ≤ n) = false ∨ decide (n < 8) = false := by simp; omega
  rcases this with h | h <;> simp [h]
theorem ref_is (k : Nat) (hk : 12 ≤ k) (a n : Int) (h0 : 0 ≤ a) (h1 : a ≤ 255) : charabancref01_Is.f k a n = some (M.is a n) := by
  by_cases hn : 0 ≤ n ∧ n ≤ 7
  · obtain ⟨x, rfl⟩ := fin_of h0 h1
    obtain ⟨y, rfl⟩ := fin8_of hn.1 hn.2
    exact at_rounds (charabancref01_Is.mono _ _) hk (is_tab x y)
  · unfold charabancref01_Is.f
    rw [is_out hn]
    by_cases h : n < 0
    · rw [if_pos h]
    · rw [if_neg h, if_pos (by omega)]
theorem with_tab : ∀ a : Fin 256, ∀ n : Fin 8, ∀ on : Bool, charabancref01_With.f 16 (a.val : Int) (n.val : Int) on = some (M.withB a.val n.val on) := by decide +kernel
theorem with_out {a n : Int} (h : ¬ (0 ≤ n ∧ n ≤ 7)) (on : Bool) : M.withB a n on = a := by
  unfold M.withB M.may
  have : (decide (0 ≤ n) && decide (n < 8)) = false := by simp; omega
  rw [this]
  rfl
theorem ref_with (k : Nat) (hk : 16 ≤ k) (a n : Int) (on : Bool) (h0 : 0 ≤ a) (h1 : a ≤ 255) : charabancref01_With.f k a n on = some (M.withB a n on) := by
  by_cases hn : 0 ≤ n ∧ n ≤ 7
  · obtain ⟨x, rfl⟩ := fin_of h0 h1
    obtain ⟨y, rfl⟩ := fin8_of hn.1 hn.2
    exact at_rounds (charabancref01_With.mono _ _ _) hk (with_tab x y on)
  · obtain ⟨m, rfl⟩ : ∃ m, k = m + 1 := ⟨k - 1, by omega⟩
    rw [with_out hn]
    unfold charabancref01_With.f
    by_cases h : n < 0
    · rw [if_pos h]; simp only [charabancref01_With.j0, if_true]
    · rw [if_neg h, decide_eq_true (show n > 7 by omega)]; simp only [charabancref01_With.j0, if_true]

theorem refand_is (u v : Int) (u0 : 0 ≤ u) (u1 : u ≤ 255) (v0 : 0 ≤ v) (v1 : v ≤ 255) : charabancref05_And.f 36 u v = some (Go.bits .and .u8 u v, M.logF (Go.bits .and .u8 u v) true) := by
  have r := M.bits_range .and u v
  have g := M.evenF_range (Go.bits .and .u8 u v)
  unfold charabancref05_And.f charabancref02_Even.f charabancref05_against.f
  rw [if_pos ⟨⟨u0, u1⟩, ⟨v0, v1⟩, by decide, by decide⟩]
  simp only [Option.bind_some]
  rw [show M.againstV 0 u v = Go.bits .and .u8 u v from rfl, if_pos r]
  simp only [Option.bind_some]
  rw [ref_with 36 (by omega) _ 4 true g.1 g.2, M.with16]
  rfl
theorem refor_is (u v : Int) (u0 : 0 ≤ u) (u1 : u ≤ 255) (v0 : 0 ≤ v) (v1 : v ≤ 255) : charabancref05_Or.f u v = some (Go.bits .or .u8 u v, M.logF (Go.bits .or .u8 u v) false) := by
  have r := M.bits_range .or u v
  unfold charabancref05_Or.f charabancref02_Even.f charabancref05_against.f
  rw [if_pos ⟨⟨u0, u1⟩, ⟨v0, v1⟩, by decide, by decide⟩]
  simp only [Option.bind_some]
  rw [show M.againstV 1 u v = Go.bits .or .u8 u v from rfl, if_pos r]
  rfl
theorem refxor_is (u v : Int) (u0 : 0 ≤ u) (u1 : u ≤ 255) (v0 : 0 ≤ v) (v1 : v ≤ 255) : charabancref05_Xor.f u v = some (Go.bits .xor .u8 u v, M.logF (Go.bits .xor .u8 u v) false) := by
  have r := M.bits_range .xor u v
  unfold charabancref05_Xor.f charabancref02_Even.f charabancref05_against.f
  rw [if_pos ⟨⟨u0, u1⟩, ⟨v0, v1⟩, by decide, by decide⟩]
  simp only [Option.bind_some]
  rw [show M.againstV 2 u v = Go.bits .xor .u8 u v from rfl, if_pos r]
  rfl
theorem awake05 : charabanclaw05_awake.f = some true := by decide +kernel
end Go.Proofs.YtkphidaoodedjaaDoor.Pure
