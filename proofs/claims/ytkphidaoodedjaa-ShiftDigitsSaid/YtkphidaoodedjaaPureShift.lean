/- The program's shifts (shift.Do, Acc, Digit, Bit) and the reference's, over plain numbers. -/
import Derived.Test.YtkphidaoodedjaaPureShiftRef
import Derived.Test.YtkphidaoodedjaaMathShift2
namespace Go.Proofs.Ytkphidaoodedjaa.Pure
open Go.RowKit Go.Proofs.Ytkphidaoodedjaa.PT Go.Proofs.YtkphidaoodedjaaW.PrintWords Go.Proofs.YtkphidaoodedjaaW.PrintLast Go.Proofs.YtkphidaoodedjaaW.PrintMore
set_option linter.unusedVariables false

theorem even_is (r : Int) (h0 : 0 ≤ r) (h1 : r ≤ 255) : flags_Even.f r = some (M.evenF r) := by
  have e : flags_Result.f r = some (M.resF r) := by
    rw [← M.resF_is r h0 h1]
    unfold flags_Result.f
    split <;> rfl
  unfold flags_Even.f bits_Even.f
  rw [e, if_pos ⟨h0, h1⟩]
  simp only [Option.bind_some]
  unfold M.evenF
  cases M.evenB r
  · rfl
  · simp only [if_true]
    rw [show Go.bits .or .u8 (M.resF r) 4 = _ from M.res4 _ _ _ _]
theorem do_yes (kind b f : Int) (hk : M.kindB kind = true) (h0 : 0 ≤ b) (h1 : b ≤ 255) (h2 : 0 ≤ f) (h3 : f ≤ 255) : shift_Do.f kind b f = some (M.turnedR kind b f, M.doF kind b f) := by
  have r := M.turnedR_range kind b f h0 h1
  unfold shift_Do.f shift_moved.f
  rw [if_pos ⟨⟨h0, h1⟩, ⟨h2, h3⟩⟩]
  simp only [Option.bind_some, hk, if_true]
  rw [even_is _ r.1 r.2]
  simp only [Option.bind_some]
  rw [M.even_or, M.doF_is]
theorem do_no (kind b f : Int) (hk : M.kindB kind = false) (h0 : 0 ≤ b) (h1 : b ≤ 255) (h2 : 0 ≤ f) (h3 : f ≤ 255) : shift_Do.f kind b f = some (b, f) := by
  unfold shift_Do.f shift_moved.f
  rw [if_pos ⟨⟨h0, h1⟩, ⟨h2, h3⟩⟩]
  simp only [Option.bind_some, hk]
  rfl
theorem refdo_yes (k : Nat) (hn : 16 ≤ k) (kind b f : Int) (hk : M.kindB kind = true) (h0 : 0 ≤ b) (h1 : b ≤ 255) (h2 : 0 ≤ f) (h3 : f ≤ 255) : charabancref06_Do.f k kind b f = some (M.turnedR kind b f, M.doF kind b f) := by
  have r := M.turnedR_range kind b f h0 h1
  have g := M.evenF_range (M.turnedR kind b f)
  unfold charabancref06_Do.f charabancref06_turned.f charabancref02_Even.f
  rw [if_pos ⟨⟨h0, h1⟩, ⟨h2, h3⟩⟩]
  simp only [Option.bind_some, hk, if_true]
  rw [if_pos r]
  simp only [Option.bind_some]
  rw [ref_with k hn _ 0 _ g.1 g.2]
  rfl
theorem refdo_no (k : Nat) (kind b f : Int) (hk : M.kindB kind = false) (h0 : 0 ≤ b) (h1 : b ≤ 255) (h2 : 0 ≤ f) (h3 : f ≤ 255) : charabancref06_Do.f k kind b f = some (b, f) := by
  unfold charabancref06_Do.f charabancref06_turned.f
  rw [if_pos ⟨⟨h0, h1⟩, ⟨h2, h3⟩⟩]
  simp only [Option.bind_some, hk]
  rfl
theorem acc_is (kind b f : Int) (h0 : 0 ≤ b) (h1 : b ≤ 255) (h2 : 0 ≤ f) (h3 : f ≤ 255) : shift_Acc.f kind b f = some (M.raccR kind b f, M.raccF kind b f) := by
  unfold shift_Acc.f shift_moved.f M.raccR M.raccF M.acc3
  rw [if_pos ⟨⟨h0, h1⟩, ⟨h2, h3⟩⟩]
  simp only [Option.bind_some]
  cases hk : M.kindB kind
  · rfl
  · by_cases h : kind > 3
    · rw [decide_eq_false (show ¬ kind ≤ 3 by omega)]
      simp only [if_true, if_pos h, Bool.and_false]
      rfl
    · rw [decide_eq_true (show kind ≤ 3 by omega)]
      simp only [if_true, if_neg h, Bool.and_self, flags_Keep.f, Option.bind_some]
      rw [M.acc_is]
theorem digit_left (a b f : Int) (h0 : 0 ≤ a) (h1 : a ≤ 255) (h2 : 0 ≤ b) (h3 : b ≤ 255) (h4 : 0 ≤ f) (h5 : f ≤ 255) : shift_Digit.f false a b f = some (M.digL a b, M.digLb a b, M.evenC (M.digL a b) (M.is f 0)) := by
  unfold shift_Digit.f
  simp only [M.tri_is a b h0 h1 h2 h3, M.tri_left a b h0 h1 h2 h3, M.f01 f h4 h5, (M.and15 a h0 h1).2]
  unfold bits_Hi.f bits_Lo.f
  simp only [Option.bind_some]
  have e : (b / 16 * 256 + (b % 16 * 16 + a % 16)) / 256 % 256 = b / 16 := by omega
  have e2 : (b / 16 * 256 + (b % 16 * 16 + a % 16)) % 256 = M.digLb a b := by unfold M.digLb; omega
  rw [e, e2, M.or16 (a / 16) (b / 16) (by omega) (by omega) (by omega) (by omega)]
  have r := (M.dig_range a b h0 h1 h2 h3).1
  rw [show a / 16 * 16 + b / 16 = M.digL a b from rfl, even_is _ r.1 r.2]
  simp only [Option.bind_some]
  rw [M.even_or]
  rfl
theorem digit_right (a b f : Int) (h0 : 0 ≤ a) (h1 : a ≤ 255) (h2 : 0 ≤ b) (h3 : b ≤ 255) (h4 : 0 ≤ f) (h5 : f ≤ 255) : shift_Digit.f true a b f = some (M.digR a b, M.digRb a b, M.evenC (M.digR a b) (M.is f 0)) := by
  unfold shift_Digit.f
  simp only [M.tri_is a b h0 h1 h2 h3, M.tri_right a b h0 h1 h2 h3, M.f01 f h4 h5, (M.and15 a h0 h1).2]
  unfold bits_Hi.f bits_Lo.f
  simp only [Option.bind_some]
  have e : (b % 16 * 256 + (a % 16 * 16 + b / 16)) / 256 % 256 = b % 16 := by
    have q : 0 ≤ a % 16 * 16 + b / 16 ∧ a % 16 * 16 + b / 16 ≤ 255 := by omega
    generalize a % 16 * 16 + b / 16 = z at q ⊢
    omega
  have e2 : (b % 16 * 256 + (a % 16 * 16 + b / 16)) % 256 = M.digRb a b := by unfold M.digRb; omega
  rw [e, e2, M.or16 (a / 16) (b % 16) (by omega) (by omega) (by omega) (by omega)]
  have r := (M.dig_range a b h0 h1 h2 h3).2.2.1
  rw [show a / 16 * 16 + b % 16 = M.digR a b from rfl, even_is _ r.1 r.2]
  simp only [Option.bind_some, if_true]
  rw [M.even_or]
theorem refdigit_left (k : Nat) (hn : 16 ≤ k) (a b f : Int) (h0 : 0 ≤ a) (h1 : a ≤ 255) (h2 : 0 ≤ b) (h3 : b ≤ 255) (h4 : 0 ≤ f) (h5 : f ≤ 255) : charabancref06_Digit.f k false a b f = some (M.digL a b, M.digLb a b, M.evenC (M.digL a b) (M.is f 0)) := by
  have r := (M.dig_range a b h0 h1 h2 h3).1
  have g := M.evenF_range (M.digL a b)
  have e : (Int.tdiv a 16 % 256 * 16 % 256 + Int.tdiv b 16 % 256) % 256 = M.digL a b := by
    rw [Int.tdiv_eq_ediv_of_nonneg h0, Int.tdiv_eq_ediv_of_nonneg h2]; unfold M.digL; omega
  have e2 : (Int.tmod b 16 * 16 % 256 + Int.tmod a 16) % 256 = M.digLb a b := by
    rw [Int.tmod_eq_emod_of_nonneg h0, Int.tmod_eq_emod_of_nonneg h2]; unfold M.digLb; omega
  unfold charabancref06_Digit.f charabancref02_Even.f
  simp only [e, e2, if_pos r, Option.bind_some]
  rw [ref_is k (by omega) f 0 h4 h5]
  simp only [Option.bind_some]
  rw [ref_with k hn _ 0 _ g.1 g.2, M.even_with]
  rfl
theorem refdigit_right (k : Nat) (hn : 16 ≤ k) (a b f : Int) (h0 : 0 ≤ a) (h1 : a ≤ 255) (h2 : 0 ≤ b) (h3 : b ≤ 255) (h4 : 0 ≤ f) (h5 : f ≤ 255) : charabancref06_Digit.f k true a b f = some (M.digR a b, M.digRb a b, M.evenC (M.digR a b) (M.is f 0)) := by
  have r := (M.dig_range a b h0 h1 h2 h3).2.2.1
  have g := M.evenF_range (M.digR a b)
  have e : (Int.tdiv a 16 % 256 * 16 % 256 + Int.tmod b 16) % 256 = M.digR a b := by
    rw [Int.tdiv_eq_ediv_of_nonneg h0, Int.tmod_eq_emod_of_nonneg h2]; unfold M.digR; omega
  have e2 : (Int.tmod a 16 * 16 % 256 + Int.tdiv b 16 % 256) % 256 = M.digRb a b := by
    rw [Int.tmod_eq_emod_of_nonneg h0, Int.tdiv_eq_ediv_of_nonneg h2]; unfold M.digRb; omega
  unfold charabancref06_Digit.f charabancref02_Even.f
  simp only [e, e2, if_pos r, Option.bind_some, if_true]
  rw [ref_is k (by omega) f 0 h4 h5]
  simp only [Option.bind_some]
  rw [ref_with k hn _ 0 _ g.1 g.2, M.even_with]
  rfl
theorem bit_is (n b l f : Int) (h0 : 0 ≤ b) (h1 : b ≤ 255) (h2 : 0 ≤ l) (h3 : l ≤ 255) (h4 : 0 ≤ f) (h5 : f ≤ 255) : shift_Bit.f n b l f = some (M.rbitF n b l f) := by
  unfold shift_Bit.f M.rbitF
  rw [bits_is b n h0 h1, M.and40 l h2 h3, M.f01 f h4 h5]
  simp only [Option.bind_some]
  have t := M.bit_tab (M.is f 0) (M.is l 5) (M.is l 3)
  cases hb : M.is b n
  · simp only [Bool.false_eq_true, if_false]
    rw [t.1]
    simp
  · simp only [if_true]
    by_cases h : n = 7
    · subst h
      simp only [if_true]
      rw [t.2.1]
      rfl
    · have e : (n == 7) = false := by simpa using h
      rw [if_neg h, t.2.2, e]
      rfl
theorem awake06 : charabanclaw06_awake.f = some true := by decide +kernel
end Go.Proofs.Ytkphidaoodedjaa.Pure
