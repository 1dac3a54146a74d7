/- The program's and, or, xor (logic.And, Or, Xor: logic.made over a closure), flags with P (flags.Even), and the decimal correction over its laid table (logic.Daa), each by its contract: nothing that lay before is turned. -/
import Derived.Handy
import Derived.Tactics2
import Derived.KernelRfl
import Derived.Test.YtkphidaoodedjaaDoorMathLogic
import Derived.Test.YtkphidaoodedjaaDoorBitsIter
import Derived.Test.YtkphidaoodedjaaDoorRef02Even
import Derived.Test.YtkphidaoodedjaaDoorRef03
namespace Go.Proofs.YtkphidaoodedjaaDoor
open Go.RowKit
set_option linter.unusedVariables false

theorem result_any (r : Int) (h0 : 0 ≤ r) (h1 : r ≤ 255) (w : World) : Calls Tryd.prog 43 #[.int .u8 r] w fun e w' => e = .returned (.int .u8 (M.resF r)) ∧ w = w' := by
  have hr := M.resF_is r h0 h1
  have Hr := Lib.hid hr
  clear hr
  cases e0 : (r == 0)
  all_goals
    have H : Hid ((if r = 0 then (64 : Int) else bits .and .u8 r 168) = M.resF r) := Hr
    go_enter Tryd.func43, Tryd.ntmps43
    go_wp2
    go_returns
    exact ⟨ret_int (by rw [← H.out]; simp_all), rfl⟩
theorem flagseven_any (r : Int) (h0 : 0 ≤ r) (h1 : r ≤ 255) (w : World) : Calls Tryd.prog 34 #[.int .u8 r] w fun e w' => e = .returned (.int .u8 (M.evenF r)) ∧ Below w.heap.size w w' := by
  have he := fun W => even_any r h0 h1 W
  have hF : M.evenF r = if M.evenB r then bits .or .u8 (M.resF r) 4 else M.resF r := by
    unfold M.evenF M.resF
    cases M.evenB r
    · rfl
    · exact (M.res4 _ _ _ _).symm
  cases hb : M.evenB r
  all_goals
    rw [hb] at hF
    simp only [hb] at he
    have He := Lib.hid he
    have HF := Lib.hid hF
    clear he hF hb
    go_enter Tryd.func34, Tryd.ntmps34
    go_wp2_with fail
    refine (result_any r h0 h1 _).mono ?_
    rintro e w1 ⟨rfl, rfl⟩
    go_wp2_with fail
    refine (He.out _).mono ?_
    rintro e w1 ⟨rfl, hb1⟩
    go_wp2_with fail
    go_returns
    exact ⟨ret_int (by rw [HF.out]; rfl), hb1⟩
theorem andc_any (a b : Int) (p q : Nat) (w : World) (ha : w.cell? ⟨p, 0, none⟩ = some (.int .u8 a)) (hb : w.cell? ⟨q, 0, none⟩ = some (.int .u8 b)) :
    Calls Tryd.prog 25 #[.pointer (some ⟨p, 0, none⟩), .pointer (some ⟨q, 0, none⟩)] w fun e w' => e = .returned (.int .u8 (bits .and .u8 a b)) ∧ w = w' := by
  go_enter Tryd.func25, Tryd.ntmps25
  go_wp2
  go_returns
  exact ⟨rfl, rfl⟩
theorem andmade_any (a b : Int) (p q : Nat) (w : World) (ha : w.cell? ⟨p, 0, none⟩ = some (.int .u8 a)) (hb : w.cell? ⟨q, 0, none⟩ = some (.int .u8 b)) :
    Calls Tryd.prog 24 #[.int .u8 16, .func (.func 25) #[] #[.pointer (some ⟨p, 0, none⟩), .pointer (some ⟨q, 0, none⟩)]] w fun e w' => e = .returned (.tuple #[.int .u8 (bits .and .u8 a b), .int .u8 (M.logF (bits .and .u8 a b) true)]) ∧ Below w.heap.size w w' := by
  have hr := M.bits_range .and a b
  have Ho := Lib.hid (M.or16 (bits .and .u8 a b))
  go_enter Tryd.func24, Tryd.ntmps24
  go_wp2_with fail
  refine (andc_any a b _ _ _ ha hb).mono ?_
  rintro e w1 ⟨rfl, rfl⟩
  go_wp2_with fail
  refine (flagseven_any _ hr.1 hr.2 _).mono ?_
  rintro e w1 ⟨rfl, hb1⟩
  go_wp2_with fail
  go_returns
  exact ⟨ret2 rfl Ho.out, hb1⟩
theorem and_any (a b : Int) (h0 : 0 ≤ a) (h1 : a ≤ 255) (h2 : 0 ≤ b) (h3 : b ≤ 255) (w : World) :
    Calls Tryd.prog 8 #[.int .u8 a, .int .u8 b] w fun e w' => e = .returned (.tuple #[.int .u8 (bits .and .u8 a b), .int .u8 (M.logF (bits .and .u8 a b) true)]) ∧ Below w.heap.size w w' := by
  go_enter Tryd.func8, Tryd.ntmps8
  go_wp2_with fail
  refine (andmade_any a b _ _ _ (by go_cell) (by go_cell)).mono ?_
  rintro e w1 ⟨rfl, hb1⟩
  replace hb1 := bstep (w := w) (by go_grown) hb1
  go_wp2_with fail
  go_returns
  exact ⟨rfl, hb1⟩
theorem orc_any (a b : Int) (p q : Nat) (w : World) (ha : w.cell? ⟨p, 0, none⟩ = some (.int .u8 a)) (hb : w.cell? ⟨q, 0, none⟩ = some (.int .u8 b)) :
    Calls Tryd.prog 29 #[.pointer (some ⟨p, 0, none⟩), .pointer (some ⟨q, 0, none⟩)] w fun e w' => e = .returned (.int .u8 (bits .or .u8 a b)) ∧ w = w' := by
  go_enter Tryd.func29, Tryd.ntmps29
  go_wp2
  go_returns
  exact ⟨rfl, rfl⟩
theorem ormade_any (a b : Int) (p q : Nat) (w : World) (ha : w.cell? ⟨p, 0, none⟩ = some (.int .u8 a)) (hb : w.cell? ⟨q, 0, none⟩ = some (.int .u8 b)) :
    Calls Tryd.prog 24 #[.int .u8 0, .func (.func 29) #[] #[.pointer (some ⟨p, 0, none⟩), .pointer (some ⟨q, 0, none⟩)]] w fun e w' => e = .returned (.tuple #[.int .u8 (bits .or .u8 a b), .int .u8 (M.logF (bits .or .u8 a b) false)]) ∧ Below w.heap.size w w' := by
  have hr := M.bits_range .or a b
  have Ho := Lib.hid (M.or0 (bits .or .u8 a b))
  go_enter Tryd.func24, Tryd.ntmps24
  go_wp2_with fail
  refine (orc_any a b _ _ _ ha hb).mono ?_
  rintro e w1 ⟨rfl, rfl⟩
  go_wp2_with fail
  refine (flagseven_any _ hr.1 hr.2 _).mono ?_
  rintro e w1 ⟨rfl, hb1⟩
  go_wp2_with fail
  go_returns
  exact ⟨ret2 rfl Ho.out, hb1⟩
theorem or_any (a b : Int) (h0 : 0 ≤ a) (h1 : a ≤ 255) (h2 : 0 ≤ b) (h3 : b ≤ 255) (w : World) :
    Calls Tryd.prog 10 #[.int .u8 a, .int .u8 b] w fun e w' => e = .returned (.tuple #[.int .u8 (bits .or .u8 a b), .int .u8 (M.logF (bits .or .u8 a b) false)]) ∧ Below w.heap.size w w' := by
  go_enter Tryd.func10, Tryd.ntmps10
  go_wp2_with fail
  refine (ormade_any a b _ _ _ (by go_cell) (by go_cell)).mono ?_
  rintro e w1 ⟨rfl, hb1⟩
  replace hb1 := bstep (w := w) (by go_grown) hb1
  go_wp2_with fail
  go_returns
  exact ⟨rfl, hb1⟩
theorem xorc_any (a b : Int) (p q : Nat) (w : World) (ha : w.cell? ⟨p, 0, none⟩ = some (.int .u8 a)) (hb : w.cell? ⟨q, 0, none⟩ = some (.int .u8 b)) :
    Calls Tryd.prog 30 #[.pointer (some ⟨p, 0, none⟩), .pointer (some ⟨q, 0, none⟩)] w fun e w' => e = .returned (.int .u8 (bits .xor .u8 a b)) ∧ w = w' := by
  go_enter Tryd.func30, Tryd.ntmps30
  go_wp2
  go_returns
  exact ⟨rfl, rfl⟩
theorem xormade_any (a b : Int) (p q : Nat) (w : World) (ha : w.cell? ⟨p, 0, none⟩ = some (.int .u8 a)) (hb : w.cell? ⟨q, 0, none⟩ = some (.int .u8 b)) :
    Calls Tryd.prog 24 #[.int .u8 0, .func (.func 30) #[] #[.pointer (some ⟨p, 0, none⟩), .pointer (some ⟨q, 0, none⟩)]] w fun e w' => e = .returned (.tuple #[.int .u8 (bits .xor .u8 a b), .int .u8 (M.logF (bits .xor .u8 a b) false)]) ∧ Below w.heap.size w w' := by
  have hr := M.bits_range .xor a b
  have Ho := Lib.hid (M.or0 (bits .xor .u8 a b))
  go_enter Tryd.func24, Tryd.ntmps24
  go_wp2_with fail
  refine (xorc_any a b _ _ _ ha hb).mono ?_
  rintro e w1 ⟨rfl, rfl⟩
  go_wp2_with fail
  refine (flagseven_any _ hr.1 hr.2 _).mono ?_
  rintro e w1 ⟨rfl, hb1⟩
  go_wp2_with fail
  go_returns
  exact ⟨ret2 rfl Ho.out, hb1⟩
theorem xor_any (a b : Int) (h0 : 0 ≤ a) (h1 : a ≤ 255) (h2 : 0 ≤ b) (h3 : b ≤ 255) (w : World) :
    Calls Tryd.prog 12 #[.int .u8 a, .int .u8 b] w fun e w' => e = .returned (.tuple #[.int .u8 (bits .xor .u8 a b), .int .u8 (M.logF (bits .xor .u8 a b) false)]) ∧ Below w.heap.size w w' := by
  go_enter Tryd.func12, Tryd.ntmps12
  go_wp2_with fail
  refine (xormade_any a b _ _ _ (by go_cell) (by go_cell)).mono ?_
  rintro e w1 ⟨rfl, hb1⟩
  replace hb1 := bstep (w := w) (by go_grown) hb1
  go_wp2_with fail
  go_returns
  exact ⟨rfl, hb1⟩
end Go.Proofs.YtkphidaoodedjaaDoor
