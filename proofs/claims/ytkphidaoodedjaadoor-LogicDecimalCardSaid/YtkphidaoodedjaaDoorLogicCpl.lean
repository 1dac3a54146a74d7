/- The program's complement (logic.Cpl), by its contract: nothing that lay before is turned. -/
import Derived.Test.YtkphidaoodedjaaDoorRef05
namespace Go.Proofs.YtkphidaoodedjaaDoor
open Go.RowKit
set_option linter.unusedVariables false

theorem M.cpl_tab : ∀ s z y h x p n c : Bool, bits .or .u8 (bits .or .u8 (M.mk s z y h x p n c) 16) 2 = M.mk s z y true x p true c := by decide +kernel
theorem M.cpl_or (f r : Int) : bits .or .u8 (bits .or .u8 (bits .or .u8 (bits .andNot .u8 f 40) (bits .and .u8 r 40)) 16) 2 = M.cplF f r := by
  rw [M.keep_lines]
  exact M.cpl_tab _ _ _ _ _ _ _ _
theorem M.not_fin : ∀ a : Fin 256, bits .xor .u8 IntKind.u8.max (a.val : Int) = 255 - (a.val : Int) := by decide +kernel
theorem M.not_is (a : Int) (h0 : 0 ≤ a) (h1 : a ≤ 255) : bits .xor .u8 IntKind.u8.max a = 255 - a := by
  obtain ⟨x, rfl⟩ := M.fin_of h0 h1
  exact M.not_fin x
theorem keep_any (f r m : Int) (w : World) : Calls Tryd.prog 31 #[.int .u8 f, .int .u8 r, .int .u8 m] w fun e w' => e = .returned (.int .u8 (bits .or .u8 (bits .andNot .u8 f m) (bits .and .u8 r m))) ∧ w = w' := by
  go_enter Tryd.func31, Tryd.ntmps31
  go_wp2
  go_returns
  exact ⟨rfl, rfl⟩
theorem cpl_any (a f : Int) (h0 : 0 ≤ a) (h1 : a ≤ 255) (h2 : 0 ≤ f) (h3 : f ≤ 255) (w : World) : Calls Tryd.prog 14 #[.int .u8 a, .int .u8 f] w fun e w' => e = .returned (.tuple #[.int .u8 (255 - a), .int .u8 (M.cplF f (255 - a))]) ∧ Below w.heap.size w w' := by
  have H := Lib.hid (M.cpl_or f (255 - a))
  have hx := M.not_is a h0 h1
  go_enter Tryd.func14, Tryd.ntmps14
  go_wp2_with fail
  refine (keep_any f (255 - a) 40 _).mono ?_
  rintro e w1 ⟨rfl, rfl⟩
  go_wp2_with fail
  go_returns
  exact ⟨ret2 rfl H.out, Below.refl _ _⟩
end Go.Proofs.YtkphidaoodedjaaDoor
