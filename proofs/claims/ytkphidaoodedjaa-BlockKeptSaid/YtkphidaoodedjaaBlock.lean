/- The program's question whether a block goes on (block.Again), by its contract: nothing that lay before is turned. -/
import Derived.Handy
import Derived.Test.YtkphidaoodedjaaMath6
import Derived.Test.YtkphidaoodedjaaBits
namespace Go.Proofs.Ytkphidaoodedjaa
open Go.RowKit
set_option linter.unusedVariables false

theorem M.and4_fin : ∀ f : Fin 256, (bits .and .u8 (f.val : Int) 4 != 0) = M.is (f.val : Int) 2 ∧ (bits .and .u8 (f.val : Int) 64 != 0) = M.is (f.val : Int) 6 := by decide +kernel
theorem M.and4 (f : Int) (h0 : 0 ≤ f) (h1 : f ≤ 255) : (bits .and .u8 f 4 != 0) = M.is f 2 ∧ (bits .and .u8 f 64 != 0) = M.is f 6 := by
  obtain ⟨x, rfl⟩ := M.fin_of h0 h1
  exact M.and4_fin x
theorem again_any (kind f : Int) (h0 : 0 ≤ f) (h1 : f ≤ 255) (w : World) : Calls Try.prog 20 #[.int .i64 kind, .int .u8 f] w fun e w' => e = .returned (.bool (M.ragain kind f)) ∧ Below w.heap.size w w' := by
  have h4 := (M.and4 f h0 h1).1
  have h64 := (M.and4 f h0 h1).2
  have H4 := Lib.hid h4
  have H64 := Lib.hid h64
  clear h64
  have hB := Below.refl w.heap.size w
  by_cases k0 : kind = 0
  · subst k0
    clear h4
    go_enter Try.func20, Try.ntmps20
    go_wp2
    go_returns
    exact ⟨ret_bool H4.out, by repeat (first | exact hB | apply Below.drew)⟩
  by_cases k1 : kind = 1
  · subst k1
    unfold M.ragain
    rw [← h4, ← H64.out]
    cases hm : (bits .and .u8 f 4 != 0)
    all_goals
      clear h4
      go_enter Try.func20, Try.ntmps20
      go_wp2
      go_returns
      exact ⟨ret_bool rfl, by repeat (first | exact hB | apply Below.drew)⟩
  by_cases k2 : kind = 2
  · subst k2
    clear h4
    go_enter Try.func20, Try.ntmps20
    go_wp2
    go_returns
    exact ⟨ret_bool (by rw [H64.out]; rfl), by repeat (first | exact hB | apply Below.drew)⟩
  by_cases k3 : kind = 3
  · subst k3
    clear h4
    go_enter Try.func20, Try.ntmps20
    go_wp2
    go_returns
    exact ⟨ret_bool (by rw [H64.out]; rfl), by repeat (first | exact hB | apply Below.drew)⟩
  · have e0 : (kind == 0) = false := by simpa using k0
    have e1 : (kind == 1) = false := by simpa using k1
    have e2 : (kind == 2) = false := by simpa using k2
    have e3 : (kind == 3) = false := by simpa using k3
    have hF : Hid (M.ragain kind f = false) := by unfold M.ragain; show (if kind = 0 then _ else _) = false; rw [if_neg k0, if_neg k1, if_neg k2, if_neg k3]
    clear h4 k0 k1 k2 k3
    go_enter Try.func20, Try.ntmps20
    go_wp2
    go_returns
    exact ⟨ret_bool hF.out.symm, by repeat (first | exact hB | apply Below.drew)⟩
end Go.Proofs.Ytkphidaoodedjaa
