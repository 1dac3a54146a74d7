/- The small functions on bytes, each by its contract. -/
import Derived.Handy
import Derived.Lib.Hide
import Derived.Test.YtmoafjgogbcoeaaProg
import Derived.Test.YtmoafjgogbcoeaaMath
namespace Go.Proofs.Ytmoafjgogbcoeaa
open Go.RowKit
set_option linter.unusedVariables false

theorem ret_bool {a b : Bool} (h : a = b) : Ending.returned (.bool a) = .returned (.bool b) := by rw [h]
theorem ret_int {k : IntKind} {a b : Int} (h : a = b) : Ending.returned (.int k a) = .returned (.int k b) := by rw [h]

theorem is_any (b n : Int) (h0 : 0 ≤ b) (h1 : b ≤ 255) (w : World) : Calls Try.prog 63 #[.int .u8 b, .int .i64 n] w fun e w' => e = .returned (.bool (M.is b n)) ∧ w = w' := by
  by_cases hn : 0 ≤ n
  · by_cases h8 : n < 8
    · have hs := M.shr_bit b n.toNat h0 h1
      have hm : M.may n = true := by simp [M.may, hn, h8]
      have H := Lib.hid hs
      have Hm := Lib.hid hm
      clear hs hm
      go_enter Try.func63, Try.ntmps63
      go_wp2
      go_ret
      exact ⟨ret_bool (by rw [M.is, Hm.out, Bool.true_and]; exact H.out), rfl⟩
    · go_enter Try.func63, Try.ntmps63
      go_wp2
      go_ret
      exact ⟨ret_bool (by simp [M.is, M.may]; omega), rfl⟩
  · go_enter Try.func63, Try.ntmps63
    go_wp2
    go_ret
    exact ⟨ret_bool (by simp [M.is, M.may]; omega), rfl⟩
end Go.Proofs.Ytmoafjgogbcoeaa
