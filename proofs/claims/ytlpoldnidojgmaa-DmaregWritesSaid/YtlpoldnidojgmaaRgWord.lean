/- Words and their bytes (bits, charabancref01), the times and steps of a byte, each by its contract. -/
import Derived.Laws.BitsAllLaws
import Derived.Test.YtlpoldnidojgmaaRgM
import Derived.Test.YtlpoldnidojgmaaBits
import Derived.Test.YtlpoldnidojgmaaRef01
namespace Go.Proofs.Ytlpoldnidojgmaa
open Go.RowKit
set_option linter.unusedVariables false
set_option linter.unusedSimpArgs false
theorem M.word_or (h l : Int) (h0 : 0 ≤ h) (h1 : h ≤ 255) (l0 : 0 ≤ l) (l1 : l ≤ 255) : bits .or .u16 (h * 256) l = h * 256 + l := by
  rw [u16_or (h * 256) l (by omega) (by omega) l0 (by omega), nat_join 8 _ _ (by omega) (by omega)]
  omega
theorem M.and_fin : ∀ x : Fin 256, bits .and .u8 (x.val : Int) 3 = (x.val : Int) % 4 ∧ bits .and .u8 (x.val / 16 : Int) 3 = (x.val : Int) / 16 % 4 ∧ bits .and .u8 (x.val / 32 : Int) 3 = (x.val : Int) / 32 % 4 ∧ (bits .and .u8 (x.val : Int) 128 != 0) = decide (128 ≤ (x.val : Int)) ∧ bits .and .u8 (x.val : Int) 127 = (x.val : Int) % 128 := by decide +kernel
theorem M.and3 (b : Int) (h0 : 0 ≤ b) (h1 : b ≤ 255) : bits .and .u8 b 3 = b % 4 := by
  obtain ⟨x, rfl⟩ := M.fin_of h0 h1; exact (M.and_fin x).1
theorem M.and3s (b : Int) (h0 : 0 ≤ b) (h1 : b ≤ 255) : bits .and .u8 (b / 16) 3 = b / 16 % 4 := by
  obtain ⟨x, rfl⟩ := M.fin_of h0 h1; exact (M.and_fin x).2.1
theorem M.and3m (b : Int) (h0 : 0 ≤ b) (h1 : b ≤ 255) : bits .and .u8 (b / 32) 3 = b / 32 % 4 := by
  obtain ⟨x, rfl⟩ := M.fin_of h0 h1; exact (M.and_fin x).2.2.1
theorem M.and128d (b : Int) (h0 : 0 ≤ b) (h1 : b ≤ 255) : (bits .and .u8 b 128 != 0) = decide (128 ≤ b) := by
  obtain ⟨x, rfl⟩ := M.fin_of h0 h1; exact (M.and_fin x).2.2.2.1
theorem M.and127 (b : Int) (h0 : 0 ≤ b) (h1 : b ≤ 255) : bits .and .u8 b 127 = b % 128 := by
  obtain ⟨x, rfl⟩ := M.fin_of h0 h1; exact (M.and_fin x).2.2.2.2
theorem hi_any (x : Int) (h0 : 0 ≤ x) (h1 : x ≤ 65535) (w : World) : Calls Try.prog 63 #[.int .u16 x] w fun e w' => e = .returned (.int .u8 (x / 256)) ∧ w = w' := by
  go_enter Try.func63, Try.ntmps63
  go_wp2
  go_ret
  exact ⟨ret_int (by (try rw [IntKind.wrap_u8']) <;> omega), rfl⟩
theorem lo_any (x : Int) (h0 : 0 ≤ x) (h1 : x ≤ 65535) (w : World) : Calls Try.prog 62 #[.int .u16 x] w fun e w' => e = .returned (.int .u8 (x % 256)) ∧ w = w' := by
  go_enter Try.func62, Try.ntmps62
  go_wp2
  go_ret
  exact ⟨ret_int (by (try rw [IntKind.wrap_u8']) <;> omega), rfl⟩
theorem word_any (h l : Int) (h0 : 0 ≤ h) (h1 : h ≤ 255) (l0 : 0 ≤ l) (l1 : l ≤ 255) (w : World) : Calls Try.prog 69 #[.int .u8 h, .int .u8 l] w fun e w' => e = .returned (.int .u16 (h * 256 + l)) ∧ w = w' := by
  have H := Lib.hid (M.word_or h l h0 h1 l0 l1)
  go_enter Try.func69, Try.ntmps69
  go_wp2
  go_ret
  exact ⟨ret_int H.out, rfl⟩
theorem rhi_any (x : Int) (h0 : 0 ≤ x) (h1 : x ≤ 65535) (w : World) : Calls Try.prog 88 #[.int .u16 x] w fun e w' => e = .returned (.int .u8 (x / 256)) ∧ w = w' := by
  go_enter Try.func88, Try.ntmps88
  go_wp2
  go_ret
  exact ⟨ret_int (by (try rw [IntKind.wrap_u8']) <;> omega), rfl⟩
theorem rlo_any (x : Int) (h0 : 0 ≤ x) (h1 : x ≤ 65535) (w : World) : Calls Try.prog 89 #[.int .u16 x] w fun e w' => e = .returned (.int .u8 (x % 256)) ∧ w = w' := by
  go_enter Try.func89, Try.ntmps89
  go_wp2
  go_ret
  exact ⟨ret_int (by (try rw [IntKind.wrap_u8']) <;> omega), rfl⟩
theorem rword_any (h l : Int) (h0 : 0 ≤ h) (h1 : h ≤ 255) (l0 : 0 ≤ l) (l1 : l ≤ 255) (w : World) : Calls Try.prog 87 #[.int .u8 h, .int .u8 l] w fun e w' => e = .returned (.int .u16 (h * 256 + l)) ∧ w = w' := by
  go_enter Try.func87, Try.ntmps87
  go_wp2
  go_ret
  exact ⟨ret_int (by (try rw [IntKind.wrap_u16]) <;> omega), rfl⟩
theorem timed_any (b : Int) (h0 : 0 ≤ b) (h1 : b ≤ 255) (w : World) : Calls Try.prog 75 #[.int .u8 b] w fun e w' => e = .returned (.int .i64 (M.rTime b)) ∧ w = w' := by
  have e := M.and3 b h0 h1
  rcases (show b % 4 = 0 ∨ b % 4 = 1 ∨ b % 4 = 2 ∨ b % 4 = 3 by omega) with k | k | k | k
  all_goals
    rw [k] at e
    go_enter Try.func75, Try.ntmps75
    go_wp2
    go_ret
    exact ⟨ret_int (by first | (unfold M.rTime; rw [k]; rfl) | (unfold M.rStep; rw [k]; rfl)), rfl⟩
theorem stepped_any (b : Int) (h0 : 0 ≤ b) (h1 : b ≤ 255) (w : World) : Calls Try.prog 80 #[.int .u8 b] w fun e w' => e = .returned (.int .i64 (M.rStep b)) ∧ w = w' := by
  have e := M.and3s b h0 h1
  rcases (show b / 16 % 4 = 0 ∨ b / 16 % 4 = 1 ∨ b / 16 % 4 = 2 ∨ b / 16 % 4 = 3 by omega) with k | k | k | k
  all_goals
    rw [k] at e
    go_enter Try.func80, Try.ntmps80
    go_wp2
    go_ret
    exact ⟨ret_int (by first | (unfold M.rTime; rw [k]; rfl) | (unfold M.rStep; rw [k]; rfl)), rfl⟩
theorem rtime_any (b : Int) (h0 : 0 ≤ b) (h1 : b ≤ 255) (w : World) : Calls Try.prog 84 #[.int .u8 b] w fun e w' => e = .returned (.int .i64 (M.rTime b)) ∧ Below w.heap.size w w' := by
  unfold M.rTime
  rcases (show b % 4 = 0 ∨ b % 4 = 1 ∨ b % 4 = 2 ∨ b % 4 = 3 by omega) with k | k | k | k
  all_goals
    go_enter Try.func84, Try.ntmps84
    go_wp2
    go_ret
    exact ⟨ret_int (by simp [k]), by go_grown⟩
theorem rstep_any (b : Int) (h0 : 0 ≤ b) (h1 : b ≤ 255) (w : World) : Calls Try.prog 85 #[.int .u8 b] w fun e w' => e = .returned (.int .i64 (M.rStep b)) ∧ Below w.heap.size w w' := by
  unfold M.rStep
  rcases (show b / 16 % 4 = 0 ∨ b / 16 % 4 = 1 ∨ b / 16 % 4 = 2 ∨ b / 16 % 4 = 3 by omega) with k | k | k | k
  all_goals
    go_enter Try.func85, Try.ntmps85
    go_wp2
    go_ret
    exact ⟨ret_int (by simp [k]), by go_grown⟩
end Go.Proofs.Ytlpoldnidojgmaa
