/- The reference's bits (charabancref01.Power, Is, With, Signed), each by its contract: the world is as it was. -/
import Derived.Test.YtlpoldnidojgmaaBits
import Derived.Test.YtlpoldnidojgmaaMath2
namespace Go.Proofs.Ytlpoldnidojgmaa
open Go.RowKit
set_option linter.unusedVariables false

theorem power_any (n : Int) (h0 : 0 ≤ n) (h1 : n ≤ 7) (w : World) : Calls Try.prog 60 #[.int .i64 n] w fun e w' => e = .returned (.int .i64 (2 ^ n.toNat)) ∧ w = w' := by
  have hn : n = 0 ∨ n = 1 ∨ n = 2 ∨ n = 3 ∨ n = 4 ∨ n = 5 ∨ n = 6 ∨ n = 7 := by omega
  rcases hn with rfl | rfl | rfl | rfl | rfl | rfl | rfl | rfl
  all_goals
    go_enter Try.func60, Try.ntmps60
    go_wp2
    go_rounds 9
    go_ret
    exact ⟨rfl, rfl⟩
theorem is_form (b : Int) (k : Nat) (hk : k < 8) : (b / 2 ^ k % 2 == 1) = M.is b k := by
  unfold M.is M.may
  rw [decide_eq_true (show (0 : Int) ≤ k by omega), decide_eq_true (show (k : Int) < 8 by omega)]
  rfl
set_option maxHeartbeats 1000000 in
theorem refis_any (b n : Int) (h0 : 0 ≤ b) (h1 : b ≤ 255) (w : World) : Calls Try.prog 49 #[.int .u8 b, .int .i64 n] w fun e w' => e = .returned (.bool (M.is b n)) ∧ w = w' := by
  by_cases hn : 0 ≤ n
  · by_cases h8 : n < 8
    · have hn : n = 0 ∨ n = 1 ∨ n = 2 ∨ n = 3 ∨ n = 4 ∨ n = 5 ∨ n = 6 ∨ n = 7 := by omega
      clear h8
      rcases hn with rfl | rfl | rfl | rfl | rfl | rfl | rfl | rfl
      all_goals
        go_enter Try.func49, Try.ntmps49
        go_wp2_with (go_at_call 60; refine (power_any _ (by omega) (by omega) _).mono ?_; rintro e w' ⟨rfl, rfl⟩)
        go_ret
      · exact ⟨ret_bool (by have := is_form b 0 (by omega); simpa using this), rfl⟩
      · exact ⟨ret_bool (is_form b 1 (by omega)), rfl⟩
      · exact ⟨ret_bool (is_form b 2 (by omega)), rfl⟩
      · exact ⟨ret_bool (is_form b 3 (by omega)), rfl⟩
      · exact ⟨ret_bool (is_form b 4 (by omega)), rfl⟩
      · exact ⟨ret_bool (is_form b 5 (by omega)), rfl⟩
      · exact ⟨ret_bool (is_form b 6 (by omega)), rfl⟩
      · exact ⟨ret_bool (is_form b 7 (by omega)), rfl⟩
    · have ho := Lib.hid (M.is_out (a := b) (n := n) (by omega))
      go_enter Try.func49, Try.ntmps49
      go_wp2
      go_ret
      exact ⟨ret_bool ho.out.symm, rfl⟩
  · have ho := Lib.hid (M.is_out (a := b) (n := n) (by omega))
    go_enter Try.func49, Try.ntmps49
    go_wp2
    go_ret
    exact ⟨ret_bool ho.out.symm, rfl⟩
set_option maxHeartbeats 2000000 in
theorem refwith_any (b n : Int) (on : Bool) (h0 : 0 ≤ b) (h1 : b ≤ 255) (w : World) : Calls Try.prog 48 #[.int .u8 b, .int .i64 n, .bool on] w fun e w' => e = .returned (.int .u8 (M.withB b n on)) ∧ w = w' := by
  by_cases hn : 0 ≤ n
  · by_cases h8 : n ≤ 7
    · have hC := fun W => refis_any b n h0 h1 W
      cases hb : M.is b n with
      | true =>
        obtain ⟨e1, e2, e3⟩ := M.with_yes b n h0 h1 hn h8 hb
        simp only [hb] at hC
        have HC := Lib.hid hC
        have E1 := Lib.hid e1
        have E2 := Lib.hid e2
        have hp := power_any n hn h8
        obtain ⟨q, hq⟩ : ∃ q : Int, q = 2 ^ n.toNat := ⟨_, rfl⟩
        rw [← hq] at e3
        simp only [← hq] at hp
        have Hp := Lib.hid hp
        have Hq := Lib.hid hq
        have hq0 : 0 ≤ q := by rw [hq]; exact Int.pow_nonneg (by decide)
        clear hb hC e1 e2 hp hq
        cases on
        all_goals
          go_enter Try.func48, Try.ntmps48
          go_wp2_with (first | (go_at_call 49; refine (HC.out _).mono ?_; rintro e w' ⟨rfl, rfl⟩) | (go_at_call 60; refine (Hp.out _).mono ?_; rintro e w' ⟨rfl, rfl⟩))
          go_ret
        · exact ⟨ret_int (by rw [E2.out, ← Hq.out]), rfl⟩
        · exact ⟨ret_int (by rw [E1.out]), rfl⟩
      | false =>
        obtain ⟨e1, e2, e3⟩ := M.with_no b n h0 h1 hn h8 hb
        simp only [hb] at hC
        have HC := Lib.hid hC
        have E1 := Lib.hid e1
        have E2 := Lib.hid e2
        have hp := power_any n hn h8
        obtain ⟨q, hq⟩ : ∃ q : Int, q = 2 ^ n.toNat := ⟨_, rfl⟩
        rw [← hq] at e3
        simp only [← hq] at hp
        have Hp := Lib.hid hp
        have Hq := Lib.hid hq
        have hq0 : 0 ≤ q := by rw [hq]; exact Int.pow_nonneg (by decide)
        clear hb hC e1 e2 hp hq
        cases on
        all_goals
          go_enter Try.func48, Try.ntmps48
          go_wp2_with (first | (go_at_call 49; refine (HC.out _).mono ?_; rintro e w' ⟨rfl, rfl⟩) | (go_at_call 60; refine (Hp.out _).mono ?_; rintro e w' ⟨rfl, rfl⟩))
          go_ret
        · exact ⟨ret_int (by rw [E2.out]), rfl⟩
        · exact ⟨ret_int (by rw [E1.out, ← Hq.out]), rfl⟩
    · have ho := Lib.hid (M.with_out (a := b) (n := n) (by omega) on)
      go_enter Try.func48, Try.ntmps48
      go_wp2
      go_ret
      exact ⟨ret_int ho.out.symm, rfl⟩
  · have ho := Lib.hid (M.with_out (a := b) (n := n) (by omega) on)
    go_enter Try.func48, Try.ntmps48
    go_wp2
    go_ret
    exact ⟨ret_int ho.out.symm, rfl⟩
end Go.Proofs.Ytlpoldnidojgmaa
