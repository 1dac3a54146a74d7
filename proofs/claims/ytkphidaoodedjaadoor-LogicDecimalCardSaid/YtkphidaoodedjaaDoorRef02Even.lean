/- The reference's count of bits (charabancref01.Count, Even) and flags with P (charabancref02.Even), each by its contract: nothing that lay before is turned. -/
import Derived.Test.YtkphidaoodedjaaDoorRef02
import Derived.Test.YtkphidaoodedjaaDoorMath6
namespace Go.Proofs.YtkphidaoodedjaaDoor
open Go.RowKit
set_option linter.unusedVariables false

theorem is_nat (b : Int) (k : Nat) (hk : k < 8) : M.is b (k : Int) = M.bit b k := M.is_bit b k hk
set_option maxHeartbeats 1000000 in
theorem refcount_any (b : Int) (h0 : 0 ≤ b) (h1 : b ≤ 255) (w : World) : Calls Tryd.prog 45 #[.int .u8 b] w fun e w' => e = .returned (.int .i64 ((M.upto b 8).length : Int)) ∧ w = w' := by
  go_enter Tryd.func45, Tryd.ntmps45
  go_wp2
  go_loop [3, 4] (fun n i => ∃ k : Nat, k ≤ 8 ∧ i = .int .i64 k ∧ n = .int .i64 ((M.upto b k).length : Int)) (fun _ i => 8 - (intOf i).toNat)
  case atStart => exact ⟨0, Nat.zero_le _, rfl, rfl⟩
  case round =>
    obtain ⟨k, hk, rfl, rfl⟩ := hrel
    have hl := M.upto_len b k
    by_cases hlt : k < 8
    · have hc := fun W => refis_any b (k : Int) h0 h1 W
      rw [is_nat b k hlt] at hc
      cases hb : M.bit b k with
      | true =>
        have hs : (M.upto b (k + 1)).length = (M.upto b k).length + 1 := by rw [M.upto_yes hb]; simp
        rw [hb] at hc
        have Hc := Lib.hid hc
        have Hs := Lib.hid hs
        clear hc hs hb
        obtain ⟨m, hm⟩ : ∃ m, m = (M.upto b k).length := ⟨_, rfl⟩
        rw [← hm] at hl ⊢
        have Hm := Lib.hid hm
        clear hm
        go_wp2_with (go_at_call 36; refine (Hc.out _).mono ?_; rintro e w' ⟨rfl, rfl⟩)
        go_round
        case rel => exact ⟨k + 1, by omega, by simp, by rw [Hs.out, ← Hm.out]; simp⟩
        case measure => simp [intOf]; omega
      | false =>
        have hs : (M.upto b (k + 1)).length = (M.upto b k).length := by rw [M.upto_no hb]
        rw [hb] at hc
        have Hc := Lib.hid hc
        have Hs := Lib.hid hs
        clear hc hs hb
        obtain ⟨m, hm⟩ : ∃ m, m = (M.upto b k).length := ⟨_, rfl⟩
        rw [← hm] at hl ⊢
        have Hm := Lib.hid hm
        clear hm
        go_wp2_with (go_at_call 36; refine (Hc.out _).mono ?_; rintro e w' ⟨rfl, rfl⟩)
        go_round
        case rel => exact ⟨k + 1, by omega, by simp, by rw [Hs.out, ← Hm.out]⟩
        case measure => simp [intOf]; omega
    · obtain rfl : k = 8 := by omega
      go_wp2
      go_ret
      exact ⟨rfl, rfl⟩
theorem refeven_any (b : Int) (h0 : 0 ≤ b) (h1 : b ≤ 255) (w : World) : Calls Tryd.prog 42 #[.int .u8 b] w fun e w' => e = .returned (.bool (M.evenB b)) ∧ w = w' := by
  have hl := M.upto_len b 8
  have hc := fun W => refcount_any b h0 h1 W
  obtain ⟨m, hm⟩ : ∃ m, m = (M.upto b 8).length := ⟨_, rfl⟩
  rw [← hm] at hl
  simp only [← hm] at hc
  have Hc := Lib.hid hc
  have Hm := Lib.hid hm
  clear hc hm
  go_enter Tryd.func42, Tryd.ntmps42
  go_wp2_with fail
  refine (Hc.out _).mono ?_
  rintro e w' ⟨rfl, rfl⟩
  go_wp2_with fail
  go_ret
  exact ⟨ret_bool (by unfold M.evenB; rw [← Hm.out, Bool.eq_iff_iff]; simp; omega), rfl⟩
set_option maxHeartbeats 2000000 in
theorem refeven02_any (r : Int) (h0 : 0 ≤ r) (h1 : r ≤ 255) (w : World) : Calls Tryd.prog 28 #[.int .u8 r] w fun e w' => e = .returned (.int .u8 (M.evenF r)) ∧ Below w.heap.size w w' := by
  go_enter Tryd.func28, Tryd.ntmps28
  go_wp2_with fail
  refine (refof_any r h0 h1 _).mono ?_
  rintro e w1 ⟨rfl, hb1⟩
  have z1 := hb1.size
  go_wp2_with fail
  refine (refeven_any r h0 h1 _).mono ?_
  rintro e w2 ⟨rfl, rfl⟩
  go_wp2_with fail
  refine (refmake_any _ _ _ _ _ _ _ _ _).mono ?_
  rintro e w2 ⟨rfl, hb2⟩
  replace hb2 := bstep (w := w) (by go_grown) hb2
  go_wp2_with fail
  go_ret
  exact ⟨rfl, hb2⟩
end Go.Proofs.YtkphidaoodedjaaDoor
