/- The reference's turned bytes (charabancref06.turned, Acc), each by its contract: nothing that lay before is turned. -/
import Derived.Test.YtkphidaoodedjaaRef06
namespace Go.Proofs.Ytkphidaoodedjaa
open Go.RowKit
set_option linter.unusedVariables false

theorem ret_ibb {k : IntKind} {a b : Int} {c d c' d' : Bool} (h : a = b) (g : c = d) (g' : c' = d') : Ending.returned (.tuple #[.int k a, .bool c, .bool c']) = .returned (.tuple #[.int k b, .bool d, .bool d']) := by rw [h, g, g']
theorem refturned0 (b f : Int) (h0 : 0 ≤ b) (h1 : b ≤ 255) (h2 : 0 ≤ f) (h3 : f ≤ 255) (w : World) : Calls Try.prog 42 #[.int .i64 0, .int .u8 b, .int .u8 f] w fun e w' => e = .returned (.tuple #[.int .u8 (M.rmovedR b true (M.is b 7)), .bool (M.rmovedO b true), .bool true]) ∧ w = w' := by
  go_enter Try.func42, Try.ntmps42
  go_wp2_with fail
  refine (refis_any b 7 h0 h1 _).mono ?_
  rintro e w1 ⟨rfl, rfl⟩
  go_wp2_with fail
  refine (refmoved_any b true _ h0 h1 _).mono ?_
  rintro e w1 ⟨rfl, rfl⟩
  go_wp2_with fail
  go_ret3
  exact ⟨rfl, rfl⟩
theorem refturned1 (b f : Int) (h0 : 0 ≤ b) (h1 : b ≤ 255) (h2 : 0 ≤ f) (h3 : f ≤ 255) (w : World) : Calls Try.prog 42 #[.int .i64 1, .int .u8 b, .int .u8 f] w fun e w' => e = .returned (.tuple #[.int .u8 (M.rmovedR b false (M.is b 0)), .bool (M.rmovedO b false), .bool true]) ∧ w = w' := by
  go_enter Try.func42, Try.ntmps42
  go_wp2_with fail
  refine (refis_any b 0 h0 h1 _).mono ?_
  rintro e w1 ⟨rfl, rfl⟩
  go_wp2_with fail
  refine (refmoved_any b false _ h0 h1 _).mono ?_
  rintro e w1 ⟨rfl, rfl⟩
  go_wp2_with fail
  go_ret3
  exact ⟨rfl, rfl⟩
theorem refturned2 (b f : Int) (h0 : 0 ≤ b) (h1 : b ≤ 255) (h2 : 0 ≤ f) (h3 : f ≤ 255) (w : World) : Calls Try.prog 42 #[.int .i64 2, .int .u8 b, .int .u8 f] w fun e w' => e = .returned (.tuple #[.int .u8 (M.rmovedR b true (M.is f 0)), .bool (M.rmovedO b true), .bool true]) ∧ w = w' := by
  go_enter Try.func42, Try.ntmps42
  go_wp2_with fail
  refine (refis_any f 0 h2 h3 _).mono ?_
  rintro e w1 ⟨rfl, rfl⟩
  go_wp2_with fail
  refine (refmoved_any b true _ h0 h1 _).mono ?_
  rintro e w1 ⟨rfl, rfl⟩
  go_wp2_with fail
  go_ret3
  exact ⟨rfl, rfl⟩
theorem refturned3 (b f : Int) (h0 : 0 ≤ b) (h1 : b ≤ 255) (h2 : 0 ≤ f) (h3 : f ≤ 255) (w : World) : Calls Try.prog 42 #[.int .i64 3, .int .u8 b, .int .u8 f] w fun e w' => e = .returned (.tuple #[.int .u8 (M.rmovedR b false (M.is f 0)), .bool (M.rmovedO b false), .bool true]) ∧ w = w' := by
  go_enter Try.func42, Try.ntmps42
  go_wp2_with fail
  refine (refis_any f 0 h2 h3 _).mono ?_
  rintro e w1 ⟨rfl, rfl⟩
  go_wp2_with fail
  refine (refmoved_any b false _ h0 h1 _).mono ?_
  rintro e w1 ⟨rfl, rfl⟩
  go_wp2_with fail
  go_ret3
  exact ⟨rfl, rfl⟩
theorem refturned4 (b f : Int) (h0 : 0 ≤ b) (h1 : b ≤ 255) (h2 : 0 ≤ f) (h3 : f ≤ 255) (w : World) : Calls Try.prog 42 #[.int .i64 4, .int .u8 b, .int .u8 f] w fun e w' => e = .returned (.tuple #[.int .u8 (M.rmovedR b true (false)), .bool (M.rmovedO b true), .bool true]) ∧ w = w' := by
  go_enter Try.func42, Try.ntmps42
  go_wp2_with fail
  refine (refmoved_any b true _ h0 h1 _).mono ?_
  rintro e w1 ⟨rfl, rfl⟩
  go_wp2_with fail
  go_ret3
  exact ⟨rfl, rfl⟩
theorem refturned5 (b f : Int) (h0 : 0 ≤ b) (h1 : b ≤ 255) (h2 : 0 ≤ f) (h3 : f ≤ 255) (w : World) : Calls Try.prog 42 #[.int .i64 5, .int .u8 b, .int .u8 f] w fun e w' => e = .returned (.tuple #[.int .u8 (M.rmovedR b false (M.is b 7)), .bool (M.rmovedO b false), .bool true]) ∧ w = w' := by
  go_enter Try.func42, Try.ntmps42
  go_wp2_with fail
  refine (refis_any b 7 h0 h1 _).mono ?_
  rintro e w1 ⟨rfl, rfl⟩
  go_wp2_with fail
  refine (refmoved_any b false _ h0 h1 _).mono ?_
  rintro e w1 ⟨rfl, rfl⟩
  go_wp2_with fail
  go_ret3
  exact ⟨rfl, rfl⟩
theorem refturned6 (b f : Int) (h0 : 0 ≤ b) (h1 : b ≤ 255) (h2 : 0 ≤ f) (h3 : f ≤ 255) (w : World) : Calls Try.prog 42 #[.int .i64 6, .int .u8 b, .int .u8 f] w fun e w' => e = .returned (.tuple #[.int .u8 (M.rmovedR b true (true)), .bool (M.rmovedO b true), .bool true]) ∧ w = w' := by
  go_enter Try.func42, Try.ntmps42
  go_wp2_with fail
  refine (refmoved_any b true _ h0 h1 _).mono ?_
  rintro e w1 ⟨rfl, rfl⟩
  go_wp2_with fail
  go_ret3
  exact ⟨rfl, rfl⟩
theorem refturned7 (b f : Int) (h0 : 0 ≤ b) (h1 : b ≤ 255) (h2 : 0 ≤ f) (h3 : f ≤ 255) (w : World) : Calls Try.prog 42 #[.int .i64 7, .int .u8 b, .int .u8 f] w fun e w' => e = .returned (.tuple #[.int .u8 (M.rmovedR b false (false)), .bool (M.rmovedO b false), .bool true]) ∧ w = w' := by
  go_enter Try.func42, Try.ntmps42
  go_wp2_with fail
  refine (refmoved_any b false _ h0 h1 _).mono ?_
  rintro e w1 ⟨rfl, rfl⟩
  go_wp2_with fail
  go_ret3
  exact ⟨rfl, rfl⟩
theorem kind_out {kind : Int} (h : ¬ (0 ≤ kind ∧ kind ≤ 7)) : M.kindB kind = false := by
  unfold M.kindB
  simp
  omega
set_option maxHeartbeats 1000000 in
theorem refturned_out (kind b f : Int) (h : ¬ (0 ≤ kind ∧ kind ≤ 7)) (w : World) : Calls Try.prog 42 #[.int .i64 kind, .int .u8 b, .int .u8 f] w fun e w' => e = .returned (.tuple #[.int .u8 b, .bool false, .bool false]) ∧ w = w' := by
  have e0 : (kind == 0) = false := by rw [beq_eq_false_iff_ne]; omega
  have e1 : (kind == 1) = false := by rw [beq_eq_false_iff_ne]; omega
  have e2 : (kind == 2) = false := by rw [beq_eq_false_iff_ne]; omega
  have e3 : (kind == 3) = false := by rw [beq_eq_false_iff_ne]; omega
  have e4 : (kind == 4) = false := by rw [beq_eq_false_iff_ne]; omega
  have e5 : (kind == 5) = false := by rw [beq_eq_false_iff_ne]; omega
  have e6 : (kind == 6) = false := by rw [beq_eq_false_iff_ne]; omega
  have e7 : (kind == 7) = false := by rw [beq_eq_false_iff_ne]; omega
  clear h
  go_enter Try.func42, Try.ntmps42
  go_wp2_with fail
  all_goals go_ret3
  all_goals exact ⟨rfl, rfl⟩
theorem refturned_any (kind b f : Int) (h0 : 0 ≤ b) (h1 : b ≤ 255) (h2 : 0 ≤ f) (h3 : f ≤ 255) (w : World) : Calls Try.prog 42 #[.int .i64 kind, .int .u8 b, .int .u8 f] w fun e w' => e = .returned (.tuple #[.int .u8 (M.turnedR kind b f), .bool (M.turnedO kind b), .bool (M.kindB kind)]) ∧ w = w' := by
  by_cases h : 0 ≤ kind ∧ kind ≤ 7
  · have hk : kind = 0 ∨ kind = 1 ∨ kind = 2 ∨ kind = 3 ∨ kind = 4 ∨ kind = 5 ∨ kind = 6 ∨ kind = 7 := by omega
    rcases hk with rfl | rfl | rfl | rfl | rfl | rfl | rfl | rfl
    · exact refturned0 b f h0 h1 h2 h3 w
    · exact refturned1 b f h0 h1 h2 h3 w
    · exact refturned2 b f h0 h1 h2 h3 w
    · exact refturned3 b f h0 h1 h2 h3 w
    · exact refturned4 b f h0 h1 h2 h3 w
    · exact refturned5 b f h0 h1 h2 h3 w
    · exact refturned6 b f h0 h1 h2 h3 w
    · exact refturned7 b f h0 h1 h2 h3 w
  · have hk := kind_out h
    unfold M.turnedR M.turnedO
    rw [hk]
    exact refturned_out kind b f h w
set_option maxHeartbeats 2000000 in
theorem refacc_any (kind a f : Int) (h0 : 0 ≤ a) (h1 : a ≤ 255) (h2 : 0 ≤ f) (h3 : f ≤ 255) (w : World) : Calls Try.prog 26 #[.int .i64 kind, .int .u8 a, .int .u8 f] w fun e w' => e = .returned (.tuple #[.int .u8 (M.raccR kind a f), .int .u8 (M.raccF kind a f)]) ∧ Below w.heap.size w w' := by
  have hc := refturned_any kind a f h0 h1 h2 h3
  have hr := M.turnedR_range kind a f h0 h1
  unfold M.raccR M.raccF M.acc3
  cases hk : M.kindB kind with
  | false =>
    rw [hk] at hc
    simp only [Bool.false_and, Bool.false_eq_true, if_false]
    have Hc := Lib.hid hc
    clear hc hk hr
    go_enter Try.func26, Try.ntmps26
    go_wp2_with fail
    refine (Hc.out _).mono ?_
    rintro e w1 ⟨rfl, rfl⟩
    go_wp2_with fail
    go_ret2
    exact ⟨rfl, Below.refl _ _⟩
  | true =>
    rw [hk] at hc
    rw [Bool.true_and]
    by_cases h : kind ≤ 3
    · simp only [decide_eq_true h, if_true]
      obtain ⟨R, hR⟩ : ∃ R, R = M.turnedR kind a f := ⟨_, rfl⟩
      obtain ⟨O, hO⟩ : ∃ O, O = M.turnedO kind a := ⟨_, rfl⟩
      rw [← hR] at hr
      simp only [← hR, ← hO] at hc ⊢
      have Hc := Lib.hid hc
      clear hc hk hR hO
      go_enter Try.func26, Try.ntmps26
      go_wp2_with fail
      refine (Hc.out _).mono ?_
      rintro e w1 ⟨rfl, rfl⟩
      go_wp2_with fail
      refine (refof_any f h2 h3 _).mono ?_
      rintro e w1 ⟨rfl, hb1⟩
      have z1 := hb1.size
      go_wp2_with fail
      refine (refis_any R 5 hr.1 hr.2 _).mono ?_
      rintro e w2 ⟨rfl, rfl⟩
      go_wp2_with fail
      refine (refis_any R 3 hr.1 hr.2 _).mono ?_
      rintro e w2 ⟨rfl, rfl⟩
      go_wp2_with fail
      refine (refmake_any _ _ _ _ _ _ _ _ _).mono ?_
      rintro e w2 ⟨rfl, hb2⟩
      replace hb2 := bstep (w := w) (by go_grown) hb2
      go_wp2_with fail
      go_ret2
      exact ⟨rfl, hb2⟩
    · simp only [decide_eq_false h, Bool.false_eq_true, if_false]
      have Hc := Lib.hid hc
      clear hc hk hr
      go_enter Try.func26, Try.ntmps26
      go_wp2_with fail
      refine (Hc.out _).mono ?_
      rintro e w1 ⟨rfl, rfl⟩
      go_wp2_with fail
      go_ret2
      exact ⟨rfl, Below.refl _ _⟩
end Go.Proofs.Ytkphidaoodedjaa
