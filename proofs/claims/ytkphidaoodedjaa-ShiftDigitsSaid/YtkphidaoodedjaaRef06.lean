/- The reference's shifts (charabancref06), each by its contract: nothing that lay before is turned. -/
import Derived.Test.YtkphidaoodedjaaRef02Even
import Derived.Test.YtkphidaoodedjaaRef03
namespace Go.Proofs.Ytkphidaoodedjaa
open Go.RowKit
set_option linter.unusedVariables false

theorem ret_ib {k : IntKind} {a b : Int} {c d : Bool} (h : a = b) (g : c = d) : Ending.returned (.tuple #[.int k a, .bool c]) = .returned (.tuple #[.int k b, .bool d]) := by rw [h, g]
set_option maxHeartbeats 1000000 in
theorem refmoved_any (b : Int) (left inn : Bool) (h0 : 0 ≤ b) (h1 : b ≤ 255) (w : World) : Calls Try.prog 68 #[.int .u8 b, .bool left, .bool inn] w fun e w' => e = .returned (.tuple #[.int .u8 (M.rmovedR b left inn), .bool (M.rmovedO b left)]) ∧ w = w' := by
  have hfin := refwith_any (M.mfold b left 8) (if left then 0 else 7) inn (M.mfold_range b left 8).1 (M.mfold_range b left 8).2
  have hout := refis_any b (if left then 7 else 0) h0 h1
  cases left
  all_goals
    simp only [Bool.false_eq_true, if_false, if_true] at hfin hout
    have Hfin := Lib.hid hfin
    have Hout := Lib.hid hout
    clear hfin hout
    go_enter Try.func68, Try.ntmps68
    go_wp2
  · go_loop [8, 9] (fun r n => ∃ k : Nat, k ≤ 8 ∧ n = .int .i64 k ∧ r = .int .u8 (M.mfold b false k)) (fun _ n => 8 - (intOf n).toNat)
    case atStart => exact ⟨0, Nat.zero_le _, rfl, rfl⟩
    case round =>
      obtain ⟨k, hk, rfl, rfl⟩ := hrel
      by_cases hlt : k < 8
      · have hi := refis_any b (k : Int) h0 h1
        have hw := refwith_any (M.mfold b false k) ((k : Int) - 1) (M.is b k) (M.mfold_range b false k).1 (M.mfold_range b false k).2
        have Hi := Lib.hid hi
        have Hw := Lib.hid hw
        clear hi hw
        go_wp2_with (first | (go_at_call 34; refine (Hi.out _).mono ?_; rintro e w' ⟨rfl, rfl⟩) | (go_at_call 43; refine (Hw.out _).mono ?_; rintro e w' ⟨rfl, rfl⟩))
        go_round
        case rel => exact ⟨k + 1, by omega, by simp, rfl⟩
        case measure => simp [intOf]; omega
      · obtain rfl : k = 8 := by omega
        go_wp2_with (first | (go_at_call 34; refine (Hout.out _).mono ?_; rintro e w' ⟨rfl, rfl⟩) | (go_at_call 43; refine (Hfin.out _).mono ?_; rintro e w' ⟨rfl, rfl⟩))
        go_ret2
        exact ⟨ret_ib rfl rfl, rfl⟩
  · go_loop [8, 9] (fun r n => ∃ k : Nat, k ≤ 8 ∧ n = .int .i64 k ∧ r = .int .u8 (M.mfold b true k)) (fun _ n => 8 - (intOf n).toNat)
    case atStart => exact ⟨0, Nat.zero_le _, rfl, rfl⟩
    case round =>
      obtain ⟨k, hk, rfl, rfl⟩ := hrel
      by_cases hlt : k < 8
      · have hi := refis_any b (k : Int) h0 h1
        have hw := refwith_any (M.mfold b true k) ((k : Int) + 1) (M.is b k) (M.mfold_range b true k).1 (M.mfold_range b true k).2
        have Hi := Lib.hid hi
        have Hw := Lib.hid hw
        clear hi hw
        go_wp2_with (first | (go_at_call 34; refine (Hi.out _).mono ?_; rintro e w' ⟨rfl, rfl⟩) | (go_at_call 43; refine (Hw.out _).mono ?_; rintro e w' ⟨rfl, rfl⟩))
        go_round
        case rel => exact ⟨k + 1, by omega, by simp, rfl⟩
        case measure => simp [intOf]; omega
      · obtain rfl : k = 8 := by omega
        go_wp2_with (first | (go_at_call 34; refine (Hout.out _).mono ?_; rintro e w' ⟨rfl, rfl⟩) | (go_at_call 43; refine (Hfin.out _).mono ?_; rintro e w' ⟨rfl, rfl⟩))
        go_ret2
        exact ⟨ret_ib rfl rfl, rfl⟩
set_option maxHeartbeats 2000000 in
theorem refbit_any (n b l f : Int) (h0 : 0 ≤ b) (h1 : b ≤ 255) (h2 : 0 ≤ l) (h3 : l ≤ 255) (h4 : 0 ≤ f) (h5 : f ≤ 255) (w : World) : Calls Try.prog 30 #[.int .i64 n, .int .u8 b, .int .u8 l, .int .u8 f] w fun e w' => e = .returned (.int .u8 (M.rbitF n b l f)) ∧ Below w.heap.size w w' := by
  have hi := refis_any b n h0 h1
  obtain ⟨v, hv⟩ : ∃ v, v = M.is b n := ⟨_, rfl⟩
  rw [← hv] at hi
  have hF : M.rbitF n b l f = M.mk ((n == 7) && v) (!v) (M.is l 5) true (M.is l 3) (!v) false (M.is f 0) := by unfold M.rbitF; rw [← hv]
  have Hi := Lib.hid hi
  have HF := Lib.hid hF
  clear hi hv hF
  by_cases h7 : n = 7
  · have e7 : (n == 7) = true := by simpa using h7
    have HF2 : Hid (M.rbitF n b l f = M.mk v (!v) (M.is l 5) true (M.is l 3) (!v) false (M.is f 0)) := by have := HF.out; rw [e7, Bool.true_and] at this; exact this
    clear h7 HF
    go_enter Try.func30, Try.ntmps30
    go_wp2_with fail
    refine (Hi.out _).mono ?_
    rintro e w1 ⟨rfl, rfl⟩
    go_wp2_with fail
    refine (refof_any f h4 h5 _).mono ?_
    rintro e w1 ⟨rfl, hb1⟩
    have z1 := hb1.size
    go_wp2_with fail
    refine (refis_any l 5 h2 h3 _).mono ?_
    rintro e w2 ⟨rfl, rfl⟩
    go_wp2_with fail
    refine (refis_any l 3 h2 h3 _).mono ?_
    rintro e w2 ⟨rfl, rfl⟩
    go_wp2_with fail
    refine (refmake_any _ _ _ _ _ _ _ _ _).mono ?_
    rintro e w2 ⟨rfl, hb2⟩
    replace hb2 := bstep (w := w) (by go_grown) hb2
    go_wp2_with fail
    go_ret
    exact ⟨ret_int HF2.out.symm, hb2⟩
  · have e7 : (n == 7) = false := by simpa using h7
    have HF2 : Hid (M.rbitF n b l f = M.mk false (!v) (M.is l 5) true (M.is l 3) (!v) false (M.is f 0)) := by have := HF.out; rw [e7, Bool.false_and] at this; exact this
    clear h7 HF
    go_enter Try.func30, Try.ntmps30
    go_wp2_with fail
    refine (Hi.out _).mono ?_
    rintro e w1 ⟨rfl, rfl⟩
    go_wp2_with fail
    refine (refof_any f h4 h5 _).mono ?_
    rintro e w1 ⟨rfl, hb1⟩
    have z1 := hb1.size
    go_wp2_with fail
    refine (refis_any l 5 h2 h3 _).mono ?_
    rintro e w2 ⟨rfl, rfl⟩
    go_wp2_with fail
    refine (refis_any l 3 h2 h3 _).mono ?_
    rintro e w2 ⟨rfl, rfl⟩
    go_wp2_with fail
    refine (refmake_any _ _ _ _ _ _ _ _ _).mono ?_
    rintro e w2 ⟨rfl, hb2⟩
    replace hb2 := bstep (w := w) (by go_grown) hb2
    go_wp2_with fail
    go_ret
    exact ⟨ret_int HF2.out.symm, hb2⟩
end Go.Proofs.Ytkphidaoodedjaa
