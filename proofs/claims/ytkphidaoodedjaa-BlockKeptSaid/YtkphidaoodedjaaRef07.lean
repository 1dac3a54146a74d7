/- The reference's flags of blocks (charabancref07), each by its contract: nothing that lay before is turned. -/
import Derived.Test.YtkphidaoodedjaaRef02Even
import Derived.Test.YtkphidaoodedjaaRef03
namespace Go.Proofs.Ytkphidaoodedjaa
open Go.RowKit
set_option linter.unusedVariables false

set_option maxHeartbeats 2000000 in
theorem refmove_any (a b bc f : Int) (h0 : 0 ≤ a) (h1 : a ≤ 255) (h2 : 0 ≤ b) (h3 : b ≤ 255) (h4 : 0 ≤ bc) (h5 : bc ≤ 65535) (h6 : 0 ≤ f) (h7 : f ≤ 255) (w : World) : Calls Try.prog 13 #[.int .u8 a, .int .u8 b, .int .u16 bc, .int .u8 f] w fun e w' => e = .returned (.int .u8 (M.rmoveF a b bc f)) ∧ Below w.heap.size w w' := by
  go_enter Try.func13, Try.ntmps13
  go_wp2_with fail
  refine (refof_any f h6 h7 _).mono ?_
  rintro e w1 ⟨rfl, hb1⟩
  have z1 := hb1.size
  go_wp2_with fail
  refine (refis_any _ 1 (by omega) (by omega) _).mono ?_
  rintro e w2 ⟨rfl, rfl⟩
  go_wp2_with fail
  refine (refis_any _ 3 (by omega) (by omega) _).mono ?_
  rintro e w2 ⟨rfl, rfl⟩
  go_wp2_with fail
  refine (refmake_any _ _ _ _ _ _ _ _ _).mono ?_
  rintro e w2 ⟨rfl, hb2⟩
  replace hb2 := bstep (w := w) (by go_grown) hb2
  go_wp2_with fail
  go_ret
  exact ⟨rfl, hb2⟩
set_option maxHeartbeats 4000000 in
theorem reffind_any (a b bc f : Int) (h0 : 0 ≤ a) (h1 : a ≤ 255) (h2 : 0 ≤ b) (h3 : b ≤ 255) (h4 : 0 ≤ bc) (h5 : bc ≤ 65535) (h6 : 0 ≤ f) (h7 : f ≤ 255) (w : World) : Calls Try.prog 15 #[.int .u8 a, .int .u8 b, .int .u16 bc, .int .u8 f] w fun e w' => e = .returned (.int .u8 (M.rfindF a b bc f)) ∧ Below w.heap.size w w' := by
  have hs := refsub_any a b false h0 h1 h2 h3
  have hr := M.subR_range a b false
  have hg := M.subF_range a b false
  unfold M.rfindF M.rfindN
  obtain ⟨R, hR⟩ : ∃ R, R = M.subR a b false := ⟨_, rfl⟩
  obtain ⟨G, hG⟩ : ∃ G, G = M.subF a b false := ⟨_, rfl⟩
  rw [← hR] at hr
  rw [← hG] at hg
  simp only [← hR, ← hG] at hs ⊢
  have Hs := Lib.hid hs
  clear hs hR hG
  have hof := refof_any G hg.1 hg.2
  unfold ofV at hof
  cases h4g : M.is G 4
  all_goals
    rw [h4g] at hof
    simp only [Bool.false_eq_true, if_false, if_true]
    have Hof := Lib.hid hof
    clear hof h4g
    go_enter Try.func15, Try.ntmps15
    go_wp2_with fail
    refine (Hs.out _).mono ?_
    rintro e w1 ⟨rfl, hb1⟩
    have z1 := hb1.size
    go_wp2_with fail
    refine (Hof.out _).mono ?_
    rintro e w2 ⟨rfl, hb2⟩
    replace hb2 := bstep (w := w) hb1 hb2
    have z2 := hb2.size
    go_wp2_with fail
    refine (refis_any _ 1 (by omega) (by omega) _).mono ?_
    rintro e w3 ⟨rfl, rfl⟩
    go_wp2_with fail
    refine (refis_any _ 3 (by omega) (by omega) _).mono ?_
    rintro e w3 ⟨rfl, rfl⟩
    go_wp2_with fail
    refine (refis_any f 0 h6 h7 _).mono ?_
    rintro e w3 ⟨rfl, rfl⟩
    go_wp2_with fail
    refine (refmake_any _ _ _ _ _ _ _ _ _).mono ?_
    rintro e w3 ⟨rfl, hb3⟩
    replace hb3 := bstep (w := w) (by go_grown) hb3
    go_wp2_with fail
    go_ret
    exact ⟨rfl, hb3⟩
set_option maxHeartbeats 4000000 in
theorem refcounted_any (b left k : Int) (h0 : 0 ≤ b) (h1 : b ≤ 255) (h2 : 0 ≤ left) (h3 : left ≤ 255) (h4 : 0 ≤ k) (h5 : k ≤ 1000) (w : World) : Calls Try.prog 39 #[.int .u8 b, .int .u8 left, .int .i64 k] w fun e w' => e = .returned (.int .u8 (M.rcountF b left k)) ∧ Below w.heap.size w w' := by
  have hr := M.mk_range (M.is left 7) (left == 0) (M.is left 5) false (M.is left 3) false false false
  have hof := refof_any (M.resF left) hr.1 hr.2
  simp only [M.resF, ofV, M.is_mk7, M.is_mk6, M.is_mk5, M.is_mk4, M.is_mk3, M.is_mk2, M.is_mk1, M.is_mk0] at hof
  have hcr := refresult_any left h2 h3
  unfold M.resF at hcr
  have Hof := Lib.hid hof
  have Hcr := Lib.hid hcr
  clear hof hcr hr
  go_enter Try.func39, Try.ntmps39
  go_wp2_with fail
  refine (Hcr.out _).mono ?_
  rintro e w1 ⟨rfl, hb1⟩
  have z1 := hb1.size
  go_wp2_with fail
  refine (Hof.out _).mono ?_
  rintro e w2 ⟨rfl, hb2⟩
  replace hb2 := bstep (w := w) hb1 hb2
  have z2 := hb2.size
  go_wp2_with fail
  go_loop [8, 9] (fun p n => ∃ i : Nat, i ≤ 8 ∧ n = .int .i64 i ∧ p = .int .u8 (M.xfold (k % 8) left i)) (fun _ n => 8 - (intOf n).toNat)
  case atStart => exact ⟨0, Nat.zero_le _, rfl, rfl⟩
  case round =>
    obtain ⟨i, hi, rfl, rfl⟩ := hrel
    by_cases hlt : i < 8
    · have hx := refis_any (k % 8) (i : Int) (by omega) (by omega)
      have hy := refis_any left (i : Int) h2 h3
      have hw := refwith_any (M.xfold (k % 8) left i) (i : Int) (M.is (k % 8) i != M.is left i) (M.xfold_range (k % 8) left i).1 (M.xfold_range (k % 8) left i).2
      have Hx := Lib.hid hx
      have Hy := Lib.hid hy
      have Hw := Lib.hid hw
      clear hx hy hw
      go_wp2_with fail
      trace_state
      refine (Hx.out _).mono ?_
      rintro e w3 ⟨rfl, rfl⟩
      go_wp2_with fail
      refine (Hy.out _).mono ?_
      rintro e w3 ⟨rfl, rfl⟩
      go_wp2_with fail
      refine (Hw.out _).mono ?_
      rintro e w3 ⟨rfl, rfl⟩
      go_wp2_with fail
      go_round
      case rel => exact ⟨i + 1, by omega, by simp, rfl⟩
      case measure => simp [intOf]; omega
    · obtain rfl : i = 8 := by omega
      have hr := M.xfold_range (k % 8) left 8
      go_wp2_with fail
      refine (refeven_any _ hr.1 hr.2 _).mono ?_
      rintro e w3 ⟨rfl, rfl⟩
      go_wp2_with fail
      refine (refis_any b 7 h0 h1 _).mono ?_
      rintro e w3 ⟨rfl, rfl⟩
      go_wp2_with fail
      refine (refmake_any _ _ _ _ _ _ _ _ _).mono ?_
      rintro e w3 ⟨rfl, hb3⟩
      replace hb3 := bstep (w := w) (by go_grown) hb3
      go_wp2_with fail
      go_ret
      exact ⟨rfl, hb3⟩
theorem refagain_any (kind f : Int) (h0 : 0 ≤ f) (h1 : f ≤ 255) (w : World) : Calls Try.prog 21 #[.int .i64 kind, .int .u8 f] w fun e w' => e = .returned (.bool (M.ragain kind f)) ∧ Below w.heap.size w w' := by
  by_cases k0 : kind = 0
  · subst k0
    go_enter Try.func21, Try.ntmps21
    go_wp2_with fail
    refine (refof_any f h0 h1 _).mono ?_
    rintro e w1 ⟨rfl, hb1⟩
    have z1 := hb1.size
    go_wp2_with fail
    go_ret
    exact ⟨rfl, by go_grown⟩
  by_cases k1 : kind = 1
  · subst k1
    have hof := refof_any f h0 h1
    unfold ofV at hof
    unfold M.ragain
    cases h2f : M.is f 2
    all_goals
      rw [h2f] at hof
      have Hof := Lib.hid hof
      clear hof h2f k0
      go_enter Try.func21, Try.ntmps21
      go_wp2_with fail
      refine (Hof.out _).mono ?_
      rintro e w1 ⟨rfl, hb1⟩
      have z1 := hb1.size
      go_wp2_with fail
      go_ret
      exact ⟨rfl, by go_grown⟩
  by_cases k2 : kind = 2
  · subst k2
    clear k0 k1
    go_enter Try.func21, Try.ntmps21
    go_wp2_with fail
    refine (refof_any f h0 h1 _).mono ?_
    rintro e w1 ⟨rfl, hb1⟩
    have z1 := hb1.size
    go_wp2_with fail
    go_ret
    exact ⟨rfl, by go_grown⟩
  by_cases k3 : kind = 3
  · subst k3
    clear k0 k1 k2
    go_enter Try.func21, Try.ntmps21
    go_wp2_with fail
    refine (refof_any f h0 h1 _).mono ?_
    rintro e w1 ⟨rfl, hb1⟩
    have z1 := hb1.size
    go_wp2_with fail
    go_ret
    exact ⟨rfl, by go_grown⟩
  · have e0 : (kind == 0) = false := by simpa using k0
    have e1 : (kind == 1) = false := by simpa using k1
    have e2 : (kind == 2) = false := by simpa using k2
    have e3 : (kind == 3) = false := by simpa using k3
    have hF : Hid (M.ragain kind f = false) := by unfold M.ragain; show (if kind = 0 then _ else _) = false; rw [if_neg k0, if_neg k1, if_neg k2, if_neg k3]
    clear k0 k1 k2 k3
    go_enter Try.func21, Try.ntmps21
    go_wp2_with fail
    refine (refof_any f h0 h1 _).mono ?_
    rintro e w1 ⟨rfl, hb1⟩
    have z1 := hb1.size
    go_wp2_with fail
    go_ret
    exact ⟨ret_bool hF.out.symm, by go_grown⟩
end Go.Proofs.Ytkphidaoodedjaa
