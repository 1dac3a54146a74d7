/- Written by a program of this session out of the translation and the contracts proved by hand: each function's answer and its proof; each law's statement over plain numbers. -/
import Derived.Test.YtkphidaoodedjaaPTx0
import Derived.Test.YtkphidaoodedjaaPTx1
namespace Go.Proofs.Ytkphidaoodedjaa.PT
open Go.RowKit Go.Proofs.YtkphidaoodedjaaW.PrintWords Go.Proofs.YtkphidaoodedjaaW.PrintLast Go.Proofs.YtkphidaoodedjaaW.PrintMore
attribute [local go_sem] max2_int min2_int max_two min_two max_three min_three max_four min_four   -- for this text's walks alone
set_option linter.unusedVariables false
set_option linter.unusedSimpArgs false

/-! ### charabancref01_With: function 43 -/
mutual
def charabancref01_With.j0 : Nat → Int → Int → Bool → Bool → Option (Int)
  | 0, _, _, _, _ => none
  | k + 1, x0, x1, x2, x14 => if x14 = true then (some x0) else ((charabancref01_Is.f k x0 x1).bind fun t128 => (if t128 = true then (charabancref01_With.j1 k x1 x2 t128 (wrap64 (x0)) (!x2)) else (charabancref01_With.j1 k x1 x2 t128 (wrap64 (x0)) false)))
def charabancref01_With.j1 : Nat → Int → Bool → Bool → Int → Bool → Option (Int)
  | 0, _, _, _, _, _ => none
  | k + 1, x1, x2, x7, x8, x25 => if x25 = true then ((charabancref01_Power.f k x1).bind fun t129 => (if x7 = true then (some ((wrap64 (x8 - t129)) % 256)) else (if x2 = true then ((charabancref01_Power.f k x1).bind fun t130 => (some ((wrap64 ((wrap64 (x8 - t129)) + t130)) % 256))) else (some ((wrap64 (x8 - t129)) % 256))))) else (if x7 = true then (some ((x8) % 256)) else (if x2 = true then ((charabancref01_Power.f k x1).bind fun t131 => (some ((wrap64 (x8 + t131)) % 256))) else (some ((x8) % 256))))
end
def charabancref01_With.f (k : Nat) (a0 : Int) (a1 : Int) (a2 : Bool) : Option (Int) := if a1 < 0 then (charabancref01_With.j0 k a0 a1 a2 true) else (charabancref01_With.j0 k a0 a1 a2 (decide (a1 > 7)))
theorem charabancref01_With.mono_l : ∀ k, (∀ y0 y1 y2 y3, LeO (charabancref01_With.j0 k y0 y1 y2 y3) (charabancref01_With.j0 (k + 1) y0 y1 y2 y3)) ∧ (∀ y0 y1 y2 y3 y4, LeO (charabancref01_With.j1 k y0 y1 y2 y3 y4) (charabancref01_With.j1 (k + 1) y0 y1 y2 y3 y4))
  | 0 => ⟨fun _ _ _ _ r h => by simp [charabancref01_With.j0] at h, fun _ _ _ _ _ r h => by simp [charabancref01_With.j1] at h⟩
  | k + 1 => by
    obtain ⟨ih0, ih1⟩ := charabancref01_With.mono_l k
    refine ⟨?_, ?_⟩
    · intro y0 y1 y2 y3
      unfold charabancref01_With.j0
      repeat' first
      | (with_reducible exact ih0 _ _ _ _)
      | (with_reducible exact ih1 _ _ _ _ _)
      | (with_reducible exact charabancref01_Is.mono _ _ _)
      | (with_reducible exact charabancref01_Power.mono _ _)
      | (with_reducible exact LeO.refl _)
      | (with_reducible exact LeO.none _)
      | (with_reducible refine LeO.ite ?_ ?_)
      | (with_reducible refine LeO.bind ?_ (fun _ => ?_))
      | exact ih0 _ _ _ _
      | exact ih1 _ _ _ _ _
      | exact charabancref01_Is.mono _ _ _
      | exact charabancref01_Power.mono _ _
      | exact LeO.none _
      | refine LeO.ite ?_ ?_
      | refine LeO.bind ?_ (fun _ => ?_)
    · intro y0 y1 y2 y3 y4
      unfold charabancref01_With.j1
      repeat' first
      | (with_reducible exact ih0 _ _ _ _)
      | (with_reducible exact ih1 _ _ _ _ _)
      | (with_reducible exact charabancref01_Is.mono _ _ _)
      | (with_reducible exact charabancref01_Power.mono _ _)
      | (with_reducible exact LeO.refl _)
      | (with_reducible exact LeO.none _)
      | (with_reducible refine LeO.ite ?_ ?_)
      | (with_reducible refine LeO.bind ?_ (fun _ => ?_))
      | exact ih0 _ _ _ _
      | exact ih1 _ _ _ _ _
      | exact charabancref01_Is.mono _ _ _
      | exact charabancref01_Power.mono _ _
      | exact LeO.none _
      | refine LeO.ite ?_ ?_
      | refine LeO.bind ?_ (fun _ => ?_)
theorem charabancref01_With.mono : ∀ a0 a1 a2 k, LeO (charabancref01_With.f k a0 a1 a2) (charabancref01_With.f (k + 1) a0 a1 a2) := by
  intro a0 a1 a2 k
  obtain ⟨ih0, ih1⟩ := charabancref01_With.mono_l k
  unfold charabancref01_With.f
  repeat' first
      | (with_reducible exact ih0 _ _ _ _)
      | (with_reducible exact ih1 _ _ _ _ _)
      | (with_reducible exact charabancref01_Is.mono _ _ _)
      | (with_reducible exact charabancref01_Power.mono _ _)
      | (with_reducible exact LeO.refl _)
      | (with_reducible exact LeO.none _)
      | (with_reducible refine LeO.ite ?_ ?_)
      | (with_reducible refine LeO.bind ?_ (fun _ => ?_))
      | exact ih0 _ _ _ _
      | exact ih1 _ _ _ _ _
      | exact charabancref01_Is.mono _ _ _
      | exact charabancref01_Power.mono _ _
      | exact LeO.none _
      | refine LeO.ite ?_ ?_
      | refine LeO.bind ?_ (fun _ => ?_)
set_option maxHeartbeats 8000000 in
set_option maxRecDepth 100000 in
theorem charabancref01_With.calls (k : Nat) (a0 : Int) (a1 : Int) (a2 : Bool) (r : Int) (w : World) (h : charabancref01_With.f k a0 a1 a2 = some r) :
    Calls Try.prog 43 #[.int .u8 a0, .int .i64 a1, .bool a2] w fun e w' => e = .returned (.int .u8 r) ∧ Drawn0 w w' := by
  have H : (if a1 < 0 then (charabancref01_With.j0 k a0 a1 a2 true) else (charabancref01_With.j0 k a0 a1 a2 (decide (a1 > 7)))) = some r := h
  clear h
  have HC4 := Aside0.mk H
  clear H
  go_enter Try.func43, Try.ntmps43
  go_upto_region 1 with (fail)
  go_cut [14] (fun v14 wc => ∃ (kq : Nat) (x14_3 : Bool), v14 = .bool x14_3 ∧ Aside0 (charabancref01_With.j0 kq a0 a1 a2 x14_3 = some r) ∧ Aside0 (kq ≤ k) ∧ Drawn0 w wc)
  case first =>
    have H := HC4.out
    clear HC4
    by_cases c5 : a1 < 0
    · rw [if_pos c5] at H
      have c5b0 : decide (a1 < 0) = true := decide_eq_true c5
      clear c5
      (first | rw [c5b0] | (simp only [i64_w, i32_w]; rw [c5b0]) | skip)
      have H' := Aside0.mk H
      clear H
      go_wp2
      go_meet
      case rel => exact ⟨_, (true), (by first | rfl | (simp; done) | (simp [*]; done)), H', ⟨by first | omega | exact Nat.le_refl _⟩, by repeat (first | exact Drawn0.refl _ | apply Drawn0.step)⟩
    · rw [if_neg c5] at H
      have c5b0 : decide (a1 < 0) = false := decide_eq_false c5
      clear c5
      (first | rw [c5b0] | (simp only [i64_w, i32_w]; rw [c5b0]) | skip)
      have H' := Aside0.mk H
      clear H
      go_wp2
      go_meet
      case rel => exact ⟨_, (decide (a1 > 7)), (by first | rfl | (simp; done) | (simp [*]; done)), H', ⟨by first | omega | exact Nat.le_refl _⟩, by repeat (first | exact Drawn0.refl _ | apply Drawn0.step)⟩
  case rest =>
    clear HC4
    try clear p2
    try clear c4
    try clear c5
    try clear c5b0
    obtain ⟨kq, x14_3, rfl, HA, HJ3, ⟨mc3, rfl⟩⟩ := hcut
    cases kq with
    | zero => exact absurd HA.out (by simp [charabancref01_With.j0])
    | succ kj3 =>
      have H := HA.out
      clear HA
      simp only [charabancref01_With.j0] at H
      by_cases c6 : x14_3 = true
      · subst c6
        have H1 : (some a0) = some r := by rw [if_pos rfl] at H; exact H
        clear H
        have H := H1
        clear H1
        obtain rfl := Option.some.inj H
        go_wp2
        go_ret
        exact ⟨by first | rfl | (simp; done) | (simp [*]; done), by repeat (first | exact Drawn0.refl _ | apply Drawn0.step)⟩
      · replace c6 := Bool.eq_false_iff.mpr c6
        subst c6
        have H1 : ((charabancref01_Is.f kj3 a0 a1).bind fun t128 => (if t128 = true then (charabancref01_With.j1 kj3 a1 a2 t128 (wrap64 (a0)) (!a2)) else (charabancref01_With.j1 kj3 a1 a2 t128 (wrap64 (a0)) false))) = some r := by rw [if_neg (show ¬ (false = true) by decide)] at H; exact H
        clear H
        have H := H1
        clear H1
        replace H := Option.bind_eq_some_iff.mp H
        obtain ⟨t128, A70, H⟩ := H
        replace H : (if t128 = true then (charabancref01_With.j1 kj3 a1 a2 t128 (wrap64 (a0)) (!a2)) else (charabancref01_With.j1 kj3 a1 a2 t128 (wrap64 (a0)) false)) = some r := H
        have A7 := Aside0.mk A70
        clear A70
        have HC8 := Aside0.mk H
        clear H
        go_upto_region 5 with (first | ((with_reducible refine gate_callee (f := 34) rfl ?_); refine goesL_ (some 18) rfl rfl Try.func34 (by kernel_rfl) rfl #[.int .u8 a0, .int .i64 a1] rfl (by (try simp only [List.map_toArray, List.map_cons, List.map_nil]); first | done | rfl | (simp only [List.length_drop, List.length_take]; rfl)) ?_; (with_reducible refine (charabancref01_Is.calls kj3 a0 a1 t128 _ A7.out).mono ?_); rintro e w' ⟨rfl, ⟨nd, rfl⟩⟩; refine ⟨_, rfl, ?_⟩))
        (try simp only [Act.put, List.setIfInBounds_toArray, List.set_cons_zero, List.set_cons_succ])
        go_cut [25] (fun v25 wc => ∃ (kq : Nat) (x25_7 : Bool), v25 = .bool x25_7 ∧ Aside0 (charabancref01_With.j1 kq a1 a2 t128 (wrap64 (a0)) x25_7 = some r) ∧ Aside0 (kq ≤ kj3) ∧ Drawn0 w wc)
        case first =>
          have H := HC8.out
          clear HC8
          by_cases c9 : t128 = true
          · subst c9
            have H1 : (charabancref01_With.j1 kj3 a1 a2 true (wrap64 (a0)) (!a2)) = some r := by rw [if_pos rfl] at H; exact H
            clear H
            have H := H1
            clear H1
            have H' := Aside0.mk H
            clear H
            go_wp2
            go_meet
            case rel => exact ⟨_, (!a2), (by first | rfl | (simp; done) | (simp [*]; done)), H', ⟨by have := HJ3.out; first | omega | exact Nat.le_refl _⟩, by repeat (first | exact Drawn0.refl _ | apply Drawn0.step)⟩
          · replace c9 := Bool.eq_false_iff.mpr c9
            subst c9
            have H1 : (charabancref01_With.j1 kj3 a1 a2 false (wrap64 (a0)) false) = some r := by rw [if_neg (show ¬ (false = true) by decide)] at H; exact H
            clear H
            have H := H1
            clear H1
            have H' := Aside0.mk H
            clear H
            go_wp2
            go_meet
            case rel => exact ⟨_, (false), (by first | rfl | (simp; done) | (simp [*]; done)), H', ⟨by have := HJ3.out; first | omega | exact Nat.le_refl _⟩, by repeat (first | exact Drawn0.refl _ | apply Drawn0.step)⟩
        case rest =>
          clear HC8
          try clear p2
          try clear c3
          try clear c4
          try clear c5
          try clear c5b0
          try clear c6
          try clear p6
          try clear c9
          try clear p2
          obtain ⟨kq, x25_7, rfl, HA, HJ7, ⟨mc7, rfl⟩⟩ := hcut
          cases kq with
          | zero => exact absurd HA.out (by simp [charabancref01_With.j1])
          | succ kj7 =>
            have H := HA.out
            clear HA
            simp only [charabancref01_With.j1] at H
            by_cases c10 : x25_7 = true
            · subst c10
              have H1 : ((charabancref01_Power.f kj7 a1).bind fun t129 => (if t128 = true then (some ((wrap64 ((wrap64 (a0)) - t129)) % 256)) else (if a2 = true then ((charabancref01_Power.f kj7 a1).bind fun t130 => (some ((wrap64 ((wrap64 ((wrap64 (a0)) - t129)) + t130)) % 256))) else (some ((wrap64 ((wrap64 (a0)) - t129)) % 256))))) = some r := by rw [if_pos rfl] at H; exact H
              clear H
              have H := H1
              clear H1
              replace H := Option.bind_eq_some_iff.mp H
              obtain ⟨t129, A110, H⟩ := H
              replace H : (if t128 = true then (some ((wrap64 ((wrap64 (a0)) - t129)) % 256)) else (if a2 = true then ((charabancref01_Power.f kj7 a1).bind fun t130 => (some ((wrap64 ((wrap64 ((wrap64 (a0)) - t129)) + t130)) % 256))) else (some ((wrap64 ((wrap64 (a0)) - t129)) % 256)))) = some r := H
              have A11 := Aside0.mk A110
              clear A110
              by_cases c12 : t128 = true
              · subst c12
                have H1 : (some ((wrap64 ((wrap64 (a0)) - t129)) % 256)) = some r := by rw [if_pos rfl] at H; exact H
                clear H
                have H := H1
                clear H1
                obtain rfl := Option.some.inj H
                go_wp2_with (first | ((with_reducible refine gate_callee (f := 49) rfl ?_); refine goesL_ (some 28) rfl rfl Try.func49 (by kernel_rfl) rfl #[.int .i64 a1] rfl (by (try simp only [List.map_toArray, List.map_cons, List.map_nil]); first | done | rfl | (simp only [List.length_drop, List.length_take]; rfl)) ?_; (with_reducible refine (charabancref01_Power.calls kj7 a1 t129 _ A11.out).mono ?_); rintro e w' ⟨rfl, ⟨nd, rfl⟩⟩; refine ⟨_, rfl, ?_⟩))
                go_ret
                exact ⟨by first | rfl | (simp; done) | (simp [*]; done), by repeat (first | exact Drawn0.refl _ | apply Drawn0.step)⟩
              · replace c12 := Bool.eq_false_iff.mpr c12
                subst c12
                have H1 : (if a2 = true then ((charabancref01_Power.f kj7 a1).bind fun t130 => (some ((wrap64 ((wrap64 ((wrap64 (a0)) - t129)) + t130)) % 256))) else (some ((wrap64 ((wrap64 (a0)) - t129)) % 256))) = some r := by rw [if_neg (show ¬ (false = true) by decide)] at H; exact H
                clear H
                have H := H1
                clear H1
                by_cases c13 : a2 = true
                · subst c13
                  have H1 : ((charabancref01_Power.f kj7 a1).bind fun t130 => (some ((wrap64 ((wrap64 ((wrap64 (a0)) - t129)) + t130)) % 256))) = some r := by rw [if_pos rfl] at H; exact H
                  clear H
                  have H := H1
                  clear H1
                  replace H := Option.bind_eq_some_iff.mp H
                  obtain ⟨t130, A140, H⟩ := H
                  replace H : (some ((wrap64 ((wrap64 ((wrap64 (a0)) - t129)) + t130)) % 256)) = some r := H
                  have A14 := Aside0.mk A140
                  clear A140
                  obtain rfl := Option.some.inj H
                  go_wp2_with (first | ((with_reducible refine gate_callee (f := 49) rfl ?_); refine goesL_ (some 28) rfl rfl Try.func49 (by kernel_rfl) rfl #[.int .i64 a1] rfl (by (try simp only [List.map_toArray, List.map_cons, List.map_nil]); first | done | rfl | (simp only [List.length_drop, List.length_take]; rfl)) ?_; (with_reducible refine (charabancref01_Power.calls kj7 a1 t129 _ A11.out).mono ?_); rintro e w' ⟨rfl, ⟨nd, rfl⟩⟩; refine ⟨_, rfl, ?_⟩) | ((with_reducible refine gate_callee (f := 49) rfl ?_); refine goesL_ (some 37) rfl rfl Try.func49 (by kernel_rfl) rfl #[.int .i64 a1] rfl (by (try simp only [List.map_toArray, List.map_cons, List.map_nil]); first | done | rfl | (simp only [List.length_drop, List.length_take]; rfl)) ?_; (with_reducible refine (charabancref01_Power.calls kj7 a1 t130 _ A14.out).mono ?_); rintro e w' ⟨rfl, ⟨nd, rfl⟩⟩; refine ⟨_, rfl, ?_⟩))
                  go_ret
                  exact ⟨by first | rfl | (simp; done) | (simp [*]; done), by repeat (first | exact Drawn0.refl _ | apply Drawn0.step)⟩
                · replace c13 := Bool.eq_false_iff.mpr c13
                  subst c13
                  have H1 : (some ((wrap64 ((wrap64 (a0)) - t129)) % 256)) = some r := by rw [if_neg (show ¬ (false = true) by decide)] at H; exact H
                  clear H
                  have H := H1
                  clear H1
                  obtain rfl := Option.some.inj H
                  go_wp2_with (first | ((with_reducible refine gate_callee (f := 49) rfl ?_); refine goesL_ (some 28) rfl rfl Try.func49 (by kernel_rfl) rfl #[.int .i64 a1] rfl (by (try simp only [List.map_toArray, List.map_cons, List.map_nil]); first | done | rfl | (simp only [List.length_drop, List.length_take]; rfl)) ?_; (with_reducible refine (charabancref01_Power.calls kj7 a1 t129 _ A11.out).mono ?_); rintro e w' ⟨rfl, ⟨nd, rfl⟩⟩; refine ⟨_, rfl, ?_⟩))
                  go_ret
                  exact ⟨by first | rfl | (simp; done) | (simp [*]; done), by repeat (first | exact Drawn0.refl _ | apply Drawn0.step)⟩
            · replace c10 := Bool.eq_false_iff.mpr c10
              subst c10
              have H1 : (if t128 = true then (some (((wrap64 (a0))) % 256)) else (if a2 = true then ((charabancref01_Power.f kj7 a1).bind fun t131 => (some ((wrap64 ((wrap64 (a0)) + t131)) % 256))) else (some (((wrap64 (a0))) % 256)))) = some r := by rw [if_neg (show ¬ (false = true) by decide)] at H; exact H
              clear H
              have H := H1
              clear H1
              by_cases c15 : t128 = true
              · subst c15
                have H1 : (some (((wrap64 (a0))) % 256)) = some r := by rw [if_pos rfl] at H; exact H
                clear H
                have H := H1
                clear H1
                obtain rfl := Option.some.inj H
                go_wp2
                go_ret
                exact ⟨by first | rfl | (simp; done) | (simp [*]; done), by repeat (first | exact Drawn0.refl _ | apply Drawn0.step)⟩
              · replace c15 := Bool.eq_false_iff.mpr c15
                subst c15
                have H1 : (if a2 = true then ((charabancref01_Power.f kj7 a1).bind fun t131 => (some ((wrap64 ((wrap64 (a0)) + t131)) % 256))) else (some (((wrap64 (a0))) % 256))) = some r := by rw [if_neg (show ¬ (false = true) by decide)] at H; exact H
                clear H
                have H := H1
                clear H1
                by_cases c16 : a2 = true
                · subst c16
                  have H1 : ((charabancref01_Power.f kj7 a1).bind fun t131 => (some ((wrap64 ((wrap64 (a0)) + t131)) % 256))) = some r := by rw [if_pos rfl] at H; exact H
                  clear H
                  have H := H1
                  clear H1
                  replace H := Option.bind_eq_some_iff.mp H
                  obtain ⟨t131, A170, H⟩ := H
                  replace H : (some ((wrap64 ((wrap64 (a0)) + t131)) % 256)) = some r := H
                  have A17 := Aside0.mk A170
                  clear A170
                  obtain rfl := Option.some.inj H
                  go_wp2_with (first | ((with_reducible refine gate_callee (f := 49) rfl ?_); refine goesL_ (some 37) rfl rfl Try.func49 (by kernel_rfl) rfl #[.int .i64 a1] rfl (by (try simp only [List.map_toArray, List.map_cons, List.map_nil]); first | done | rfl | (simp only [List.length_drop, List.length_take]; rfl)) ?_; (with_reducible refine (charabancref01_Power.calls kj7 a1 t131 _ A17.out).mono ?_); rintro e w' ⟨rfl, ⟨nd, rfl⟩⟩; refine ⟨_, rfl, ?_⟩))
                  go_ret
                  exact ⟨by first | rfl | (simp; done) | (simp [*]; done), by repeat (first | exact Drawn0.refl _ | apply Drawn0.step)⟩
                · replace c16 := Bool.eq_false_iff.mpr c16
                  subst c16
                  have H1 : (some (((wrap64 (a0))) % 256)) = some r := by rw [if_neg (show ¬ (false = true) by decide)] at H; exact H
                  clear H
                  have H := H1
                  clear H1
                  obtain rfl := Option.some.inj H
                  go_wp2
                  go_ret
                  exact ⟨by first | rfl | (simp; done) | (simp [*]; done), by repeat (first | exact Drawn0.refl _ | apply Drawn0.step)⟩

/-! ### charabancref06_moved: function 68 -/
def charabancref06_moved.l0 : Nat → Int → Bool → Bool → Int → Int → Option (Int × Bool)
  | 0, _, _, _, _, _ => none
  | k + 1, x0, x1, x2, x8, x9 => if x9 < 8 then (if x1 = true then ((charabancref01_Is.f k x0 x9).bind fun t132 => ((charabancref01_With.f k x8 (wrap64 (x9 + 1)) t132).bind fun t133 => (charabancref06_moved.l0 k x0 x1 x2 t133 (wrap64 (x9 + 1))))) else ((charabancref01_Is.f k x0 x9).bind fun t134 => ((charabancref01_With.f k x8 (wrap64 (x9 - 1)) t134).bind fun t135 => (charabancref06_moved.l0 k x0 x1 x2 t135 (wrap64 (x9 + 1)))))) else (if x1 = true then ((charabancref01_With.f k x8 0 x2).bind fun t136 => ((charabancref01_Is.f k x0 7).bind fun t137 => (some (t136, t137)))) else ((charabancref01_With.f k x8 7 x2).bind fun t138 => ((charabancref01_Is.f k x0 0).bind fun t139 => (some (t138, t139)))))
def charabancref06_moved.f (k : Nat) (a0 : Int) (a1 : Bool) (a2 : Bool) : Option (Int × Bool) := charabancref06_moved.l0 k a0 a1 a2 0 0
theorem charabancref06_moved.mono_l : ∀ k, (∀ y0 y1 y2 y3 y4, LeO (charabancref06_moved.l0 k y0 y1 y2 y3 y4) (charabancref06_moved.l0 (k + 1) y0 y1 y2 y3 y4))
  | 0 => fun _ _ _ _ _ r h => by simp [charabancref06_moved.l0] at h
  | k + 1 => by
    have ih0 := charabancref06_moved.mono_l k
    · intro y0 y1 y2 y3 y4
      unfold charabancref06_moved.l0
      repeat' first
      | (with_reducible exact ih0 _ _ _ _ _)
      | (with_reducible exact charabancref01_Is.mono _ _ _)
      | (with_reducible exact charabancref01_With.mono _ _ _ _)
      | (with_reducible exact LeO.refl _)
      | (with_reducible exact LeO.none _)
      | (with_reducible refine LeO.ite ?_ ?_)
      | (with_reducible refine LeO.bind ?_ (fun _ => ?_))
      | exact ih0 _ _ _ _ _
      | exact charabancref01_Is.mono _ _ _
      | exact charabancref01_With.mono _ _ _ _
      | exact LeO.none _
      | refine LeO.ite ?_ ?_
      | refine LeO.bind ?_ (fun _ => ?_)
theorem charabancref06_moved.mono : ∀ a0 a1 a2 k, LeO (charabancref06_moved.f k a0 a1 a2) (charabancref06_moved.f (k + 1) a0 a1 a2) := by
  intro a0 a1 a2 k
  have ih0 := charabancref06_moved.mono_l k
  unfold charabancref06_moved.f
  repeat' first
      | (with_reducible exact ih0 _ _ _ _ _)
      | (with_reducible exact charabancref01_Is.mono _ _ _)
      | (with_reducible exact charabancref01_With.mono _ _ _ _)
      | (with_reducible exact LeO.refl _)
      | (with_reducible exact LeO.none _)
      | (with_reducible refine LeO.ite ?_ ?_)
      | (with_reducible refine LeO.bind ?_ (fun _ => ?_))
      | exact ih0 _ _ _ _ _
      | exact charabancref01_Is.mono _ _ _
      | exact charabancref01_With.mono _ _ _ _
      | exact LeO.none _
      | refine LeO.ite ?_ ?_
      | refine LeO.bind ?_ (fun _ => ?_)
set_option maxHeartbeats 8000000 in
set_option maxRecDepth 100000 in
theorem charabancref06_moved.calls (k : Nat) (a0 : Int) (a1 : Bool) (a2 : Bool) (r1 : Int) (r2 : Bool) (w : World) (h : charabancref06_moved.f k a0 a1 a2 = some (r1, r2)) :
    Calls Try.prog 68 #[.int .u8 a0, .bool a1, .bool a2] w fun e w' => e = .returned (.tuple #[.int .u8 r1, .bool r2]) ∧ Drawn0 w w' := by
  have H : (charabancref06_moved.l0 k a0 a1 a2 0 0) = some (r1, r2) := h
  clear h
  have H' := Aside0.mk H
  clear H
  go_enter Try.func68, Try.ntmps68
  go_wp2
  go_loopg [8, 9] k (fun kq v8 v9 w' => ∃ (x8_1 : Int) (x9_1 : Int), v8 = .int .u8 x8_1 ∧ v9 = .int .i64 x9_1 ∧ Aside0 (charabancref06_moved.l0 kq a0 a1 a2 x8_1 x9_1 = some (r1, r2)) ∧ Aside0 (kq ≤ k) ∧ Drawn0 w w')
  case atStart => exact ⟨(0), (0), (by first | rfl | (simp; done) | (simp [*]; done)), (by first | rfl | (simp; done) | (simp [*]; done)), H', ⟨Nat.le_refl _⟩, by repeat (first | exact Drawn0.refl _ | apply Drawn0.step)⟩
  case round =>
    clear H'
    try clear p2
    obtain ⟨x8_1, x9_1, rfl, rfl, HA, HK1, ⟨m1, rfl⟩⟩ := hrel
    cases gk with
    | zero => exact absurd HA.out (by simp [charabancref06_moved.l0])
    | succ k1 =>
      have H := HA.out
      clear HA
      simp only [charabancref06_moved.l0] at H
      by_cases c4 : x9_1 < 8
      · rw [if_pos c4] at H
        have c4b0 : decide (x9_1 < 8) = true := decide_eq_true c4
        clear c4
        by_cases c5 : a1 = true
        · subst c5
          have H1 : ((charabancref01_Is.f k1 a0 x9_1).bind fun t132 => ((charabancref01_With.f k1 x8_1 (wrap64 (x9_1 + 1)) t132).bind fun t133 => (charabancref06_moved.l0 k1 a0 true a2 t133 (wrap64 (x9_1 + 1))))) = some (r1, r2) := by rw [if_pos rfl] at H; exact H
          clear H
          have H := H1
          clear H1
          replace H := Option.bind_eq_some_iff.mp H
          obtain ⟨t132, A60, H⟩ := H
          replace H : ((charabancref01_With.f k1 x8_1 (wrap64 (x9_1 + 1)) t132).bind fun t133 => (charabancref06_moved.l0 k1 a0 true a2 t133 (wrap64 (x9_1 + 1)))) = some (r1, r2) := H
          have A6 := Aside0.mk A60
          clear A60
          replace H := Option.bind_eq_some_iff.mp H
          obtain ⟨t133, A70, H⟩ := H
          replace H : (charabancref06_moved.l0 k1 a0 true a2 t133 (wrap64 (x9_1 + 1))) = some (r1, r2) := H
          have A7 := Aside0.mk A70
          clear A70
          have H' := Aside0.mk H
          clear H
          go_wp2_with (first | ((with_reducible refine gate_callee (f := 34) rfl ?_); refine goesL_ (some 24) rfl rfl Try.func34 (by kernel_rfl) rfl #[.int .u8 a0, .int .i64 x9_1] rfl (by (try simp only [List.map_toArray, List.map_cons, List.map_nil]); first | done | rfl | (simp only [List.length_drop, List.length_take]; rfl)) ?_; (with_reducible refine (charabancref01_Is.calls k1 a0 x9_1 t132 _ A6.out).mono ?_); rintro e w' ⟨rfl, ⟨nd, rfl⟩⟩; refine ⟨_, rfl, ?_⟩) | ((with_reducible refine gate_callee (f := 43) rfl ?_); refine goesL_ (some 25) rfl rfl Try.func43 (by kernel_rfl) rfl #[.int .u8 x8_1, .int .i64 (wrap64 (x9_1 + 1)), .bool t132] rfl (by (try simp only [List.map_toArray, List.map_cons, List.map_nil]); first | done | rfl | (simp only [List.length_drop, List.length_take]; rfl)) ?_; (with_reducible refine (charabancref01_With.calls k1 x8_1 (wrap64 (x9_1 + 1)) t132 t133 _ A7.out).mono ?_); rintro e w' ⟨rfl, ⟨nd, rfl⟩⟩; refine ⟨_, rfl, ?_⟩))
          go_roundg k1
          case measure => have := HK1.out; omega
          case rel => exact ⟨(t133), (wrap64 (x9_1 + 1)), (by first | rfl | (simp; done) | (simp [*]; done)), (by first | rfl | (simp; done) | (simp [*]; done)), H', ⟨by have := HK1.out; omega⟩, by repeat (first | exact Drawn0.refl _ | apply Drawn0.step)⟩
        · replace c5 := Bool.eq_false_iff.mpr c5
          subst c5
          have H1 : ((charabancref01_Is.f k1 a0 x9_1).bind fun t134 => ((charabancref01_With.f k1 x8_1 (wrap64 (x9_1 - 1)) t134).bind fun t135 => (charabancref06_moved.l0 k1 a0 false a2 t135 (wrap64 (x9_1 + 1))))) = some (r1, r2) := by rw [if_neg (show ¬ (false = true) by decide)] at H; exact H
          clear H
          have H := H1
          clear H1
          replace H := Option.bind_eq_some_iff.mp H
          obtain ⟨t134, A80, H⟩ := H
          replace H : ((charabancref01_With.f k1 x8_1 (wrap64 (x9_1 - 1)) t134).bind fun t135 => (charabancref06_moved.l0 k1 a0 false a2 t135 (wrap64 (x9_1 + 1)))) = some (r1, r2) := H
          have A8 := Aside0.mk A80
          clear A80
          replace H := Option.bind_eq_some_iff.mp H
          obtain ⟨t135, A90, H⟩ := H
          replace H : (charabancref06_moved.l0 k1 a0 false a2 t135 (wrap64 (x9_1 + 1))) = some (r1, r2) := H
          have A9 := Aside0.mk A90
          clear A90
          have H' := Aside0.mk H
          clear H
          go_wp2_with (first | ((with_reducible refine gate_callee (f := 34) rfl ?_); refine goesL_ (some 24) rfl rfl Try.func34 (by kernel_rfl) rfl #[.int .u8 a0, .int .i64 x9_1] rfl (by (try simp only [List.map_toArray, List.map_cons, List.map_nil]); first | done | rfl | (simp only [List.length_drop, List.length_take]; rfl)) ?_; (with_reducible refine (charabancref01_Is.calls k1 a0 x9_1 t134 _ A8.out).mono ?_); rintro e w' ⟨rfl, ⟨nd, rfl⟩⟩; refine ⟨_, rfl, ?_⟩) | ((with_reducible refine gate_callee (f := 43) rfl ?_); refine goesL_ (some 25) rfl rfl Try.func43 (by kernel_rfl) rfl #[.int .u8 x8_1, .int .i64 (wrap64 (x9_1 - 1)), .bool t134] rfl (by (try simp only [List.map_toArray, List.map_cons, List.map_nil]); first | done | rfl | (simp only [List.length_drop, List.length_take]; rfl)) ?_; (with_reducible refine (charabancref01_With.calls k1 x8_1 (wrap64 (x9_1 - 1)) t134 t135 _ A9.out).mono ?_); rintro e w' ⟨rfl, ⟨nd, rfl⟩⟩; refine ⟨_, rfl, ?_⟩))
          go_roundg k1
          case measure => have := HK1.out; omega
          case rel => exact ⟨(t135), (wrap64 (x9_1 + 1)), (by first | rfl | (simp; done) | (simp [*]; done)), (by first | rfl | (simp; done) | (simp [*]; done)), H', ⟨by have := HK1.out; omega⟩, by repeat (first | exact Drawn0.refl _ | apply Drawn0.step)⟩
      · rw [if_neg c4] at H
        have c4b0 : decide (x9_1 < 8) = false := decide_eq_false c4
        clear c4
        by_cases c10 : a1 = true
        · subst c10
          have H1 : ((charabancref01_With.f k1 x8_1 0 a2).bind fun t136 => ((charabancref01_Is.f k1 a0 7).bind fun t137 => (some (t136, t137)))) = some (r1, r2) := by rw [if_pos rfl] at H; exact H
          clear H
          have H := H1
          clear H1
          replace H := Option.bind_eq_some_iff.mp H
          obtain ⟨t136, A110, H⟩ := H
          replace H : ((charabancref01_Is.f k1 a0 7).bind fun t137 => (some (t136, t137))) = some (r1, r2) := H
          have A11 := Aside0.mk A110
          clear A110
          replace H := Option.bind_eq_some_iff.mp H
          obtain ⟨t137, A120, H⟩ := H
          replace H : (some (t136, t137)) = some (r1, r2) := H
          have A12 := Aside0.mk A120
          clear A120
          simp only [Option.some.injEq, Prod.mk.injEq] at H
          obtain ⟨rfl, rfl⟩ := H
          go_wp2_with (first | ((with_reducible refine gate_callee (f := 43) rfl ?_); refine goesL_ (some 29) rfl rfl Try.func43 (by kernel_rfl) rfl #[.int .u8 x8_1, .int .i64 0, .bool a2] rfl (by (try simp only [List.map_toArray, List.map_cons, List.map_nil]); first | done | rfl | (simp only [List.length_drop, List.length_take]; rfl)) ?_; (with_reducible refine (charabancref01_With.calls k1 x8_1 0 a2 t136 _ A11.out).mono ?_); rintro e w' ⟨rfl, ⟨nd, rfl⟩⟩; refine ⟨_, rfl, ?_⟩) | ((with_reducible refine gate_callee (f := 34) rfl ?_); refine goesL_ (some 31) rfl rfl Try.func34 (by kernel_rfl) rfl #[.int .u8 a0, .int .i64 7] rfl (by (try simp only [List.map_toArray, List.map_cons, List.map_nil]); first | done | rfl | (simp only [List.length_drop, List.length_take]; rfl)) ?_; (with_reducible refine (charabancref01_Is.calls k1 a0 7 t137 _ A12.out).mono ?_); rintro e w' ⟨rfl, ⟨nd, rfl⟩⟩; refine ⟨_, rfl, ?_⟩))
          go_ret2
          exact ⟨by first | rfl | (simp; done) | (simp [*]; done), by repeat (first | exact Drawn0.refl _ | apply Drawn0.step)⟩
        · replace c10 := Bool.eq_false_iff.mpr c10
          subst c10
          have H1 : ((charabancref01_With.f k1 x8_1 7 a2).bind fun t138 => ((charabancref01_Is.f k1 a0 0).bind fun t139 => (some (t138, t139)))) = some (r1, r2) := by rw [if_neg (show ¬ (false = true) by decide)] at H; exact H
          clear H
          have H := H1
          clear H1
          replace H := Option.bind_eq_some_iff.mp H
          obtain ⟨t138, A130, H⟩ := H
          replace H : ((charabancref01_Is.f k1 a0 0).bind fun t139 => (some (t138, t139))) = some (r1, r2) := H
          have A13 := Aside0.mk A130
          clear A130
          replace H := Option.bind_eq_some_iff.mp H
          obtain ⟨t139, A140, H⟩ := H
          replace H : (some (t138, t139)) = some (r1, r2) := H
          have A14 := Aside0.mk A140
          clear A140
          simp only [Option.some.injEq, Prod.mk.injEq] at H
          obtain ⟨rfl, rfl⟩ := H
          go_wp2_with (first | ((with_reducible refine gate_callee (f := 43) rfl ?_); refine goesL_ (some 34) rfl rfl Try.func43 (by kernel_rfl) rfl #[.int .u8 x8_1, .int .i64 7, .bool a2] rfl (by (try simp only [List.map_toArray, List.map_cons, List.map_nil]); first | done | rfl | (simp only [List.length_drop, List.length_take]; rfl)) ?_; (with_reducible refine (charabancref01_With.calls k1 x8_1 7 a2 t138 _ A13.out).mono ?_); rintro e w' ⟨rfl, ⟨nd, rfl⟩⟩; refine ⟨_, rfl, ?_⟩) | ((with_reducible refine gate_callee (f := 34) rfl ?_); refine goesL_ (some 36) rfl rfl Try.func34 (by kernel_rfl) rfl #[.int .u8 a0, .int .i64 0] rfl (by (try simp only [List.map_toArray, List.map_cons, List.map_nil]); first | done | rfl | (simp only [List.length_drop, List.length_take]; rfl)) ?_; (with_reducible refine (charabancref01_Is.calls k1 a0 0 t139 _ A14.out).mono ?_); rintro e w' ⟨rfl, ⟨nd, rfl⟩⟩; refine ⟨_, rfl, ?_⟩))
          go_ret2
          exact ⟨by first | rfl | (simp; done) | (simp [*]; done), by repeat (first | exact Drawn0.refl _ | apply Drawn0.step)⟩

/-! ### charabancref06_turned: function 42 -/
def charabancref06_turned.f (a0 : Int) (a1 : Int) (a2 : Int) : Option (Int × Bool × Bool) := if (0 ≤ a1 ∧ a1 ≤ 255) ∧ (0 ≤ a2 ∧ a2 ≤ 255) then some (M.turnedR a0 a1 a2, M.turnedO a0 a1, M.kindB a0) else none
theorem charabancref06_turned.calls (a0 : Int) (a1 : Int) (a2 : Int) (r1 : Int) (r2 : Bool) (r3 : Bool) (w : World) (h : charabancref06_turned.f a0 a1 a2 = some (r1, r2, r3)) :
    Calls Try.prog 42 #[.int .i64 a0, .int .u8 a1, .int .u8 a2] w fun e w' => e = .returned (.tuple #[.int .u8 r1, .bool r2, .bool r3]) ∧ Below w.heap.size w w' := by
  unfold charabancref06_turned.f at h
  split at h
  · rename_i hg
    simp only [Option.some.injEq, Prod.mk.injEq] at h
    obtain ⟨rfl, rfl, rfl⟩ := h
    exact (refturned_any a0 a1 a2 (by omega) (by omega) (by omega) (by omega) w).mono fun _ _ h_ => ⟨h_.1, h_.2 ▸ Below.refl _ _⟩
  · cases h

-- NOT PRINTED: function 33 (charabancref02_Of)

-- NOT PRINTED: function 35 (charabancref02_Make)

/-! ### charabancref01_Count: function 72 -/
def charabancref01_Count.l0 : Nat → Int → Int → Int → Option (Int)
  | 0, _, _, _ => none
  | k + 1, x0, x3, x4 => if x4 < 8 then ((charabancref01_Is.f k x0 x4).bind fun t140 => (if t140 = true then (charabancref01_Count.l0 k x0 (wrap64 (x3 + 1)) (wrap64 (x4 + 1))) else (charabancref01_Count.l0 k x0 x3 (wrap64 (x4 + 1))))) else (some x3)
def charabancref01_Count.f (k : Nat) (a0 : Int) : Option (Int) := charabancref01_Count.l0 k a0 0 0
theorem charabancref01_Count.mono_l : ∀ k, (∀ y0 y1 y2, LeO (charabancref01_Count.l0 k y0 y1 y2) (charabancref01_Count.l0 (k + 1) y0 y1 y2))
  | 0 => fun _ _ _ r h => by simp [charabancref01_Count.l0] at h
  | k + 1 => by
    have ih0 := charabancref01_Count.mono_l k
    · intro y0 y1 y2
      unfold charabancref01_Count.l0
      repeat' first
      | (with_reducible exact ih0 _ _ _)
      | (with_reducible exact charabancref01_Is.mono _ _ _)
      | (with_reducible exact LeO.refl _)
      | (with_reducible exact LeO.none _)
      | (with_reducible refine LeO.ite ?_ ?_)
      | (with_reducible refine LeO.bind ?_ (fun _ => ?_))
      | exact ih0 _ _ _
      | exact charabancref01_Is.mono _ _ _
      | exact LeO.none _
      | refine LeO.ite ?_ ?_
      | refine LeO.bind ?_ (fun _ => ?_)
theorem charabancref01_Count.mono : ∀ a0 k, LeO (charabancref01_Count.f k a0) (charabancref01_Count.f (k + 1) a0) := by
  intro a0 k
  have ih0 := charabancref01_Count.mono_l k
  unfold charabancref01_Count.f
  repeat' first
      | (with_reducible exact ih0 _ _ _)
      | (with_reducible exact charabancref01_Is.mono _ _ _)
      | (with_reducible exact LeO.refl _)
      | (with_reducible exact LeO.none _)
      | (with_reducible refine LeO.ite ?_ ?_)
      | (with_reducible refine LeO.bind ?_ (fun _ => ?_))
      | exact ih0 _ _ _
      | exact charabancref01_Is.mono _ _ _
      | exact LeO.none _
      | refine LeO.ite ?_ ?_
      | refine LeO.bind ?_ (fun _ => ?_)
set_option maxHeartbeats 8000000 in
set_option maxRecDepth 100000 in
theorem charabancref01_Count.calls (k : Nat) (a0 : Int) (r : Int) (w : World) (h : charabancref01_Count.f k a0 = some r) :
    Calls Try.prog 72 #[.int .u8 a0] w fun e w' => e = .returned (.int .i64 r) ∧ Drawn0 w w' := by
  have H : (charabancref01_Count.l0 k a0 0 0) = some r := h
  clear h
  have H' := Aside0.mk H
  clear H
  go_enter Try.func72, Try.ntmps72
  go_wp2
  go_loopg [3, 4] k (fun kq v3 v4 w' => ∃ (x3_1 : Int) (x4_1 : Int), v3 = .int .i64 x3_1 ∧ v4 = .int .i64 x4_1 ∧ Aside0 (charabancref01_Count.l0 kq a0 x3_1 x4_1 = some r) ∧ Aside0 (kq ≤ k) ∧ Drawn0 w w')
  case atStart => exact ⟨(0), (0), (by first | rfl | (simp; done) | (simp [*]; done)), (by first | rfl | (simp; done) | (simp [*]; done)), H', ⟨Nat.le_refl _⟩, by repeat (first | exact Drawn0.refl _ | apply Drawn0.step)⟩
  case round =>
    clear H'
    obtain ⟨x3_1, x4_1, rfl, rfl, HA, HK1, ⟨m1, rfl⟩⟩ := hrel
    cases gk with
    | zero => exact absurd HA.out (by simp [charabancref01_Count.l0])
    | succ k1 =>
      have H := HA.out
      clear HA
      simp only [charabancref01_Count.l0] at H
      by_cases c2 : x4_1 < 8
      · rw [if_pos c2] at H
        have c2b0 : decide (x4_1 < 8) = true := decide_eq_true c2
        clear c2
        replace H := Option.bind_eq_some_iff.mp H
        obtain ⟨t140, A30, H⟩ := H
        replace H : (if t140 = true then (charabancref01_Count.l0 k1 a0 (wrap64 (x3_1 + 1)) (wrap64 (x4_1 + 1))) else (charabancref01_Count.l0 k1 a0 x3_1 (wrap64 (x4_1 + 1)))) = some r := H
        have A3 := Aside0.mk A30
        clear A30
        by_cases c4 : t140 = true
        · subst c4
          have H1 : (charabancref01_Count.l0 k1 a0 (wrap64 (x3_1 + 1)) (wrap64 (x4_1 + 1))) = some r := by rw [if_pos rfl] at H; exact H
          clear H
          have H := H1
          clear H1
          have H' := Aside0.mk H
          clear H
          go_wp2_with (first | ((with_reducible refine gate_callee (f := 34) rfl ?_); refine goesL_ (some 12) rfl rfl Try.func34 (by kernel_rfl) rfl #[.int .u8 a0, .int .i64 x4_1] rfl (by (try simp only [List.map_toArray, List.map_cons, List.map_nil]); first | done | rfl | (simp only [List.length_drop, List.length_take]; rfl)) ?_; (with_reducible refine (charabancref01_Is.calls k1 a0 x4_1 true _ A3.out).mono ?_); rintro e w' ⟨rfl, ⟨nd, rfl⟩⟩; refine ⟨_, rfl, ?_⟩))
          go_roundg k1
          case measure => have := HK1.out; omega
          case rel => exact ⟨(wrap64 (x3_1 + 1)), (wrap64 (x4_1 + 1)), (by first | rfl | (simp; done) | (simp [*]; done)), (by first | rfl | (simp; done) | (simp [*]; done)), H', ⟨by have := HK1.out; omega⟩, by repeat (first | exact Drawn0.refl _ | apply Drawn0.step)⟩
        · replace c4 := Bool.eq_false_iff.mpr c4
          subst c4
          have H1 : (charabancref01_Count.l0 k1 a0 x3_1 (wrap64 (x4_1 + 1))) = some r := by rw [if_neg (show ¬ (false = true) by decide)] at H; exact H
          clear H
          have H := H1
          clear H1
          have H' := Aside0.mk H
          clear H
          go_wp2_with (first | ((with_reducible refine gate_callee (f := 34) rfl ?_); refine goesL_ (some 12) rfl rfl Try.func34 (by kernel_rfl) rfl #[.int .u8 a0, .int .i64 x4_1] rfl (by (try simp only [List.map_toArray, List.map_cons, List.map_nil]); first | done | rfl | (simp only [List.length_drop, List.length_take]; rfl)) ?_; (with_reducible refine (charabancref01_Is.calls k1 a0 x4_1 false _ A3.out).mono ?_); rintro e w' ⟨rfl, ⟨nd, rfl⟩⟩; refine ⟨_, rfl, ?_⟩))
          go_roundg k1
          case measure => have := HK1.out; omega
          case rel => exact ⟨(x3_1), (wrap64 (x4_1 + 1)), (by first | rfl | (simp; done) | (simp [*]; done)), (by first | rfl | (simp; done) | (simp [*]; done)), H', ⟨by have := HK1.out; omega⟩, by repeat (first | exact Drawn0.refl _ | apply Drawn0.step)⟩
      · rw [if_neg c2] at H
        have c2b0 : decide (x4_1 < 8) = false := decide_eq_false c2
        clear c2
        obtain rfl := Option.some.inj H
        go_wp2
        go_ret
        exact ⟨by first | rfl | (simp; done) | (simp [*]; done), by repeat (first | exact Drawn0.refl _ | apply Drawn0.step)⟩

/-! ### charabancref01_Even: function 59 -/
def charabancref01_Even.f (k : Nat) (a0 : Int) : Option (Bool) := (charabancref01_Count.f k a0).bind fun t141 => (some ((Int.tmod t141 2) == 0))
theorem charabancref01_Even.mono : ∀ a0 k, LeO (charabancref01_Even.f k a0) (charabancref01_Even.f (k + 1) a0) := by
  intro a0 k
  unfold charabancref01_Even.f
  repeat' first
      | (with_reducible exact charabancref01_Count.mono _ _)
      | (with_reducible exact LeO.refl _)
      | (with_reducible exact LeO.none _)
      | (with_reducible refine LeO.ite ?_ ?_)
      | (with_reducible refine LeO.bind ?_ (fun _ => ?_))
      | exact charabancref01_Count.mono _ _
      | exact LeO.none _
      | refine LeO.ite ?_ ?_
      | refine LeO.bind ?_ (fun _ => ?_)
set_option maxHeartbeats 8000000 in
set_option maxRecDepth 100000 in
theorem charabancref01_Even.calls (k : Nat) (a0 : Int) (r : Bool) (w : World) (h : charabancref01_Even.f k a0 = some r) :
    Calls Try.prog 59 #[.int .u8 a0] w fun e w' => e = .returned (.bool r) ∧ Drawn0 w w' := by
  have H : ((charabancref01_Count.f k a0).bind fun t141 => (some ((Int.tmod t141 2) == 0))) = some r := h
  clear h
  replace H := Option.bind_eq_some_iff.mp H
  obtain ⟨t141, A20, H⟩ := H
  replace H : (some ((Int.tmod t141 2) == 0)) = some r := H
  have A2 := Aside0.mk A20
  clear A20
  obtain rfl := Option.some.inj H
  go_enter Try.func59, Try.ntmps59
  go_wp2_with (first | ((with_reducible refine gate_callee (f := 72) rfl ?_); refine goesL_ (some 4) rfl rfl Try.func72 (by kernel_rfl) rfl #[.int .u8 a0] rfl (by (try simp only [List.map_toArray, List.map_cons, List.map_nil]); first | done | rfl | (simp only [List.length_drop, List.length_take]; rfl)) ?_; (with_reducible refine (charabancref01_Count.calls k a0 t141 _ A2.out).mono ?_); rintro e w' ⟨rfl, ⟨nd, rfl⟩⟩; refine ⟨_, rfl, ?_⟩))
  go_ret
  exact ⟨by first | rfl | (simp; done) | (simp [*]; done), by repeat (first | exact Drawn0.refl _ | apply Drawn0.step)⟩

/-! ### charabancref02_Even: function 44 -/
def charabancref02_Even.f (a0 : Int) : Option (Int) := if (0 ≤ a0 ∧ a0 ≤ 255) then some (M.evenF a0) else none
theorem charabancref02_Even.calls (a0 : Int) (r : Int) (w : World) (h : charabancref02_Even.f a0 = some r) :
    Calls Try.prog 44 #[.int .u8 a0] w fun e w' => e = .returned (.int .u8 r) ∧ Below w.heap.size w w' := by
  unfold charabancref02_Even.f at h
  split at h
  · rename_i hg
    obtain rfl := Option.some.inj h
    exact refeven02_any a0 (by omega) (by omega) w
  · cases h

/-! ### charabancref06_Do: function 24 -/
def charabancref06_Do.f (k : Nat) (a0 : Int) (a1 : Int) (a2 : Int) : Option (Int × Int) := (charabancref06_turned.f a0 a1 a2).bind fun bt142 => (if bt142.2.2 = true then ((charabancref02_Even.f bt142.1).bind fun t145 => ((charabancref01_With.f k t145 0 bt142.2.1).bind fun t146 => (some (bt142.1, t146)))) else (some (a1, a2)))
theorem charabancref06_Do.mono : ∀ a0 a1 a2 k, LeO (charabancref06_Do.f k a0 a1 a2) (charabancref06_Do.f (k + 1) a0 a1 a2) := by
  intro a0 a1 a2 k
  unfold charabancref06_Do.f
  repeat' first
      | (with_reducible exact charabancref01_With.mono _ _ _ _)
      | (with_reducible exact LeO.refl _)
      | (with_reducible exact LeO.none _)
      | (with_reducible refine LeO.ite ?_ ?_)
      | (with_reducible refine LeO.bind ?_ (fun _ => ?_))
      | exact charabancref01_With.mono _ _ _ _
      | exact LeO.none _
      | refine LeO.ite ?_ ?_
      | refine LeO.bind ?_ (fun _ => ?_)
set_option maxHeartbeats 8000000 in
set_option maxRecDepth 100000 in
theorem charabancref06_Do.calls (k : Nat) (a0 : Int) (a1 : Int) (a2 : Int) (r1 : Int) (r2 : Int) (w : World) (h : charabancref06_Do.f k a0 a1 a2 = some (r1, r2)) :
    Calls Try.prog 24 #[.int .i64 a0, .int .u8 a1, .int .u8 a2] w fun e w' => e = .returned (.tuple #[.int .u8 r1, .int .u8 r2]) ∧ Below w.heap.size w w' := by
  have HB := Aside0.mk (Below.refl w.heap.size w)
  have H : ((charabancref06_turned.f a0 a1 a2).bind fun bt142 => (if bt142.2.2 = true then ((charabancref02_Even.f bt142.1).bind fun t145 => ((charabancref01_With.f k t145 0 bt142.2.1).bind fun t146 => (some (bt142.1, t146)))) else (some (a1, a2)))) = some (r1, r2) := h
  clear h
  replace H := Option.bind_eq_some_iff.mp H
  obtain ⟨⟨t142, t143, t144⟩, A40, H⟩ := H
  replace H : (if t144 = true then ((charabancref02_Even.f t142).bind fun t145 => ((charabancref01_With.f k t145 0 t143).bind fun t146 => (some (t142, t146)))) else (some (a1, a2))) = some (r1, r2) := H
  have A4 := Aside0.mk A40
  clear A40
  by_cases c5 : t144 = true
  · subst c5
    have H1 : ((charabancref02_Even.f t142).bind fun t145 => ((charabancref01_With.f k t145 0 t143).bind fun t146 => (some (t142, t146)))) = some (r1, r2) := by rw [if_pos rfl] at H; exact H
    clear H
    have H := H1
    clear H1
    replace H := Option.bind_eq_some_iff.mp H
    obtain ⟨t145, A60, H⟩ := H
    replace H : ((charabancref01_With.f k t145 0 t143).bind fun t146 => (some (t142, t146))) = some (r1, r2) := H
    have A6 := Aside0.mk A60
    clear A60
    replace H := Option.bind_eq_some_iff.mp H
    obtain ⟨t146, A70, H⟩ := H
    replace H : (some (t142, t146)) = some (r1, r2) := H
    have A7 := Aside0.mk A70
    clear A70
    simp only [Option.some.injEq, Prod.mk.injEq] at H
    obtain ⟨rfl, rfl⟩ := H
    go_enter Try.func24, Try.ntmps24
    go_wp2_with (first | ((with_reducible refine gate_callee (f := 42) rfl ?_); refine goesL_ (some 15) rfl rfl Try.func42 (by kernel_rfl) rfl #[.int .i64 a0, .int .u8 a1, .int .u8 a2] rfl (by (try simp only [List.map_toArray, List.map_cons, List.map_nil]); first | done | rfl | (simp only [List.length_drop, List.length_take]; rfl)) ?_; (with_reducible refine (charabancref06_turned.calls a0 a1 a2 t142 t143 true _ A4.out).mono ?_); rintro e w8 ⟨rfl, hb⟩; refine ⟨_, rfl, ?_⟩; have n0_ := Aside0.mk (below_step (by repeat (first | (with_reducible first | exact HB.out | apply below_alloc | apply pw_below_drewN | apply below_drew1) | exact HB.out)) hb); clear HB; have HB := n0_; clear n0_; (try clear hb); (try clear hb2); (try clear hk); (try clear hi)) | ((with_reducible refine gate_callee (f := 44) rfl ?_); refine goesL_ (some 25) rfl rfl Try.func44 (by kernel_rfl) rfl #[.int .u8 t142] rfl (by (try simp only [List.map_toArray, List.map_cons, List.map_nil]); first | done | rfl | (simp only [List.length_drop, List.length_take]; rfl)) ?_; (with_reducible refine (charabancref02_Even.calls t142 t145 _ A6.out).mono ?_); rintro e w9 ⟨rfl, hb⟩; refine ⟨_, rfl, ?_⟩; have n0_ := Aside0.mk (below_step (by repeat (first | (with_reducible first | exact HB.out | apply below_alloc | apply pw_below_drewN | apply below_drew1) | exact HB.out)) hb); clear HB; have HB := n0_; clear n0_; (try clear hb); (try clear hb2); (try clear hk); (try clear hi)) | ((with_reducible refine gate_callee (f := 43) rfl ?_); refine goesL_ (some 27) rfl rfl Try.func43 (by kernel_rfl) rfl #[.int .u8 t145, .int .i64 0, .bool t143] rfl (by (try simp only [List.map_toArray, List.map_cons, List.map_nil]); first | done | rfl | (simp only [List.length_drop, List.length_take]; rfl)) ?_; (with_reducible refine (charabancref01_With.calls k t145 0 t143 t146 _ A7.out).mono ?_); rintro e w' ⟨rfl, ⟨nd, rfl⟩⟩; refine ⟨_, rfl, ?_⟩))
    go_ret2
    exact ⟨by first | rfl | (simp [errW_none, errW_some] <;> rfl) | (simp [*, errW_none, errW_some] <;> rfl), by repeat (first | (with_reducible first | exact HB.out | apply below_alloc | apply pw_below_drewN | apply below_drew1) | exact HB.out)⟩
  · replace c5 := Bool.eq_false_iff.mpr c5
    subst c5
    have H1 : (some (a1, a2)) = some (r1, r2) := by rw [if_neg (show ¬ (false = true) by decide)] at H; exact H
    clear H
    have H := H1
    clear H1
    simp only [Option.some.injEq, Prod.mk.injEq] at H
    obtain ⟨rfl, rfl⟩ := H
    go_enter Try.func24, Try.ntmps24
    go_wp2_with (first | ((with_reducible refine gate_callee (f := 42) rfl ?_); refine goesL_ (some 15) rfl rfl Try.func42 (by kernel_rfl) rfl #[.int .i64 a0, .int .u8 a1, .int .u8 a2] rfl (by (try simp only [List.map_toArray, List.map_cons, List.map_nil]); first | done | rfl | (simp only [List.length_drop, List.length_take]; rfl)) ?_; (with_reducible refine (charabancref06_turned.calls a0 a1 a2 t142 t143 false _ A4.out).mono ?_); rintro e w10 ⟨rfl, hb⟩; refine ⟨_, rfl, ?_⟩; have n0_ := Aside0.mk (below_step (by repeat (first | (with_reducible first | exact HB.out | apply below_alloc | apply pw_below_drewN | apply below_drew1) | exact HB.out)) hb); clear HB; have HB := n0_; clear n0_; (try clear hb); (try clear hb2); (try clear hk); (try clear hi)))
    go_ret2
    exact ⟨by first | rfl | (simp [errW_none, errW_some] <;> rfl) | (simp [*, errW_none, errW_some] <;> rfl), by repeat (first | (with_reducible first | exact HB.out | apply below_alloc | apply pw_below_drewN | apply below_drew1) | exact HB.out)⟩

/-! ### charabancref06_Acc: function 26 -/
def charabancref06_Acc.f (a0 : Int) (a1 : Int) (a2 : Int) : Option (Int × Int) := if (0 ≤ a1 ∧ a1 ≤ 255) ∧ (0 ≤ a2 ∧ a2 ≤ 255) then some (M.raccR a0 a1 a2, M.raccF a0 a1 a2) else none
theorem charabancref06_Acc.calls (a0 : Int) (a1 : Int) (a2 : Int) (r1 : Int) (r2 : Int) (w : World) (h : charabancref06_Acc.f a0 a1 a2 = some (r1, r2)) :
    Calls Try.prog 26 #[.int .i64 a0, .int .u8 a1, .int .u8 a2] w fun e w' => e = .returned (.tuple #[.int .u8 r1, .int .u8 r2]) ∧ Below w.heap.size w w' := by
  unfold charabancref06_Acc.f at h
  split at h
  · rename_i hg
    simp only [Option.some.injEq, Prod.mk.injEq] at h
    obtain ⟨rfl, rfl⟩ := h
    exact refacc_any a0 a1 a2 (by omega) (by omega) (by omega) (by omega) w
  · cases h

/-! ### charabanclaw06_ShiftDoes: function 7 -/
def charabanclaw06_ShiftDoes.f (k : Nat) (a0 : Int) (a1 : Int) (a2 : Int) : Option (Bool) := (charabanclaw06_awake.f).bind fun t147 => (if t147 = true then ((shift_Do.f a0 a1 a2).bind fun bt148 => ((charabancref06_Do.f k a0 a1 a2).bind fun bt150 => ((shift_Acc.f a0 a1 a2).bind fun bt152 => ((charabancref06_Acc.f a0 a1 a2).bind fun bt154 => (if bt148.1 = bt150.1 then (if bt148.2 = bt150.2 then (if bt152.1 = bt154.1 then (some (bt152.2 == bt154.2)) else (some false)) else (some false)) else (some false)))))) else (some false))
theorem charabanclaw06_ShiftDoes.mono : ∀ a0 a1 a2 k, LeO (charabanclaw06_ShiftDoes.f k a0 a1 a2) (charabanclaw06_ShiftDoes.f (k + 1) a0 a1 a2) := by
  intro a0 a1 a2 k
  unfold charabanclaw06_ShiftDoes.f
  repeat' first
      | (with_reducible exact charabancref06_Do.mono _ _ _ _)
      | (with_reducible exact LeO.refl _)
      | (with_reducible exact LeO.none _)
      | (with_reducible refine LeO.ite ?_ ?_)
      | (with_reducible refine LeO.bind ?_ (fun _ => ?_))
      | exact charabancref06_Do.mono _ _ _ _
      | exact LeO.none _
      | refine LeO.ite ?_ ?_
      | refine LeO.bind ?_ (fun _ => ?_)
set_option maxHeartbeats 8000000 in
set_option maxRecDepth 100000 in
theorem charabanclaw06_ShiftDoes.calls (k : Nat) (a0 : Int) (a1 : Int) (a2 : Int) (r : Bool) (w : World) (h : charabanclaw06_ShiftDoes.f k a0 a1 a2 = some r) :
    Calls Try.prog 7 #[.int .i64 a0, .int .u8 a1, .int .u8 a2] w fun e w' => e = .returned (.bool r) ∧ Below w.heap.size w w' := by
  have HB := Aside0.mk (Below.refl w.heap.size w)
  have H : ((charabanclaw06_awake.f).bind fun t147 => (if t147 = true then ((shift_Do.f a0 a1 a2).bind fun bt148 => ((charabancref06_Do.f k a0 a1 a2).bind fun bt150 => ((shift_Acc.f a0 a1 a2).bind fun bt152 => ((charabancref06_Acc.f a0 a1 a2).bind fun bt154 => (if bt148.1 = bt150.1 then (if bt148.2 = bt150.2 then (if bt152.1 = bt154.1 then (some (bt152.2 == bt154.2)) else (some false)) else (some false)) else (some false)))))) else (some false))) = some r := h
  clear h
  replace H := Option.bind_eq_some_iff.mp H
  obtain ⟨t147, A40, H⟩ := H
  replace H : (if t147 = true then ((shift_Do.f a0 a1 a2).bind fun bt148 => ((charabancref06_Do.f k a0 a1 a2).bind fun bt150 => ((shift_Acc.f a0 a1 a2).bind fun bt152 => ((charabancref06_Acc.f a0 a1 a2).bind fun bt154 => (if bt148.1 = bt150.1 then (if bt148.2 = bt150.2 then (if bt152.1 = bt154.1 then (some (bt152.2 == bt154.2)) else (some false)) else (some false)) else (some false)))))) else (some false)) = some r := H
  have A4 := Aside0.mk A40
  clear A40
  by_cases c5 : t147 = true
  · subst c5
    have H1 : ((shift_Do.f a0 a1 a2).bind fun bt148 => ((charabancref06_Do.f k a0 a1 a2).bind fun bt150 => ((shift_Acc.f a0 a1 a2).bind fun bt152 => ((charabancref06_Acc.f a0 a1 a2).bind fun bt154 => (if bt148.1 = bt150.1 then (if bt148.2 = bt150.2 then (if bt152.1 = bt154.1 then (some (bt152.2 == bt154.2)) else (some false)) else (some false)) else (some false)))))) = some r := by rw [if_pos rfl] at H; exact H
    clear H
    have H := H1
    clear H1
    replace H := Option.bind_eq_some_iff.mp H
    obtain ⟨⟨t148, t149⟩, A60, H⟩ := H
    replace H : ((charabancref06_Do.f k a0 a1 a2).bind fun bt150 => ((shift_Acc.f a0 a1 a2).bind fun bt152 => ((charabancref06_Acc.f a0 a1 a2).bind fun bt154 => (if t148 = bt150.1 then (if t149 = bt150.2 then (if bt152.1 = bt154.1 then (some (bt152.2 == bt154.2)) else (some false)) else (some false)) else (some false))))) = some r := H
    have A6 := Aside0.mk A60
    clear A60
    replace H := Option.bind_eq_some_iff.mp H
    obtain ⟨⟨t150, t151⟩, A70, H⟩ := H
    replace H : ((shift_Acc.f a0 a1 a2).bind fun bt152 => ((charabancref06_Acc.f a0 a1 a2).bind fun bt154 => (if t148 = t150 then (if t149 = t151 then (if bt152.1 = bt154.1 then (some (bt152.2 == bt154.2)) else (some false)) else (some false)) else (some false)))) = some r := H
    have A7 := Aside0.mk A70
    clear A70
    replace H := Option.bind_eq_some_iff.mp H
    obtain ⟨⟨t152, t153⟩, A80, H⟩ := H
    replace H : ((charabancref06_Acc.f a0 a1 a2).bind fun bt154 => (if t148 = t150 then (if t149 = t151 then (if t152 = bt154.1 then (some (t153 == bt154.2)) else (some false)) else (some false)) else (some false))) = some r := H
    have A8 := Aside0.mk A80
    clear A80
    replace H := Option.bind_eq_some_iff.mp H
    obtain ⟨⟨t154, t155⟩, A90, H⟩ := H
    replace H : (if t148 = t150 then (if t149 = t151 then (if t152 = t154 then (some (t153 == t155)) else (some false)) else (some false)) else (some false)) = some r := H
    have A9 := Aside0.mk A90
    clear A90
    by_cases c10 : t148 = t150
    · rw [if_pos c10] at H
      have c10b0 : (t148 == t150) = true := beq_iff_eq.mpr c10
      have c10b1 : (t148 != t150) = false := bne_eq_false_iff_eq.mpr c10
      clear c10
      by_cases c11 : t149 = t151
      · rw [if_pos c11] at H
        have c11b0 : (t149 == t151) = true := beq_iff_eq.mpr c11
        have c11b1 : (t149 != t151) = false := bne_eq_false_iff_eq.mpr c11
        clear c11
        by_cases c12 : t152 = t154
        · rw [if_pos c12] at H
          have c12b0 : (t152 == t154) = true := beq_iff_eq.mpr c12
          have c12b1 : (t152 != t154) = false := bne_eq_false_iff_eq.mpr c12
          clear c12
          obtain rfl := Option.some.inj H
          go_enter Try.func7, Try.ntmps7
          go_wp2_with (first | ((with_reducible refine gate_callee (f := 22) rfl ?_); refine goesL_ (some 16) rfl rfl Try.func22 (by kernel_rfl) rfl #[] rfl (by (try simp only [List.map_toArray, List.map_cons, List.map_nil]); first | done | rfl | (simp only [List.length_drop, List.length_take]; rfl)) ?_; (with_reducible refine (charabanclaw06_awake.calls  true _ A4.out).mono ?_); rintro e w13 ⟨rfl, hb⟩; refine ⟨_, rfl, ?_⟩; have n0_ := Aside0.mk (below_step (by repeat (first | (with_reducible first | exact HB.out | apply below_alloc | apply pw_below_drewN | apply below_drew1) | exact HB.out)) hb); clear HB; have HB := n0_; clear n0_; (try clear hb); (try clear hb2); (try clear hk); (try clear hi)) | ((with_reducible refine gate_callee (f := 23) rfl ?_); refine goesL_ (some 23) rfl rfl Try.func23 (by kernel_rfl) rfl #[.int .i64 a0, .int .u8 a1, .int .u8 a2] rfl (by (try simp only [List.map_toArray, List.map_cons, List.map_nil]); first | done | rfl | (simp only [List.length_drop, List.length_take]; rfl)) ?_; (with_reducible refine (shift_Do.calls a0 a1 a2 t148 t149 _ A6.out).mono ?_); rintro e w14 ⟨rfl, hb⟩; refine ⟨_, rfl, ?_⟩; have n0_ := Aside0.mk (below_step (by repeat (first | (with_reducible first | exact HB.out | apply below_alloc | apply pw_below_drewN | apply below_drew1) | exact HB.out)) hb); clear HB; have HB := n0_; clear n0_; (try clear hb); (try clear hb2); (try clear hk); (try clear hi)) | ((with_reducible refine gate_callee (f := 24) rfl ?_); refine goesL_ (some 30) rfl rfl Try.func24 (by kernel_rfl) rfl #[.int .i64 a0, .int .u8 a1, .int .u8 a2] rfl (by (try simp only [List.map_toArray, List.map_cons, List.map_nil]); first | done | rfl | (simp only [List.length_drop, List.length_take]; rfl)) ?_; (with_reducible refine (charabancref06_Do.calls k a0 a1 a2 t150 t151 _ A7.out).mono ?_); rintro e w15 ⟨rfl, hb⟩; refine ⟨_, rfl, ?_⟩; have n0_ := Aside0.mk (below_step (by repeat (first | (with_reducible first | exact HB.out | apply below_alloc | apply pw_below_drewN | apply below_drew1) | exact HB.out)) hb); clear HB; have HB := n0_; clear n0_; (try clear hb); (try clear hb2); (try clear hk); (try clear hi)) | ((with_reducible refine gate_callee (f := 25) rfl ?_); refine goesL_ (some 37) rfl rfl Try.func25 (by kernel_rfl) rfl #[.int .i64 a0, .int .u8 a1, .int .u8 a2] rfl (by (try simp only [List.map_toArray, List.map_cons, List.map_nil]); first | done | rfl | (simp only [List.length_drop, List.length_take]; rfl)) ?_; (with_reducible refine (shift_Acc.calls a0 a1 a2 t152 t153 _ A8.out).mono ?_); rintro e w16 ⟨rfl, hb⟩; refine ⟨_, rfl, ?_⟩; have n0_ := Aside0.mk (below_step (by repeat (first | (with_reducible first | exact HB.out | apply below_alloc | apply pw_below_drewN | apply below_drew1) | exact HB.out)) hb); clear HB; have HB := n0_; clear n0_; (try clear hb); (try clear hb2); (try clear hk); (try clear hi)) | ((with_reducible refine gate_callee (f := 26) rfl ?_); refine goesL_ (some 44) rfl rfl Try.func26 (by kernel_rfl) rfl #[.int .i64 a0, .int .u8 a1, .int .u8 a2] rfl (by (try simp only [List.map_toArray, List.map_cons, List.map_nil]); first | done | rfl | (simp only [List.length_drop, List.length_take]; rfl)) ?_; (with_reducible refine (charabancref06_Acc.calls a0 a1 a2 t154 t155 _ A9.out).mono ?_); rintro e w17 ⟨rfl, hb⟩; refine ⟨_, rfl, ?_⟩; have n0_ := Aside0.mk (below_step (by repeat (first | (with_reducible first | exact HB.out | apply below_alloc | apply pw_below_drewN | apply below_drew1) | exact HB.out)) hb); clear HB; have HB := n0_; clear n0_; (try clear hb); (try clear hb2); (try clear hk); (try clear hi)))
          go_ret
          exact ⟨by first | rfl | (simp [errW_none, errW_some] <;> rfl) | (simp [*, errW_none, errW_some] <;> rfl), by repeat (first | (with_reducible first | exact HB.out | apply below_alloc | apply pw_below_drewN | apply below_drew1) | exact HB.out)⟩
        · rw [if_neg c12] at H
          have c12b0 : (t152 == t154) = false := beq_eq_false_iff_ne.mpr c12
          have c12b1 : (t152 != t154) = true := bne_iff_ne.mpr c12
          obtain rfl := Option.some.inj H
          go_enter Try.func7, Try.ntmps7
          go_wp2_with (first | ((with_reducible refine gate_callee (f := 22) rfl ?_); refine goesL_ (some 16) rfl rfl Try.func22 (by kernel_rfl) rfl #[] rfl (by (try simp only [List.map_toArray, List.map_cons, List.map_nil]); first | done | rfl | (simp only [List.length_drop, List.length_take]; rfl)) ?_; (with_reducible refine (charabanclaw06_awake.calls  true _ A4.out).mono ?_); rintro e w18 ⟨rfl, hb⟩; refine ⟨_, rfl, ?_⟩; have n0_ := Aside0.mk (below_step (by repeat (first | (with_reducible first | exact HB.out | apply below_alloc | apply pw_below_drewN | apply below_drew1) | exact HB.out)) hb); clear HB; have HB := n0_; clear n0_; (try clear hb); (try clear hb2); (try clear hk); (try clear hi)) | ((with_reducible refine gate_callee (f := 23) rfl ?_); refine goesL_ (some 23) rfl rfl Try.func23 (by kernel_rfl) rfl #[.int .i64 a0, .int .u8 a1, .int .u8 a2] rfl (by (try simp only [List.map_toArray, List.map_cons, List.map_nil]); first | done | rfl | (simp only [List.length_drop, List.length_take]; rfl)) ?_; (with_reducible refine (shift_Do.calls a0 a1 a2 t148 t149 _ A6.out).mono ?_); rintro e w19 ⟨rfl, hb⟩; refine ⟨_, rfl, ?_⟩; have n0_ := Aside0.mk (below_step (by repeat (first | (with_reducible first | exact HB.out | apply below_alloc | apply pw_below_drewN | apply below_drew1) | exact HB.out)) hb); clear HB; have HB := n0_; clear n0_; (try clear hb); (try clear hb2); (try clear hk); (try clear hi)) | ((with_reducible refine gate_callee (f := 24) rfl ?_); refine goesL_ (some 30) rfl rfl Try.func24 (by kernel_rfl) rfl #[.int .i64 a0, .int .u8 a1, .int .u8 a2] rfl (by (try simp only [List.map_toArray, List.map_cons, List.map_nil]); first | done | rfl | (simp only [List.length_drop, List.length_take]; rfl)) ?_; (with_reducible refine (charabancref06_Do.calls k a0 a1 a2 t150 t151 _ A7.out).mono ?_); rintro e w20 ⟨rfl, hb⟩; refine ⟨_, rfl, ?_⟩; have n0_ := Aside0.mk (below_step (by repeat (first | (with_reducible first | exact HB.out | apply below_alloc | apply pw_below_drewN | apply below_drew1) | exact HB.out)) hb); clear HB; have HB := n0_; clear n0_; (try clear hb); (try clear hb2); (try clear hk); (try clear hi)) | ((with_reducible refine gate_callee (f := 25) rfl ?_); refine goesL_ (some 37) rfl rfl Try.func25 (by kernel_rfl) rfl #[.int .i64 a0, .int .u8 a1, .int .u8 a2] rfl (by (try simp only [List.map_toArray, List.map_cons, List.map_nil]); first | done | rfl | (simp only [List.length_drop, List.length_take]; rfl)) ?_; (with_reducible refine (shift_Acc.calls a0 a1 a2 t152 t153 _ A8.out).mono ?_); rintro e w21 ⟨rfl, hb⟩; refine ⟨_, rfl, ?_⟩; have n0_ := Aside0.mk (below_step (by repeat (first | (with_reducible first | exact HB.out | apply below_alloc | apply pw_below_drewN | apply below_drew1) | exact HB.out)) hb); clear HB; have HB := n0_; clear n0_; (try clear hb); (try clear hb2); (try clear hk); (try clear hi)) | ((with_reducible refine gate_callee (f := 26) rfl ?_); refine goesL_ (some 44) rfl rfl Try.func26 (by kernel_rfl) rfl #[.int .i64 a0, .int .u8 a1, .int .u8 a2] rfl (by (try simp only [List.map_toArray, List.map_cons, List.map_nil]); first | done | rfl | (simp only [List.length_drop, List.length_take]; rfl)) ?_; (with_reducible refine (charabancref06_Acc.calls a0 a1 a2 t154 t155 _ A9.out).mono ?_); rintro e w22 ⟨rfl, hb⟩; refine ⟨_, rfl, ?_⟩; have n0_ := Aside0.mk (below_step (by repeat (first | (with_reducible first | exact HB.out | apply below_alloc | apply pw_below_drewN | apply below_drew1) | exact HB.out)) hb); clear HB; have HB := n0_; clear n0_; (try clear hb); (try clear hb2); (try clear hk); (try clear hi)))
          go_ret
          exact ⟨by first | rfl | (simp [errW_none, errW_some] <;> rfl) | (simp [*, errW_none, errW_some] <;> rfl), by repeat (first | (with_reducible first | exact HB.out | apply below_alloc | apply pw_below_drewN | apply below_drew1) | exact HB.out)⟩
      · rw [if_neg c11] at H
        have c11b0 : (t149 == t151) = false := beq_eq_false_iff_ne.mpr c11
        have c11b1 : (t149 != t151) = true := bne_iff_ne.mpr c11
        obtain rfl := Option.some.inj H
        go_enter Try.func7, Try.ntmps7
        go_wp2_with (first | ((with_reducible refine gate_callee (f := 22) rfl ?_); refine goesL_ (some 16) rfl rfl Try.func22 (by kernel_rfl) rfl #[] rfl (by (try simp only [List.map_toArray, List.map_cons, List.map_nil]); first | done | rfl | (simp only [List.length_drop, List.length_take]; rfl)) ?_; (with_reducible refine (charabanclaw06_awake.calls  true _ A4.out).mono ?_); rintro e w23 ⟨rfl, hb⟩; refine ⟨_, rfl, ?_⟩; have n0_ := Aside0.mk (below_step (by repeat (first | (with_reducible first | exact HB.out | apply below_alloc | apply pw_below_drewN | apply below_drew1) | exact HB.out)) hb); clear HB; have HB := n0_; clear n0_; (try clear hb); (try clear hb2); (try clear hk); (try clear hi)) | ((with_reducible refine gate_callee (f := 23) rfl ?_); refine goesL_ (some 23) rfl rfl Try.func23 (by kernel_rfl) rfl #[.int .i64 a0, .int .u8 a1, .int .u8 a2] rfl (by (try simp only [List.map_toArray, List.map_cons, List.map_nil]); first | done | rfl | (simp only [List.length_drop, List.length_take]; rfl)) ?_; (with_reducible refine (shift_Do.calls a0 a1 a2 t148 t149 _ A6.out).mono ?_); rintro e w24 ⟨rfl, hb⟩; refine ⟨_, rfl, ?_⟩; have n0_ := Aside0.mk (below_step (by repeat (first | (with_reducible first | exact HB.out | apply below_alloc | apply pw_below_drewN | apply below_drew1) | exact HB.out)) hb); clear HB; have HB := n0_; clear n0_; (try clear hb); (try clear hb2); (try clear hk); (try clear hi)) | ((with_reducible refine gate_callee (f := 24) rfl ?_); refine goesL_ (some 30) rfl rfl Try.func24 (by kernel_rfl) rfl #[.int .i64 a0, .int .u8 a1, .int .u8 a2] rfl (by (try simp only [List.map_toArray, List.map_cons, List.map_nil]); first | done | rfl | (simp only [List.length_drop, List.length_take]; rfl)) ?_; (with_reducible refine (charabancref06_Do.calls k a0 a1 a2 t150 t151 _ A7.out).mono ?_); rintro e w25 ⟨rfl, hb⟩; refine ⟨_, rfl, ?_⟩; have n0_ := Aside0.mk (below_step (by repeat (first | (with_reducible first | exact HB.out | apply below_alloc | apply pw_below_drewN | apply below_drew1) | exact HB.out)) hb); clear HB; have HB := n0_; clear n0_; (try clear hb); (try clear hb2); (try clear hk); (try clear hi)) | ((with_reducible refine gate_callee (f := 25) rfl ?_); refine goesL_ (some 37) rfl rfl Try.func25 (by kernel_rfl) rfl #[.int .i64 a0, .int .u8 a1, .int .u8 a2] rfl (by (try simp only [List.map_toArray, List.map_cons, List.map_nil]); first | done | rfl | (simp only [List.length_drop, List.length_take]; rfl)) ?_; (with_reducible refine (shift_Acc.calls a0 a1 a2 t152 t153 _ A8.out).mono ?_); rintro e w26 ⟨rfl, hb⟩; refine ⟨_, rfl, ?_⟩; have n0_ := Aside0.mk (below_step (by repeat (first | (with_reducible first | exact HB.out | apply below_alloc | apply pw_below_drewN | apply below_drew1) | exact HB.out)) hb); clear HB; have HB := n0_; clear n0_; (try clear hb); (try clear hb2); (try clear hk); (try clear hi)) | ((with_reducible refine gate_callee (f := 26) rfl ?_); refine goesL_ (some 44) rfl rfl Try.func26 (by kernel_rfl) rfl #[.int .i64 a0, .int .u8 a1, .int .u8 a2] rfl (by (try simp only [List.map_toArray, List.map_cons, List.map_nil]); first | done | rfl | (simp only [List.length_drop, List.length_take]; rfl)) ?_; (with_reducible refine (charabancref06_Acc.calls a0 a1 a2 t154 t155 _ A9.out).mono ?_); rintro e w27 ⟨rfl, hb⟩; refine ⟨_, rfl, ?_⟩; have n0_ := Aside0.mk (below_step (by repeat (first | (with_reducible first | exact HB.out | apply below_alloc | apply pw_below_drewN | apply below_drew1) | exact HB.out)) hb); clear HB; have HB := n0_; clear n0_; (try clear hb); (try clear hb2); (try clear hk); (try clear hi)))
        go_ret
        exact ⟨by first | rfl | (simp [errW_none, errW_some] <;> rfl) | (simp [*, errW_none, errW_some] <;> rfl), by repeat (first | (with_reducible first | exact HB.out | apply below_alloc | apply pw_below_drewN | apply below_drew1) | exact HB.out)⟩
    · rw [if_neg c10] at H
      have c10b0 : (t148 == t150) = false := beq_eq_false_iff_ne.mpr c10
      have c10b1 : (t148 != t150) = true := bne_iff_ne.mpr c10
      obtain rfl := Option.some.inj H
      go_enter Try.func7, Try.ntmps7
      go_wp2_with (first | ((with_reducible refine gate_callee (f := 22) rfl ?_); refine goesL_ (some 16) rfl rfl Try.func22 (by kernel_rfl) rfl #[] rfl (by (try simp only [List.map_toArray, List.map_cons, List.map_nil]); first | done | rfl | (simp only [List.length_drop, List.length_take]; rfl)) ?_; (with_reducible refine (charabanclaw06_awake.calls  true _ A4.out).mono ?_); rintro e w28 ⟨rfl, hb⟩; refine ⟨_, rfl, ?_⟩; have n0_ := Aside0.mk (below_step (by repeat (first | (with_reducible first | exact HB.out | apply below_alloc | apply pw_below_drewN | apply below_drew1) | exact HB.out)) hb); clear HB; have HB := n0_; clear n0_; (try clear hb); (try clear hb2); (try clear hk); (try clear hi)) | ((with_reducible refine gate_callee (f := 23) rfl ?_); refine goesL_ (some 23) rfl rfl Try.func23 (by kernel_rfl) rfl #[.int .i64 a0, .int .u8 a1, .int .u8 a2] rfl (by (try simp only [List.map_toArray, List.map_cons, List.map_nil]); first | done | rfl | (simp only [List.length_drop, List.length_take]; rfl)) ?_; (with_reducible refine (shift_Do.calls a0 a1 a2 t148 t149 _ A6.out).mono ?_); rintro e w29 ⟨rfl, hb⟩; refine ⟨_, rfl, ?_⟩; have n0_ := Aside0.mk (below_step (by repeat (first | (with_reducible first | exact HB.out | apply below_alloc | apply pw_below_drewN | apply below_drew1) | exact HB.out)) hb); clear HB; have HB := n0_; clear n0_; (try clear hb); (try clear hb2); (try clear hk); (try clear hi)) | ((with_reducible refine gate_callee (f := 24) rfl ?_); refine goesL_ (some 30) rfl rfl Try.func24 (by kernel_rfl) rfl #[.int .i64 a0, .int .u8 a1, .int .u8 a2] rfl (by (try simp only [List.map_toArray, List.map_cons, List.map_nil]); first | done | rfl | (simp only [List.length_drop, List.length_take]; rfl)) ?_; (with_reducible refine (charabancref06_Do.calls k a0 a1 a2 t150 t151 _ A7.out).mono ?_); rintro e w30 ⟨rfl, hb⟩; refine ⟨_, rfl, ?_⟩; have n0_ := Aside0.mk (below_step (by repeat (first | (with_reducible first | exact HB.out | apply below_alloc | apply pw_below_drewN | apply below_drew1) | exact HB.out)) hb); clear HB; have HB := n0_; clear n0_; (try clear hb); (try clear hb2); (try clear hk); (try clear hi)) | ((with_reducible refine gate_callee (f := 25) rfl ?_); refine goesL_ (some 37) rfl rfl Try.func25 (by kernel_rfl) rfl #[.int .i64 a0, .int .u8 a1, .int .u8 a2] rfl (by (try simp only [List.map_toArray, List.map_cons, List.map_nil]); first | done | rfl | (simp only [List.length_drop, List.length_take]; rfl)) ?_; (with_reducible refine (shift_Acc.calls a0 a1 a2 t152 t153 _ A8.out).mono ?_); rintro e w31 ⟨rfl, hb⟩; refine ⟨_, rfl, ?_⟩; have n0_ := Aside0.mk (below_step (by repeat (first | (with_reducible first | exact HB.out | apply below_alloc | apply pw_below_drewN | apply below_drew1) | exact HB.out)) hb); clear HB; have HB := n0_; clear n0_; (try clear hb); (try clear hb2); (try clear hk); (try clear hi)) | ((with_reducible refine gate_callee (f := 26) rfl ?_); refine goesL_ (some 44) rfl rfl Try.func26 (by kernel_rfl) rfl #[.int .i64 a0, .int .u8 a1, .int .u8 a2] rfl (by (try simp only [List.map_toArray, List.map_cons, List.map_nil]); first | done | rfl | (simp only [List.length_drop, List.length_take]; rfl)) ?_; (with_reducible refine (charabancref06_Acc.calls a0 a1 a2 t154 t155 _ A9.out).mono ?_); rintro e w32 ⟨rfl, hb⟩; refine ⟨_, rfl, ?_⟩; have n0_ := Aside0.mk (below_step (by repeat (first | (with_reducible first | exact HB.out | apply below_alloc | apply pw_below_drewN | apply below_drew1) | exact HB.out)) hb); clear HB; have HB := n0_; clear n0_; (try clear hb); (try clear hb2); (try clear hk); (try clear hi)))
      go_ret
      exact ⟨by first | rfl | (simp [errW_none, errW_some] <;> rfl) | (simp [*, errW_none, errW_some] <;> rfl), by repeat (first | (with_reducible first | exact HB.out | apply below_alloc | apply pw_below_drewN | apply below_drew1) | exact HB.out)⟩
  · replace c5 := Bool.eq_false_iff.mpr c5
    subst c5
    have H1 : (some false) = some r := by rw [if_neg (show ¬ (false = true) by decide)] at H; exact H
    clear H
    have H := H1
    clear H1
    obtain rfl := Option.some.inj H
    go_enter Try.func7, Try.ntmps7
    go_wp2_with (first | ((with_reducible refine gate_callee (f := 22) rfl ?_); refine goesL_ (some 16) rfl rfl Try.func22 (by kernel_rfl) rfl #[] rfl (by (try simp only [List.map_toArray, List.map_cons, List.map_nil]); first | done | rfl | (simp only [List.length_drop, List.length_take]; rfl)) ?_; (with_reducible refine (charabanclaw06_awake.calls  false _ A4.out).mono ?_); rintro e w33 ⟨rfl, hb⟩; refine ⟨_, rfl, ?_⟩; have n0_ := Aside0.mk (below_step (by repeat (first | (with_reducible first | exact HB.out | apply below_alloc | apply pw_below_drewN | apply below_drew1) | exact HB.out)) hb); clear HB; have HB := n0_; clear n0_; (try clear hb); (try clear hb2); (try clear hk); (try clear hi)))
    go_ret
    exact ⟨by first | rfl | (simp [errW_none, errW_some] <;> rfl) | (simp [*, errW_none, errW_some] <;> rfl), by repeat (first | (with_reducible first | exact HB.out | apply below_alloc | apply pw_below_drewN | apply below_drew1) | exact HB.out)⟩

/-- THE ONE PURE STATEMENT of charabanclaw06_ShiftDoes: yours. -/
def charabanclaw06_ShiftDoes.Pure : Prop := ∀ (a0 : Int) (a1 : Int) (a2 : Int), (Lit.int .i64 a0).wf = true → (Lit.int .u8 a1).wf = true → (Lit.int .u8 a2).wf = true → ∃ k, charabanclaw06_ShiftDoes.f k a0 a1 a2 = some true
theorem charabanclaw06_ShiftDoes.walk (P : charabanclaw06_ShiftDoes.Pure) (a0 : Int) (a1 : Int) (a2 : Int) (w : World) (w0 : (Lit.int .i64 a0).wf = true) (w1 : (Lit.int .u8 a1).wf = true) (w2 : (Lit.int .u8 a2).wf = true) :
    Calls Try.prog 7 #[.int .i64 a0, .int .u8 a1, .int .u8 a2] w fun e w' => e = .returned (.bool true) ∧ Below w.heap.size w w' := by
  obtain ⟨k, h⟩ := P a0 a1 a2 w0 w1 w2
  refine (charabanclaw06_ShiftDoes.calls k a0 a1 a2 true w h).mono ?_
  rintro e w' ⟨rfl, hd⟩
  exact ⟨rfl, hd⟩

/-! ### charabancref06_Digit: function 28 -/
def charabancref06_Digit.f (k : Nat) (a0 : Bool) (a1 : Int) (a2 : Int) (a3 : Int) : Option (Int × Int × Int) := if a0 = true then ((charabancref02_Even.f ((((((Int.tdiv a1 16) % 256) * 16) % 256) + (Int.tmod a2 16)) % 256)).bind fun t156 => ((charabancref01_Is.f k a3 0).bind fun t157 => ((charabancref01_With.f k t156 0 t157).bind fun t158 => (some ((((((Int.tdiv a1 16) % 256) * 16) % 256) + (Int.tmod a2 16)) % 256, ((((Int.tmod a1 16) * 16) % 256) + ((Int.tdiv a2 16) % 256)) % 256, t158))))) else ((charabancref02_Even.f ((((((Int.tdiv a1 16) % 256) * 16) % 256) + ((Int.tdiv a2 16) % 256)) % 256)).bind fun t159 => ((charabancref01_Is.f k a3 0).bind fun t160 => ((charabancref01_With.f k t159 0 t160).bind fun t161 => (some ((((((Int.tdiv a1 16) % 256) * 16) % 256) + ((Int.tdiv a2 16) % 256)) % 256, ((((Int.tmod a2 16) * 16) % 256) + (Int.tmod a1 16)) % 256, t161)))))
theorem charabancref06_Digit.mono : ∀ a0 a1 a2 a3 k, LeO (charabancref06_Digit.f k a0 a1 a2 a3) (charabancref06_Digit.f (k + 1) a0 a1 a2 a3) := by
  intro a0 a1 a2 a3 k
  unfold charabancref06_Digit.f
  repeat' first
      | (with_reducible exact charabancref01_Is.mono _ _ _)
      | (with_reducible exact charabancref01_With.mono _ _ _ _)
      | (with_reducible exact LeO.refl _)
      | (with_reducible exact LeO.none _)
      | (with_reducible refine LeO.ite ?_ ?_)
      | (with_reducible refine LeO.bind ?_ (fun _ => ?_))
      | exact charabancref01_Is.mono _ _ _
      | exact charabancref01_With.mono _ _ _ _
      | exact LeO.none _
      | refine LeO.ite ?_ ?_
      | refine LeO.bind ?_ (fun _ => ?_)
set_option maxHeartbeats 8000000 in
set_option maxRecDepth 100000 in
theorem charabancref06_Digit.calls (k : Nat) (a0 : Bool) (a1 : Int) (a2 : Int) (a3 : Int) (r1 : Int) (r2 : Int) (r3 : Int) (w : World) (h : charabancref06_Digit.f k a0 a1 a2 a3 = some (r1, r2, r3)) :
    Calls Try.prog 28 #[.bool a0, .int .u8 a1, .int .u8 a2, .int .u8 a3] w fun e w' => e = .returned (.tuple #[.int .u8 r1, .int .u8 r2, .int .u8 r3]) ∧ Below w.heap.size w w' := by
  have HB := Aside0.mk (Below.refl w.heap.size w)
  have H : (if a0 = true then ((charabancref02_Even.f ((((((Int.tdiv a1 16) % 256) * 16) % 256) + (Int.tmod a2 16)) % 256)).bind fun t156 => ((charabancref01_Is.f k a3 0).bind fun t157 => ((charabancref01_With.f k t156 0 t157).bind fun t158 => (some ((((((Int.tdiv a1 16) % 256) * 16) % 256) + (Int.tmod a2 16)) % 256, ((((Int.tmod a1 16) * 16) % 256) + ((Int.tdiv a2 16) % 256)) % 256, t158))))) else ((charabancref02_Even.f ((((((Int.tdiv a1 16) % 256) * 16) % 256) + ((Int.tdiv a2 16) % 256)) % 256)).bind fun t159 => ((charabancref01_Is.f k a3 0).bind fun t160 => ((charabancref01_With.f k t159 0 t160).bind fun t161 => (some ((((((Int.tdiv a1 16) % 256) * 16) % 256) + ((Int.tdiv a2 16) % 256)) % 256, ((((Int.tmod a2 16) * 16) % 256) + (Int.tmod a1 16)) % 256, t161)))))) = some (r1, r2, r3) := h
  clear h
  by_cases c5 : a0 = true
  · subst c5
    have H1 : ((charabancref02_Even.f ((((((Int.tdiv a1 16) % 256) * 16) % 256) + (Int.tmod a2 16)) % 256)).bind fun t156 => ((charabancref01_Is.f k a3 0).bind fun t157 => ((charabancref01_With.f k t156 0 t157).bind fun t158 => (some ((((((Int.tdiv a1 16) % 256) * 16) % 256) + (Int.tmod a2 16)) % 256, ((((Int.tmod a1 16) * 16) % 256) + ((Int.tdiv a2 16) % 256)) % 256, t158))))) = some (r1, r2, r3) := by rw [if_pos rfl] at H; exact H
    clear H
    have H := H1
    clear H1
    replace H := Option.bind_eq_some_iff.mp H
    obtain ⟨t156, A60, H⟩ := H
    replace H : ((charabancref01_Is.f k a3 0).bind fun t157 => ((charabancref01_With.f k t156 0 t157).bind fun t158 => (some ((((((Int.tdiv a1 16) % 256) * 16) % 256) + (Int.tmod a2 16)) % 256, ((((Int.tmod a1 16) * 16) % 256) + ((Int.tdiv a2 16) % 256)) % 256, t158)))) = some (r1, r2, r3) := H
    have A6 := Aside0.mk A60
    clear A60
    replace H := Option.bind_eq_some_iff.mp H
    obtain ⟨t157, A70, H⟩ := H
    replace H : ((charabancref01_With.f k t156 0 t157).bind fun t158 => (some ((((((Int.tdiv a1 16) % 256) * 16) % 256) + (Int.tmod a2 16)) % 256, ((((Int.tmod a1 16) * 16) % 256) + ((Int.tdiv a2 16) % 256)) % 256, t158))) = some (r1, r2, r3) := H
    have A7 := Aside0.mk A70
    clear A70
    replace H := Option.bind_eq_some_iff.mp H
    obtain ⟨t158, A80, H⟩ := H
    replace H : (some ((((((Int.tdiv a1 16) % 256) * 16) % 256) + (Int.tmod a2 16)) % 256, ((((Int.tmod a1 16) * 16) % 256) + ((Int.tdiv a2 16) % 256)) % 256, t158)) = some (r1, r2, r3) := H
    have A8 := Aside0.mk A80
    clear A80
    simp only [Option.some.injEq, Prod.mk.injEq] at H
    obtain ⟨rfl, rfl, rfl⟩ := H
    go_enter Try.func28, Try.ntmps28
    go_wp2_with (first | ((with_reducible refine gate_callee (f := 44) rfl ?_); refine goesL_ (some 42) rfl rfl Try.func44 (by kernel_rfl) rfl #[.int .u8 ((((((Int.tdiv a1 16) % 256) * 16) % 256) + (Int.tmod a2 16)) % 256)] rfl (by (try simp only [List.map_toArray, List.map_cons, List.map_nil]); first | done | rfl | (simp only [List.length_drop, List.length_take]; rfl)) ?_; (with_reducible refine (charabancref02_Even.calls ((((((Int.tdiv a1 16) % 256) * 16) % 256) + (Int.tmod a2 16)) % 256) t156 _ A6.out).mono ?_); rintro e w9 ⟨rfl, hb⟩; refine ⟨_, rfl, ?_⟩; have n0_ := Aside0.mk (below_step (by repeat (first | (with_reducible first | exact HB.out | apply below_alloc | apply pw_below_drewN | apply below_drew1) | exact HB.out)) hb); clear HB; have HB := n0_; clear n0_; (try clear hb); (try clear hb2); (try clear hk); (try clear hi)) | ((with_reducible refine gate_callee (f := 34) rfl ?_); refine goesL_ (some 44) rfl rfl Try.func34 (by kernel_rfl) rfl #[.int .u8 a3, .int .i64 0] rfl (by (try simp only [List.map_toArray, List.map_cons, List.map_nil]); first | done | rfl | (simp only [List.length_drop, List.length_take]; rfl)) ?_; (with_reducible refine (charabancref01_Is.calls k a3 0 t157 _ A7.out).mono ?_); rintro e w' ⟨rfl, ⟨nd, rfl⟩⟩; refine ⟨_, rfl, ?_⟩) | ((with_reducible refine gate_callee (f := 43) rfl ?_); refine goesL_ (some 45) rfl rfl Try.func43 (by kernel_rfl) rfl #[.int .u8 t156, .int .i64 0, .bool t157] rfl (by (try simp only [List.map_toArray, List.map_cons, List.map_nil]); first | done | rfl | (simp only [List.length_drop, List.length_take]; rfl)) ?_; (with_reducible refine (charabancref01_With.calls k t156 0 t157 t158 _ A8.out).mono ?_); rintro e w' ⟨rfl, ⟨nd, rfl⟩⟩; refine ⟨_, rfl, ?_⟩))
    go_ret3
    exact ⟨by first | rfl | (simp [errW_none, errW_some] <;> rfl) | (simp [*, errW_none, errW_some] <;> rfl), by repeat (first | (with_reducible first | exact HB.out | apply below_alloc | apply pw_below_drewN | apply below_drew1) | exact HB.out)⟩
  · replace c5 := Bool.eq_false_iff.mpr c5
    subst c5
    have H1 : ((charabancref02_Even.f ((((((Int.tdiv a1 16) % 256) * 16) % 256) + ((Int.tdiv a2 16) % 256)) % 256)).bind fun t159 => ((charabancref01_Is.f k a3 0).bind fun t160 => ((charabancref01_With.f k t159 0 t160).bind fun t161 => (some ((((((Int.tdiv a1 16) % 256) * 16) % 256) + ((Int.tdiv a2 16) % 256)) % 256, ((((Int.tmod a2 16) * 16) % 256) + (Int.tmod a1 16)) % 256, t161))))) = some (r1, r2, r3) := by rw [if_neg (show ¬ (false = true) by decide)] at H; exact H
    clear H
    have H := H1
    clear H1
    replace H := Option.bind_eq_some_iff.mp H
    obtain ⟨t159, A100, H⟩ := H
    replace H : ((charabancref01_Is.f k a3 0).bind fun t160 => ((charabancref01_With.f k t159 0 t160).bind fun t161 => (some ((((((Int.tdiv a1 16) % 256) * 16) % 256) + ((Int.tdiv a2 16) % 256)) % 256, ((((Int.tmod a2 16) * 16) % 256) + (Int.tmod a1 16)) % 256, t161)))) = some (r1, r2, r3) := H
    have A10 := Aside0.mk A100
    clear A100
    replace H := Option.bind_eq_some_iff.mp H
    obtain ⟨t160, A110, H⟩ := H
    replace H : ((charabancref01_With.f k t159 0 t160).bind fun t161 => (some ((((((Int.tdiv a1 16) % 256) * 16) % 256) + ((Int.tdiv a2 16) % 256)) % 256, ((((Int.tmod a2 16) * 16) % 256) + (Int.tmod a1 16)) % 256, t161))) = some (r1, r2, r3) := H
    have A11 := Aside0.mk A110
    clear A110
    replace H := Option.bind_eq_some_iff.mp H
    obtain ⟨t161, A120, H⟩ := H
    replace H : (some ((((((Int.tdiv a1 16) % 256) * 16) % 256) + ((Int.tdiv a2 16) % 256)) % 256, ((((Int.tmod a2 16) * 16) % 256) + (Int.tmod a1 16)) % 256, t161)) = some (r1, r2, r3) := H
    have A12 := Aside0.mk A120
    clear A120
    simp only [Option.some.injEq, Prod.mk.injEq] at H
    obtain ⟨rfl, rfl, rfl⟩ := H
    go_enter Try.func28, Try.ntmps28
    go_wp2_with (first | ((with_reducible refine gate_callee (f := 44) rfl ?_); refine goesL_ (some 42) rfl rfl Try.func44 (by kernel_rfl) rfl #[.int .u8 ((((((Int.tdiv a1 16) % 256) * 16) % 256) + ((Int.tdiv a2 16) % 256)) % 256)] rfl (by (try simp only [List.map_toArray, List.map_cons, List.map_nil]); first | done | rfl | (simp only [List.length_drop, List.length_take]; rfl)) ?_; (with_reducible refine (charabancref02_Even.calls ((((((Int.tdiv a1 16) % 256) * 16) % 256) + ((Int.tdiv a2 16) % 256)) % 256) t159 _ A10.out).mono ?_); rintro e w13 ⟨rfl, hb⟩; refine ⟨_, rfl, ?_⟩; have n0_ := Aside0.mk (below_step (by repeat (first | (with_reducible first | exact HB.out | apply below_alloc | apply pw_below_drewN | apply below_drew1) | exact HB.out)) hb); clear HB; have HB := n0_; clear n0_; (try clear hb); (try clear hb2); (try clear hk); (try clear hi)) | ((with_reducible refine gate_callee (f := 34) rfl ?_); refine goesL_ (some 44) rfl rfl Try.func34 (by kernel_rfl) rfl #[.int .u8 a3, .int .i64 0] rfl (by (try simp only [List.map_toArray, List.map_cons, List.map_nil]); first | done | rfl | (simp only [List.length_drop, List.length_take]; rfl)) ?_; (with_reducible refine (charabancref01_Is.calls k a3 0 t160 _ A11.out).mono ?_); rintro e w' ⟨rfl, ⟨nd, rfl⟩⟩; refine ⟨_, rfl, ?_⟩) | ((with_reducible refine gate_callee (f := 43) rfl ?_); refine goesL_ (some 45) rfl rfl Try.func43 (by kernel_rfl) rfl #[.int .u8 t159, .int .i64 0, .bool t160] rfl (by (try simp only [List.map_toArray, List.map_cons, List.map_nil]); first | done | rfl | (simp only [List.length_drop, List.length_take]; rfl)) ?_; (with_reducible refine (charabancref01_With.calls k t159 0 t160 t161 _ A12.out).mono ?_); rintro e w' ⟨rfl, ⟨nd, rfl⟩⟩; refine ⟨_, rfl, ?_⟩))
    go_ret3
    exact ⟨by first | rfl | (simp [errW_none, errW_some] <;> rfl) | (simp [*, errW_none, errW_some] <;> rfl), by repeat (first | (with_reducible first | exact HB.out | apply below_alloc | apply pw_below_drewN | apply below_drew1) | exact HB.out)⟩

/-! ### charabancref06_Bit: function 30 -/
def charabancref06_Bit.f (a0 : Int) (a1 : Int) (a2 : Int) (a3 : Int) : Option (Int) := if (0 ≤ a1 ∧ a1 ≤ 255) ∧ (0 ≤ a2 ∧ a2 ≤ 255) ∧ (0 ≤ a3 ∧ a3 ≤ 255) then some (M.rbitF a0 a1 a2 a3) else none
theorem charabancref06_Bit.calls (a0 : Int) (a1 : Int) (a2 : Int) (a3 : Int) (r : Int) (w : World) (h : charabancref06_Bit.f a0 a1 a2 a3 = some r) :
    Calls Try.prog 30 #[.int .i64 a0, .int .u8 a1, .int .u8 a2, .int .u8 a3] w fun e w' => e = .returned (.int .u8 r) ∧ Below w.heap.size w w' := by
  unfold charabancref06_Bit.f at h
  split at h
  · rename_i hg
    obtain rfl := Option.some.inj h
    exact refbit_any a0 a1 a2 a3 (by omega) (by omega) (by omega) (by omega) (by omega) (by omega) w
  · cases h

end Go.Proofs.Ytkphidaoodedjaa.PT
