/- Written by a program of this session out of the translation and the contracts proved by hand: each function's answer and its proof; each law's statement over plain numbers. -/
import Derived.Test.YtkphidaoodedjaaPKx0
import Derived.Test.YtkphidaoodedjaaPKx1
namespace Go.Proofs.Ytkphidaoodedjaa.PK
open Go.RowKit Go.Proofs.YtkphidaoodedjaaW.PrintWords Go.Proofs.YtkphidaoodedjaaW.PrintLast Go.Proofs.YtkphidaoodedjaaW.PrintMore
attribute [local go_sem] max2_int min2_int max_two min_two max_three min_three max_four min_four   -- for this text's walks alone
set_option linter.unusedVariables false
set_option linter.unusedSimpArgs false

/-! ### charabancref01_With: function 43 -/
mutual
def charabancref01_With.j0 : Nat → Int → Int → Bool → Bool → Option (Int)
  | 0, _, _, _, _ => none
  | k + 1, x0, x1, x2, x14 => if x14 = true then (some x0) else ((charabancref01_Is.f k x0 x1).bind fun t140 => (if t140 = true then (charabancref01_With.j1 k x1 x2 t140 (wrap64 (x0)) (!x2)) else (charabancref01_With.j1 k x1 x2 t140 (wrap64 (x0)) false)))
def charabancref01_With.j1 : Nat → Int → Bool → Bool → Int → Bool → Option (Int)
  | 0, _, _, _, _, _ => none
  | k + 1, x1, x2, x7, x8, x25 => if x25 = true then ((charabancref01_Power.f k x1).bind fun t141 => (if x7 = true then (some ((wrap64 (x8 - t141)) % 256)) else (if x2 = true then ((charabancref01_Power.f k x1).bind fun t142 => (some ((wrap64 ((wrap64 (x8 - t141)) + t142)) % 256))) else (some ((wrap64 (x8 - t141)) % 256))))) else (if x7 = true then (some ((x8) % 256)) else (if x2 = true then ((charabancref01_Power.f k x1).bind fun t143 => (some ((wrap64 (x8 + t143)) % 256))) else (some ((x8) % 256))))
end
def charabancref01_With.f (k : Nat) (a0 : Int) (a1 : Int) (a2 : Bool) : Option (Int) := if a1 < 0 then (charabancref01_With.j0 k a0 a1 a2 true) else (charabancref01_With.j0 k a0 a1 a2 (decide (a1 > 7)))
theorem charabancref01_With.mono_l : ∀ k, (∀ y0 y1 y2 y3, LeO (charabancref01_With.j0 k y0 y1 y2 y3) (charabancref01_With.j0 (k + 1) y0 y1 y2 y3)) ∧ (∀ y0 y1 y2 y3 y4, LeO (charabancref01_With.j1 k y0 y1 y2 y3 y4) (charabancref01_With.j1 (k + 1) y0 y1 y2 y3 y4))
  | 0 => ⟨fun _ _ _ _ r h => by simp [charabancref01_With.j0] at h, fun _ _ _ _ _ r h => by simp [charabancref01_With.j1] at h⟩
  | k + 1 => by
    obtain ⟨ih0, ih1⟩ := charabancref01_With.mono_l k
    refine ⟨?_, ?_⟩
    · intro y0 y1 y2 y3
      unfold charabancref01_With.j0
      repeat' first
      | (with_reducible exact ih0 _ _ _ _)
      | (with_reducible exact ih1 _ _ _ _ _)
      | (with_reducible exact charabancref01_Is.mono _ _ _)
      | (with_reducible exact charabancref01_Power.mono _ _)
      | (with_reducible exact LeO.refl _)
      | (with_reducible exact LeO.none _)
      | (with_reducible refine LeO.ite ?_ ?_)
      | (with_reducible refine LeO.bind ?_ (fun _ => ?_))
      | exact ih0 _ _ _ _
      | exact ih1 _ _ _ _ _
      | exact charabancref01_Is.mono _ _ _
      | exact charabancref01_Power.mono _ _
      | exact LeO.none _
      | refine LeO.ite ?_ ?_
      | refine LeO.bind ?_ (fun _ => ?_)
    · intro y0 y1 y2 y3 y4
      unfold charabancref01_With.j1
      repeat' first
      | (with_reducible exact ih0 _ _ _ _)
      | (with_reducible exact ih1 _ _ _ _ _)
      | (with_reducible exact charabancref01_Is.mono _ _ _)
      | (with_reducible exact charabancref01_Power.mono _ _)
      | (with_reducible exact LeO.refl _)
      | (with_reducible exact LeO.none _)
      | (with_reducible refine LeO.ite ?_ ?_)
      | (with_reducible refine LeO.bind ?_ (fun _ => ?_))
      | exact ih0 _ _ _ _
      | exact ih1 _ _ _ _ _
      | exact charabancref01_Is.mono _ _ _
      | exact charabancref01_Power.mono _ _
      | exact LeO.none _
      | refine LeO.ite ?_ ?_
      | refine LeO.bind ?_ (fun _ => ?_)
theorem charabancref01_With.mono : ∀ a0 a1 a2 k, LeO (charabancref01_With.f k a0 a1 a2) (charabancref01_With.f (k + 1) a0 a1 a2) := by
  intro a0 a1 a2 k
  obtain ⟨ih0, ih1⟩ := charabancref01_With.mono_l k
  unfold charabancref01_With.f
  repeat' first
      | (with_reducible exact ih0 _ _ _ _)
      | (with_reducible exact ih1 _ _ _ _ _)
      | (with_reducible exact charabancref01_Is.mono _ _ _)
      | (with_reducible exact charabancref01_Power.mono _ _)
      | (with_reducible exact LeO.refl _)
      | (with_reducible exact LeO.none _)
      | (with_reducible refine LeO.ite ?_ ?_)
      | (with_reducible refine LeO.bind ?_ (fun _ => ?_))
      | exact ih0 _ _ _ _
      | exact ih1 _ _ _ _ _
      | exact charabancref01_Is.mono _ _ _
      | exact charabancref01_Power.mono _ _
      | exact LeO.none _
      | refine LeO.ite ?_ ?_
      | refine LeO.bind ?_ (fun _ => ?_)
set_option maxHeartbeats 8000000 in
set_option maxRecDepth 100000 in
theorem charabancref01_With.calls (k : Nat) (a0 : Int) (a1 : Int) (a2 : Bool) (r : Int) (w : World) (h : charabancref01_With.f k a0 a1 a2 = some r) :
    Calls Try.prog 43 #[.int .u8 a0, .int .i64 a1, .bool a2] w fun e w' => e = .returned (.int .u8 r) ∧ Drawn0 w w' := by
  have H : (if a1 < 0 then (charabancref01_With.j0 k a0 a1 a2 true) else (charabancref01_With.j0 k a0 a1 a2 (decide (a1 > 7)))) = some r := h
  clear h
  have HC4 := Aside0.mk H
  clear H
  go_enter Try.func43, Try.ntmps43
  go_upto_region 1 with (fail)
  go_cut [14] (fun v14 wc => ∃ (kq : Nat) (x14_3 : Bool), v14 = .bool x14_3 ∧ Aside0 (charabancref01_With.j0 kq a0 a1 a2 x14_3 = some r) ∧ Aside0 (kq ≤ k) ∧ Drawn0 w wc)
  case first =>
    have H := HC4.out
    clear HC4
    by_cases c5 : a1 < 0
    · rw [if_pos c5] at H
      have c5b0 : decide (a1 < 0) = true := decide_eq_true c5
      clear c5
      (first | rw [c5b0] | (simp only [i64_w, i32_w]; rw [c5b0]) | skip)
      have H' := Aside0.mk H
      clear H
      go_wp2
      go_meet
      case rel => exact ⟨_, (true), (by first | rfl | (simp; done) | (simp [*]; done)), H', ⟨by first | omega | exact Nat.le_refl _⟩, by repeat (first | exact Drawn0.refl _ | apply Drawn0.step)⟩
    · rw [if_neg c5] at H
      have c5b0 : decide (a1 < 0) = false := decide_eq_false c5
      clear c5
      (first | rw [c5b0] | (simp only [i64_w, i32_w]; rw [c5b0]) | skip)
      have H' := Aside0.mk H
      clear H
      go_wp2
      go_meet
      case rel => exact ⟨_, (decide (a1 > 7)), (by first | rfl | (simp; done) | (simp [*]; done)), H', ⟨by first | omega | exact Nat.le_refl _⟩, by repeat (first | exact Drawn0.refl _ | apply Drawn0.step)⟩
  case rest =>
    clear HC4
    try clear p2
    try clear c4
    try clear c5
    try clear c5b0
    obtain ⟨kq, x14_3, rfl, HA, HJ3, ⟨mc3, rfl⟩⟩ := hcut
    cases kq with
    | zero => exact absurd HA.out (by simp [charabancref01_With.j0])
    | succ kj3 =>
      have H := HA.out
      clear HA
      simp only [charabancref01_With.j0] at H
      by_cases c6 : x14_3 = true
      · subst c6
        have H1 : (some a0) = some r := by rw [if_pos rfl] at H; exact H
        clear H
        have H := H1
        clear H1
        obtain rfl := Option.some.inj H
        go_wp2
        first | go_ret | go_returns
        exact ⟨by first | rfl | (simp; done) | (simp [*]; done), by repeat (first | exact Drawn0.refl _ | apply Drawn0.step)⟩
      · replace c6 := Bool.eq_false_iff.mpr c6
        subst c6
        have H1 : ((charabancref01_Is.f kj3 a0 a1).bind fun t140 => (if t140 = true then (charabancref01_With.j1 kj3 a1 a2 t140 (wrap64 (a0)) (!a2)) else (charabancref01_With.j1 kj3 a1 a2 t140 (wrap64 (a0)) false))) = some r := by rw [if_neg (show ¬ (false = true) by decide)] at H; exact H
        clear H
        have H := H1
        clear H1
        replace H := Option.bind_eq_some_iff.mp H
        obtain ⟨t140, A70, H⟩ := H
        replace H : (if t140 = true then (charabancref01_With.j1 kj3 a1 a2 t140 (wrap64 (a0)) (!a2)) else (charabancref01_With.j1 kj3 a1 a2 t140 (wrap64 (a0)) false)) = some r := H
        have A7 := Aside0.mk A70
        clear A70
        have HC8 := Aside0.mk H
        clear H
        go_upto_region 5 with (first | ((with_reducible refine gate_callee (f := 34) rfl ?_); refine goesL_ (some 18) rfl rfl Try.func34 (by kernel_rfl) rfl #[.int .u8 a0, .int .i64 a1] rfl (by (try simp only [List.map_toArray, List.map_cons, List.map_nil]); first | done | rfl | (simp only [List.length_drop, List.length_take]; rfl)) ?_; (with_reducible refine (charabancref01_Is.calls kj3 a0 a1 t140 _ A7.out).mono ?_); rintro e w' ⟨rfl, ⟨nd, rfl⟩⟩; refine ⟨_, rfl, ?_⟩))
        (try simp only [Act.put, List.setIfInBounds_toArray, List.set_cons_zero, List.set_cons_succ])
        go_cut [25] (fun v25 wc => ∃ (kq : Nat) (x25_7 : Bool), v25 = .bool x25_7 ∧ Aside0 (charabancref01_With.j1 kq a1 a2 t140 (wrap64 (a0)) x25_7 = some r) ∧ Aside0 (kq ≤ kj3) ∧ Drawn0 w wc)
        case first =>
          have H := HC8.out
          clear HC8
          by_cases c9 : t140 = true
          · subst c9
            have H1 : (charabancref01_With.j1 kj3 a1 a2 true (wrap64 (a0)) (!a2)) = some r := by rw [if_pos rfl] at H; exact H
            clear H
            have H := H1
            clear H1
            have H' := Aside0.mk H
            clear H
            go_wp2
            go_meet
            case rel => exact ⟨_, (!a2), (by first | rfl | (simp; done) | (simp [*]; done)), H', ⟨by have := HJ3.out; first | omega | exact Nat.le_refl _⟩, by repeat (first | exact Drawn0.refl _ | apply Drawn0.step)⟩
          · replace c9 := Bool.eq_false_iff.mpr c9
            subst c9
            have H1 : (charabancref01_With.j1 kj3 a1 a2 false (wrap64 (a0)) false) = some r := by rw [if_neg (show ¬ (false = true) by decide)] at H; exact H
            clear H
            have H := H1
            clear H1
            have H' := Aside0.mk H
            clear H
            go_wp2
            go_meet
            case rel => exact ⟨_, (false), (by first | rfl | (simp; done) | (simp [*]; done)), H', ⟨by have := HJ3.out; first | omega | exact Nat.le_refl _⟩, by repeat (first | exact Drawn0.refl _ | apply Drawn0.step)⟩
        case rest =>
          clear HC8
          try clear p2
          try clear c3
          try clear c4
          try clear c5
          try clear c5b0
          try clear c6
          try clear p6
          try clear c9
          try clear p2
          obtain ⟨kq, x25_7, rfl, HA, HJ7, ⟨mc7, rfl⟩⟩ := hcut
          cases kq with
          | zero => exact absurd HA.out (by simp [charabancref01_With.j1])
          | succ kj7 =>
            have H := HA.out
            clear HA
            simp only [charabancref01_With.j1] at H
            by_cases c10 : x25_7 = true
            · subst c10
              have H1 : ((charabancref01_Power.f kj7 a1).bind fun t141 => (if t140 = true then (some ((wrap64 ((wrap64 (a0)) - t141)) % 256)) else (if a2 = true then ((charabancref01_Power.f kj7 a1).bind fun t142 => (some ((wrap64 ((wrap64 ((wrap64 (a0)) - t141)) + t142)) % 256))) else (some ((wrap64 ((wrap64 (a0)) - t141)) % 256))))) = some r := by rw [if_pos rfl] at H; exact H
              clear H
              have H := H1
              clear H1
              replace H := Option.bind_eq_some_iff.mp H
              obtain ⟨t141, A110, H⟩ := H
              replace H : (if t140 = true then (some ((wrap64 ((wrap64 (a0)) - t141)) % 256)) else (if a2 = true then ((charabancref01_Power.f kj7 a1).bind fun t142 => (some ((wrap64 ((wrap64 ((wrap64 (a0)) - t141)) + t142)) % 256))) else (some ((wrap64 ((wrap64 (a0)) - t141)) % 256)))) = some r := H
              have A11 := Aside0.mk A110
              clear A110
              by_cases c12 : t140 = true
              · subst c12
                have H1 : (some ((wrap64 ((wrap64 (a0)) - t141)) % 256)) = some r := by rw [if_pos rfl] at H; exact H
                clear H
                have H := H1
                clear H1
                obtain rfl := Option.some.inj H
                go_wp2_with (first | ((with_reducible refine gate_callee (f := 49) rfl ?_); refine goesL_ (some 28) rfl rfl Try.func49 (by kernel_rfl) rfl #[.int .i64 a1] rfl (by (try simp only [List.map_toArray, List.map_cons, List.map_nil]); first | done | rfl | (simp only [List.length_drop, List.length_take]; rfl)) ?_; (with_reducible refine (charabancref01_Power.calls kj7 a1 t141 _ A11.out).mono ?_); rintro e w' ⟨rfl, ⟨nd, rfl⟩⟩; refine ⟨_, rfl, ?_⟩))
                first | go_ret | go_returns
                exact ⟨by first | rfl | (simp; done) | (simp [*]; done), by repeat (first | exact Drawn0.refl _ | apply Drawn0.step)⟩
              · replace c12 := Bool.eq_false_iff.mpr c12
                subst c12
                have H1 : (if a2 = true then ((charabancref01_Power.f kj7 a1).bind fun t142 => (some ((wrap64 ((wrap64 ((wrap64 (a0)) - t141)) + t142)) % 256))) else (some ((wrap64 ((wrap64 (a0)) - t141)) % 256))) = some r := by rw [if_neg (show ¬ (false = true) by decide)] at H; exact H
                clear H
                have H := H1
                clear H1
                by_cases c13 : a2 = true
                · subst c13
                  have H1 : ((charabancref01_Power.f kj7 a1).bind fun t142 => (some ((wrap64 ((wrap64 ((wrap64 (a0)) - t141)) + t142)) % 256))) = some r := by rw [if_pos rfl] at H; exact H
                  clear H
                  have H := H1
                  clear H1
                  replace H := Option.bind_eq_some_iff.mp H
                  obtain ⟨t142, A140, H⟩ := H
                  replace H : (some ((wrap64 ((wrap64 ((wrap64 (a0)) - t141)) + t142)) % 256)) = some r := H
                  have A14 := Aside0.mk A140
                  clear A140
                  obtain rfl := Option.some.inj H
                  go_wp2_with (first | ((with_reducible refine gate_callee (f := 49) rfl ?_); refine goesL_ (some 28) rfl rfl Try.func49 (by kernel_rfl) rfl #[.int .i64 a1] rfl (by (try simp only [List.map_toArray, List.map_cons, List.map_nil]); first | done | rfl | (simp only [List.length_drop, List.length_take]; rfl)) ?_; (with_reducible refine (charabancref01_Power.calls kj7 a1 t141 _ A11.out).mono ?_); rintro e w' ⟨rfl, ⟨nd, rfl⟩⟩; refine ⟨_, rfl, ?_⟩) | ((with_reducible refine gate_callee (f := 49) rfl ?_); refine goesL_ (some 37) rfl rfl Try.func49 (by kernel_rfl) rfl #[.int .i64 a1] rfl (by (try simp only [List.map_toArray, List.map_cons, List.map_nil]); first | done | rfl | (simp only [List.length_drop, List.length_take]; rfl)) ?_; (with_reducible refine (charabancref01_Power.calls kj7 a1 t142 _ A14.out).mono ?_); rintro e w' ⟨rfl, ⟨nd, rfl⟩⟩; refine ⟨_, rfl, ?_⟩))
                  first | go_ret | go_returns
                  exact ⟨by first | rfl | (simp; done) | (simp [*]; done), by repeat (first | exact Drawn0.refl _ | apply Drawn0.step)⟩
                · replace c13 := Bool.eq_false_iff.mpr c13
                  subst c13
                  have H1 : (some ((wrap64 ((wrap64 (a0)) - t141)) % 256)) = some r := by rw [if_neg (show ¬ (false = true) by decide)] at H; exact H
                  clear H
                  have H := H1
                  clear H1
                  obtain rfl := Option.some.inj H
                  go_wp2_with (first | ((with_reducible refine gate_callee (f := 49) rfl ?_); refine goesL_ (some 28) rfl rfl Try.func49 (by kernel_rfl) rfl #[.int .i64 a1] rfl (by (try simp only [List.map_toArray, List.map_cons, List.map_nil]); first | done | rfl | (simp only [List.length_drop, List.length_take]; rfl)) ?_; (with_reducible refine (charabancref01_Power.calls kj7 a1 t141 _ A11.out).mono ?_); rintro e w' ⟨rfl, ⟨nd, rfl⟩⟩; refine ⟨_, rfl, ?_⟩))
                  first | go_ret | go_returns
                  exact ⟨by first | rfl | (simp; done) | (simp [*]; done), by repeat (first | exact Drawn0.refl _ | apply Drawn0.step)⟩
            · replace c10 := Bool.eq_false_iff.mpr c10
              subst c10
              have H1 : (if t140 = true then (some (((wrap64 (a0))) % 256)) else (if a2 = true then ((charabancref01_Power.f kj7 a1).bind fun t143 => (some ((wrap64 ((wrap64 (a0)) + t143)) % 256))) else (some (((wrap64 (a0))) % 256)))) = some r := by rw [if_neg (show ¬ (false = true) by decide)] at H; exact H
              clear H
              have H := H1
              clear H1
              by_cases c15 : t140 = true
              · subst c15
                have H1 : (some (((wrap64 (a0))) % 256)) = some r := by rw [if_pos rfl] at H; exact H
                clear H
                have H := H1
                clear H1
                obtain rfl := Option.some.inj H
                go_wp2
                first | go_ret | go_returns
                exact ⟨by first | rfl | (simp; done) | (simp [*]; done), by repeat (first | exact Drawn0.refl _ | apply Drawn0.step)⟩
              · replace c15 := Bool.eq_false_iff.mpr c15
                subst c15
                have H1 : (if a2 = true then ((charabancref01_Power.f kj7 a1).bind fun t143 => (some ((wrap64 ((wrap64 (a0)) + t143)) % 256))) else (some (((wrap64 (a0))) % 256))) = some r := by rw [if_neg (show ¬ (false = true) by decide)] at H; exact H
                clear H
                have H := H1
                clear H1
                by_cases c16 : a2 = true
                · subst c16
                  have H1 : ((charabancref01_Power.f kj7 a1).bind fun t143 => (some ((wrap64 ((wrap64 (a0)) + t143)) % 256))) = some r := by rw [if_pos rfl] at H; exact H
                  clear H
                  have H := H1
                  clear H1
                  replace H := Option.bind_eq_some_iff.mp H
                  obtain ⟨t143, A170, H⟩ := H
                  replace H : (some ((wrap64 ((wrap64 (a0)) + t143)) % 256)) = some r := H
                  have A17 := Aside0.mk A170
                  clear A170
                  obtain rfl := Option.some.inj H
                  go_wp2_with (first | ((with_reducible refine gate_callee (f := 49) rfl ?_); refine goesL_ (some 37) rfl rfl Try.func49 (by kernel_rfl) rfl #[.int .i64 a1] rfl (by (try simp only [List.map_toArray, List.map_cons, List.map_nil]); first | done | rfl | (simp only [List.length_drop, List.length_take]; rfl)) ?_; (with_reducible refine (charabancref01_Power.calls kj7 a1 t143 _ A17.out).mono ?_); rintro e w' ⟨rfl, ⟨nd, rfl⟩⟩; refine ⟨_, rfl, ?_⟩))
                  first | go_ret | go_returns
                  exact ⟨by first | rfl | (simp; done) | (simp [*]; done), by repeat (first | exact Drawn0.refl _ | apply Drawn0.step)⟩
                · replace c16 := Bool.eq_false_iff.mpr c16
                  subst c16
                  have H1 : (some (((wrap64 (a0))) % 256)) = some r := by rw [if_neg (show ¬ (false = true) by decide)] at H; exact H
                  clear H
                  have H := H1
                  clear H1
                  obtain rfl := Option.some.inj H
                  go_wp2
                  first | go_ret | go_returns
                  exact ⟨by first | rfl | (simp; done) | (simp [*]; done), by repeat (first | exact Drawn0.refl _ | apply Drawn0.step)⟩

-- NOT PRINTED: function 35 (charabancref02_Make)

/-! ### charabancref07_Move: function 13 -/
def charabancref07_Move.f (a0 : Int) (a1 : Int) (a2 : Int) (a3 : Int) : Option (Int) := if (0 ≤ a0 ∧ a0 ≤ 255) ∧ (0 ≤ a1 ∧ a1 ≤ 255) ∧ (0 ≤ a2 ∧ a2 ≤ 65535) ∧ (0 ≤ a3 ∧ a3 ≤ 255) then some (M.rmoveF a0 a1 a2 a3) else none
theorem charabancref07_Move.calls (a0 : Int) (a1 : Int) (a2 : Int) (a3 : Int) (r : Int) (w : World) (h : charabancref07_Move.f a0 a1 a2 a3 = some r) :
    Calls Try.prog 13 #[.int .u8 a0, .int .u8 a1, .int .u16 a2, .int .u8 a3] w fun e w' => e = .returned (.int .u8 r) ∧ Below w.heap.size w w' := by
  unfold charabancref07_Move.f at h
  split at h
  · rename_i hg
    obtain rfl := Option.some.inj h
    exact refmove_any a0 a1 a2 a3 (by omega) (by omega) (by omega) (by omega) (by omega) (by omega) (by omega) (by omega) w
  · cases h

/-! ### charabancref03_one: function 54 -/
def charabancref03_one.f (a0 : Bool) : Option (Int) := if a0 = true then (some 1) else (some 0)
set_option maxHeartbeats 8000000 in
set_option maxRecDepth 100000 in
theorem charabancref03_one.calls (a0 : Bool) (r : Int) (w : World) (h : charabancref03_one.f a0 = some r) :
    Calls Try.prog 54 #[.bool a0] w fun e w' => e = .returned (.int .i64 r) ∧ Drawn0 w w' := by
  have H : (if a0 = true then (some 1) else (some 0)) = some r := h
  clear h
  by_cases c2 : a0 = true
  · subst c2
    have H1 : (some 1) = some r := by rw [if_pos rfl] at H; exact H
    clear H
    have H := H1
    clear H1
    obtain rfl := Option.some.inj H
    go_enter Try.func54, Try.ntmps54
    go_wp2
    first | go_ret | go_returns
    exact ⟨by first | rfl | (simp; done) | (simp [*]; done), by repeat (first | exact Drawn0.refl _ | apply Drawn0.step)⟩
  · replace c2 := Bool.eq_false_iff.mpr c2
    subst c2
    have H1 : (some 0) = some r := by rw [if_neg (show ¬ (false = true) by decide)] at H; exact H
    clear H
    have H := H1
    clear H1
    obtain rfl := Option.some.inj H
    go_enter Try.func54, Try.ntmps54
    go_wp2
    first | go_ret | go_returns
    exact ⟨by first | rfl | (simp; done) | (simp [*]; done), by repeat (first | exact Drawn0.refl _ | apply Drawn0.step)⟩

-- NOT PRINTED: function 55 (charabancref02_Result)

/-! ### charabancref03_far: function 56 -/
def charabancref03_far.f (a0 : Int) : Option (Bool) := if a0 < (-128) then (some true) else (some (decide (a0 > 127)))
set_option maxHeartbeats 8000000 in
set_option maxRecDepth 100000 in
theorem charabancref03_far.calls (a0 : Int) (r : Bool) (w : World) (h : charabancref03_far.f a0 = some r) :
    Calls Try.prog 56 #[.int .i64 a0] w fun e w' => e = .returned (.bool r) ∧ Drawn0 w w' := by
  have H : (if a0 < (-128) then (some true) else (some (decide (a0 > 127)))) = some r := h
  clear h
  by_cases c2 : a0 < (-128)
  · rw [if_pos c2] at H
    have c2b0 : decide (a0 < (-128)) = true := decide_eq_true c2
    clear c2
    obtain rfl := Option.some.inj H
    go_enter Try.func56, Try.ntmps56
    go_wp2
    first | go_ret | go_returns
    exact ⟨by first | rfl | (simp; done) | (simp [*]; done), by repeat (first | exact Drawn0.refl _ | apply Drawn0.step)⟩
  · rw [if_neg c2] at H
    have c2b0 : decide (a0 < (-128)) = false := decide_eq_false c2
    clear c2
    obtain rfl := Option.some.inj H
    go_enter Try.func56, Try.ntmps56
    go_wp2
    first | go_ret | go_returns
    exact ⟨by first | rfl | (simp; done) | (simp [*]; done), by repeat (first | exact Drawn0.refl _ | apply Drawn0.step)⟩

/-! ### charabancref01_Signed: function 57 -/
def charabancref01_Signed.f (a0 : Int) : Option (Int) := if a0 < 128 then (some (wrap64 (a0))) else (some (wrap64 ((wrap64 (a0)) - 256)))
set_option maxHeartbeats 8000000 in
set_option maxRecDepth 100000 in
theorem charabancref01_Signed.calls (a0 : Int) (r : Int) (w : World) (h : charabancref01_Signed.f a0 = some r) :
    Calls Try.prog 57 #[.int .u8 a0] w fun e w' => e = .returned (.int .i64 r) ∧ Drawn0 w w' := by
  have H : (if a0 < 128 then (some (wrap64 (a0))) else (some (wrap64 ((wrap64 (a0)) - 256)))) = some r := h
  clear h
  by_cases c2 : a0 < 128
  · rw [if_pos c2] at H
    have c2b0 : decide (a0 < 128) = true := decide_eq_true c2
    clear c2
    obtain rfl := Option.some.inj H
    go_enter Try.func57, Try.ntmps57
    go_wp2
    first | go_ret | go_returns
    exact ⟨by first | rfl | (simp; done) | (simp [*]; done), by repeat (first | exact Drawn0.refl _ | apply Drawn0.step)⟩
  · rw [if_neg c2] at H
    have c2b0 : decide (a0 < 128) = false := decide_eq_false c2
    clear c2
    obtain rfl := Option.some.inj H
    go_enter Try.func57, Try.ntmps57
    go_wp2
    first | go_ret | go_returns
    exact ⟨by first | rfl | (simp; done) | (simp [*]; done), by repeat (first | exact Drawn0.refl _ | apply Drawn0.step)⟩

/-! ### charabancref03_Sub: function 37 -/
def charabancref03_Sub.f (a0 : Int) (a1 : Int) (a2 : Bool) : Option (Int × Int) := if (0 ≤ a0 ∧ a0 ≤ 255) ∧ (0 ≤ a1 ∧ a1 ≤ 255) then some (M.subR a0 a1 a2, M.subF a0 a1 a2) else none
theorem charabancref03_Sub.calls (a0 : Int) (a1 : Int) (a2 : Bool) (r1 : Int) (r2 : Int) (w : World) (h : charabancref03_Sub.f a0 a1 a2 = some (r1, r2)) :
    Calls Try.prog 37 #[.int .u8 a0, .int .u8 a1, .bool a2] w fun e w' => e = .returned (.tuple #[.int .u8 r1, .int .u8 r2]) ∧ Below w.heap.size w w' := by
  unfold charabancref03_Sub.f at h
  split at h
  · rename_i hg
    simp only [Option.some.injEq, Prod.mk.injEq] at h
    obtain ⟨rfl, rfl⟩ := h
    exact refsub_any a0 a1 a2 (by omega) (by omega) (by omega) (by omega) w
  · cases h

/-! ### charabancref07_Find: function 15 -/
def charabancref07_Find.f (a0 : Int) (a1 : Int) (a2 : Int) (a3 : Int) : Option (Int) := if (0 ≤ a0 ∧ a0 ≤ 255) ∧ (0 ≤ a1 ∧ a1 ≤ 255) ∧ (0 ≤ a2 ∧ a2 ≤ 65535) ∧ (0 ≤ a3 ∧ a3 ≤ 255) then some (M.rfindF a0 a1 a2 a3) else none
theorem charabancref07_Find.calls (a0 : Int) (a1 : Int) (a2 : Int) (a3 : Int) (r : Int) (w : World) (h : charabancref07_Find.f a0 a1 a2 a3 = some r) :
    Calls Try.prog 15 #[.int .u8 a0, .int .u8 a1, .int .u16 a2, .int .u8 a3] w fun e w' => e = .returned (.int .u8 r) ∧ Below w.heap.size w w' := by
  unfold charabancref07_Find.f at h
  split at h
  · rename_i hg
    obtain rfl := Option.some.inj h
    exact reffind_any a0 a1 a2 a3 (by omega) (by omega) (by omega) (by omega) (by omega) (by omega) (by omega) (by omega) w
  · cases h

/-! ### charabanclaw07_BlockMoves: function 3 -/
def charabanclaw07_BlockMoves.f (k : Nat) (a0 : Int) (a1 : Int) (a2 : Int) : Option (Bool) := (charabanclaw07_awake.f k).bind fun t144 => (if t144 = true then ((block_Move.f k a0 ((IntKind.u16.wrap (Int.tdiv a1 256)) % 256) (Int.tmod a1 3) a2).bind fun t145 => ((charabancref07_Move.f a0 ((IntKind.u16.wrap (Int.tdiv a1 256)) % 256) (Int.tmod a1 3) a2).bind fun t146 => (if t145 = t146 then ((block_Find.f k a0 ((IntKind.u16.wrap (Int.tdiv a1 256)) % 256) (Int.tmod a1 3) a2).bind fun t147 => ((charabancref07_Find.f a0 ((IntKind.u16.wrap (Int.tdiv a1 256)) % 256) (Int.tmod a1 3) a2).bind fun t148 => (if t147 = t148 then ((block_Move.f k a0 ((IntKind.u16.wrap (Int.tdiv a1 256)) % 256) a1 a2).bind fun t149 => ((charabancref07_Move.f a0 ((IntKind.u16.wrap (Int.tdiv a1 256)) % 256) a1 a2).bind fun t150 => (some (t149 == t150)))) else (some false)))) else (some false)))) else (some false))
theorem charabanclaw07_BlockMoves.mono : ∀ a0 a1 a2 k, LeO (charabanclaw07_BlockMoves.f k a0 a1 a2) (charabanclaw07_BlockMoves.f (k + 1) a0 a1 a2) := by
  intro a0 a1 a2 k
  unfold charabanclaw07_BlockMoves.f
  repeat' first
      | (with_reducible exact block_Find.mono _ _ _ _ _)
      | (with_reducible exact block_Move.mono _ _ _ _ _)
      | (with_reducible exact charabanclaw07_awake.mono _)
      | (with_reducible exact LeO.refl _)
      | (with_reducible exact LeO.none _)
      | (with_reducible refine LeO.ite ?_ ?_)
      | (with_reducible refine LeO.bind ?_ (fun _ => ?_))
      | exact block_Find.mono _ _ _ _ _
      | exact block_Move.mono _ _ _ _ _
      | exact charabanclaw07_awake.mono _
      | exact LeO.none _
      | refine LeO.ite ?_ ?_
      | refine LeO.bind ?_ (fun _ => ?_)
set_option maxHeartbeats 8000000 in
set_option maxRecDepth 100000 in
theorem charabanclaw07_BlockMoves.calls (k : Nat) (a0 : Int) (a1 : Int) (a2 : Int) (r : Bool) (w : World) (h : charabanclaw07_BlockMoves.f k a0 a1 a2 = some r) :
    Calls Try.prog 3 #[.int .u8 a0, .int .u16 a1, .int .u8 a2] w fun e w' => e = .returned (.bool r) ∧ Below w.heap.size w w' := by
  have HB := Aside0.mk (Below.refl w.heap.size w)
  have H : ((charabanclaw07_awake.f k).bind fun t144 => (if t144 = true then ((block_Move.f k a0 ((IntKind.u16.wrap (Int.tdiv a1 256)) % 256) (Int.tmod a1 3) a2).bind fun t145 => ((charabancref07_Move.f a0 ((IntKind.u16.wrap (Int.tdiv a1 256)) % 256) (Int.tmod a1 3) a2).bind fun t146 => (if t145 = t146 then ((block_Find.f k a0 ((IntKind.u16.wrap (Int.tdiv a1 256)) % 256) (Int.tmod a1 3) a2).bind fun t147 => ((charabancref07_Find.f a0 ((IntKind.u16.wrap (Int.tdiv a1 256)) % 256) (Int.tmod a1 3) a2).bind fun t148 => (if t147 = t148 then ((block_Move.f k a0 ((IntKind.u16.wrap (Int.tdiv a1 256)) % 256) a1 a2).bind fun t149 => ((charabancref07_Move.f a0 ((IntKind.u16.wrap (Int.tdiv a1 256)) % 256) a1 a2).bind fun t150 => (some (t149 == t150)))) else (some false)))) else (some false)))) else (some false))) = some r := h
  clear h
  replace H := Option.bind_eq_some_iff.mp H
  obtain ⟨t144, A40, H⟩ := H
  replace H : (if t144 = true then ((block_Move.f k a0 ((IntKind.u16.wrap (Int.tdiv a1 256)) % 256) (Int.tmod a1 3) a2).bind fun t145 => ((charabancref07_Move.f a0 ((IntKind.u16.wrap (Int.tdiv a1 256)) % 256) (Int.tmod a1 3) a2).bind fun t146 => (if t145 = t146 then ((block_Find.f k a0 ((IntKind.u16.wrap (Int.tdiv a1 256)) % 256) (Int.tmod a1 3) a2).bind fun t147 => ((charabancref07_Find.f a0 ((IntKind.u16.wrap (Int.tdiv a1 256)) % 256) (Int.tmod a1 3) a2).bind fun t148 => (if t147 = t148 then ((block_Move.f k a0 ((IntKind.u16.wrap (Int.tdiv a1 256)) % 256) a1 a2).bind fun t149 => ((charabancref07_Move.f a0 ((IntKind.u16.wrap (Int.tdiv a1 256)) % 256) a1 a2).bind fun t150 => (some (t149 == t150)))) else (some false)))) else (some false)))) else (some false)) = some r := H
  have A4 := Aside0.mk A40
  clear A40
  by_cases c5 : t144 = true
  · subst c5
    have H1 : ((block_Move.f k a0 ((IntKind.u16.wrap (Int.tdiv a1 256)) % 256) (Int.tmod a1 3) a2).bind fun t145 => ((charabancref07_Move.f a0 ((IntKind.u16.wrap (Int.tdiv a1 256)) % 256) (Int.tmod a1 3) a2).bind fun t146 => (if t145 = t146 then ((block_Find.f k a0 ((IntKind.u16.wrap (Int.tdiv a1 256)) % 256) (Int.tmod a1 3) a2).bind fun t147 => ((charabancref07_Find.f a0 ((IntKind.u16.wrap (Int.tdiv a1 256)) % 256) (Int.tmod a1 3) a2).bind fun t148 => (if t147 = t148 then ((block_Move.f k a0 ((IntKind.u16.wrap (Int.tdiv a1 256)) % 256) a1 a2).bind fun t149 => ((charabancref07_Move.f a0 ((IntKind.u16.wrap (Int.tdiv a1 256)) % 256) a1 a2).bind fun t150 => (some (t149 == t150)))) else (some false)))) else (some false)))) = some r := by rw [if_pos rfl] at H; exact H
    clear H
    have H := H1
    clear H1
    replace H := Option.bind_eq_some_iff.mp H
    obtain ⟨t145, A60, H⟩ := H
    replace H : ((charabancref07_Move.f a0 ((IntKind.u16.wrap (Int.tdiv a1 256)) % 256) (Int.tmod a1 3) a2).bind fun t146 => (if t145 = t146 then ((block_Find.f k a0 ((IntKind.u16.wrap (Int.tdiv a1 256)) % 256) (Int.tmod a1 3) a2).bind fun t147 => ((charabancref07_Find.f a0 ((IntKind.u16.wrap (Int.tdiv a1 256)) % 256) (Int.tmod a1 3) a2).bind fun t148 => (if t147 = t148 then ((block_Move.f k a0 ((IntKind.u16.wrap (Int.tdiv a1 256)) % 256) a1 a2).bind fun t149 => ((charabancref07_Move.f a0 ((IntKind.u16.wrap (Int.tdiv a1 256)) % 256) a1 a2).bind fun t150 => (some (t149 == t150)))) else (some false)))) else (some false))) = some r := H
    have A6 := Aside0.mk A60
    clear A60
    replace H := Option.bind_eq_some_iff.mp H
    obtain ⟨t146, A70, H⟩ := H
    replace H : (if t145 = t146 then ((block_Find.f k a0 ((IntKind.u16.wrap (Int.tdiv a1 256)) % 256) (Int.tmod a1 3) a2).bind fun t147 => ((charabancref07_Find.f a0 ((IntKind.u16.wrap (Int.tdiv a1 256)) % 256) (Int.tmod a1 3) a2).bind fun t148 => (if t147 = t148 then ((block_Move.f k a0 ((IntKind.u16.wrap (Int.tdiv a1 256)) % 256) a1 a2).bind fun t149 => ((charabancref07_Move.f a0 ((IntKind.u16.wrap (Int.tdiv a1 256)) % 256) a1 a2).bind fun t150 => (some (t149 == t150)))) else (some false)))) else (some false)) = some r := H
    have A7 := Aside0.mk A70
    clear A70
    by_cases c8 : t145 = t146
    · rw [if_pos c8] at H
      have c8b0 : (t145 == t146) = true := beq_iff_eq.mpr c8
      have c8b1 : (t145 != t146) = false := bne_eq_false_iff_eq.mpr c8
      clear c8
      replace H := Option.bind_eq_some_iff.mp H
      obtain ⟨t147, A90, H⟩ := H
      replace H : ((charabancref07_Find.f a0 ((IntKind.u16.wrap (Int.tdiv a1 256)) % 256) (Int.tmod a1 3) a2).bind fun t148 => (if t147 = t148 then ((block_Move.f k a0 ((IntKind.u16.wrap (Int.tdiv a1 256)) % 256) a1 a2).bind fun t149 => ((charabancref07_Move.f a0 ((IntKind.u16.wrap (Int.tdiv a1 256)) % 256) a1 a2).bind fun t150 => (some (t149 == t150)))) else (some false))) = some r := H
      have A9 := Aside0.mk A90
      clear A90
      replace H := Option.bind_eq_some_iff.mp H
      obtain ⟨t148, A100, H⟩ := H
      replace H : (if t147 = t148 then ((block_Move.f k a0 ((IntKind.u16.wrap (Int.tdiv a1 256)) % 256) a1 a2).bind fun t149 => ((charabancref07_Move.f a0 ((IntKind.u16.wrap (Int.tdiv a1 256)) % 256) a1 a2).bind fun t150 => (some (t149 == t150)))) else (some false)) = some r := H
      have A10 := Aside0.mk A100
      clear A100
      by_cases c11 : t147 = t148
      · rw [if_pos c11] at H
        have c11b0 : (t147 == t148) = true := beq_iff_eq.mpr c11
        have c11b1 : (t147 != t148) = false := bne_eq_false_iff_eq.mpr c11
        clear c11
        replace H := Option.bind_eq_some_iff.mp H
        obtain ⟨t149, A120, H⟩ := H
        replace H : ((charabancref07_Move.f a0 ((IntKind.u16.wrap (Int.tdiv a1 256)) % 256) a1 a2).bind fun t150 => (some (t149 == t150))) = some r := H
        have A12 := Aside0.mk A120
        clear A120
        replace H := Option.bind_eq_some_iff.mp H
        obtain ⟨t150, A130, H⟩ := H
        replace H : (some (t149 == t150)) = some r := H
        have A13 := Aside0.mk A130
        clear A130
        obtain rfl := Option.some.inj H
        go_enter Try.func3, Try.ntmps3
        go_wp2_with (first | ((with_reducible refine gate_callee (f := 11) rfl ?_); refine goesL_ (some 10) rfl rfl Try.func11 (by kernel_rfl) rfl #[] rfl (by (try simp only [List.map_toArray, List.map_cons, List.map_nil]); first | done | rfl | (simp only [List.length_drop, List.length_take]; rfl)) ?_; (with_reducible refine (charabanclaw07_awake.calls k  true _ A4.out).mono ?_); rintro e w14 ⟨rfl, hb⟩; refine ⟨_, rfl, ?_⟩; have n0_ := Aside0.mk (below_step (by repeat (first | (with_reducible first | exact HB.out | apply below_alloc | apply pw_below_drewN | apply below_drew1) | exact HB.out)) hb); clear HB; have HB := n0_; clear n0_; (try clear hb); (try clear hb2); (try clear hk); (try clear hi)) | ((with_reducible refine gate_callee (f := 12) rfl ?_); refine goesL_ (some 22) rfl rfl Try.func12 (by kernel_rfl) rfl #[.int .u8 a0, .int .u8 ((IntKind.u16.wrap (Int.tdiv a1 256)) % 256), .int .u16 (Int.tmod a1 3), .int .u8 a2] rfl (by (try simp only [List.map_toArray, List.map_cons, List.map_nil]); first | done | rfl | (simp only [List.length_drop, List.length_take]; rfl)) ?_; (with_reducible refine (block_Move.calls k a0 ((IntKind.u16.wrap (Int.tdiv a1 256)) % 256) (Int.tmod a1 3) a2 t145 _ A6.out).mono ?_); rintro e w15 ⟨rfl, hb⟩; refine ⟨_, rfl, ?_⟩; have n0_ := Aside0.mk (below_step (by repeat (first | (with_reducible first | exact HB.out | apply below_alloc | apply pw_below_drewN | apply below_drew1) | exact HB.out)) hb); clear HB; have HB := n0_; clear n0_; (try clear hb); (try clear hb2); (try clear hk); (try clear hi)) | ((with_reducible refine gate_callee (f := 13) rfl ?_); refine goesL_ (some 27) rfl rfl Try.func13 (by kernel_rfl) rfl #[.int .u8 a0, .int .u8 ((IntKind.u16.wrap (Int.tdiv a1 256)) % 256), .int .u16 (Int.tmod a1 3), .int .u8 a2] rfl (by (try simp only [List.map_toArray, List.map_cons, List.map_nil]); first | done | rfl | (simp only [List.length_drop, List.length_take]; rfl)) ?_; (with_reducible refine (charabancref07_Move.calls a0 ((IntKind.u16.wrap (Int.tdiv a1 256)) % 256) (Int.tmod a1 3) a2 t146 _ A7.out).mono ?_); rintro e w16 ⟨rfl, hb⟩; refine ⟨_, rfl, ?_⟩; have n0_ := Aside0.mk (below_step (by repeat (first | (with_reducible first | exact HB.out | apply below_alloc | apply pw_below_drewN | apply below_drew1) | exact HB.out)) hb); clear HB; have HB := n0_; clear n0_; (try clear hb); (try clear hb2); (try clear hk); (try clear hi)) | (go_at_call 14; (with_reducible refine (block_Find.calls k a0 ((IntKind.u16.wrap (Int.tdiv a1 256)) % 256) (Int.tmod a1 3) a2 t147 _ A9.out).mono ?_); rintro e w17 ⟨rfl, hb⟩; have n0_ := Aside0.mk (below_step (by repeat (first | (with_reducible first | exact HB.out | apply below_alloc | apply pw_below_drewN | apply below_drew1) | exact HB.out)) hb); clear HB; have HB := n0_; clear n0_; (try clear hb); (try clear hb2); (try clear hk); (try clear hi)) | (go_at_call 15; (with_reducible refine (charabancref07_Find.calls a0 ((IntKind.u16.wrap (Int.tdiv a1 256)) % 256) (Int.tmod a1 3) a2 t148 _ A10.out).mono ?_); rintro e w18 ⟨rfl, hb⟩; have n0_ := Aside0.mk (below_step (by repeat (first | (with_reducible first | exact HB.out | apply below_alloc | apply pw_below_drewN | apply below_drew1) | exact HB.out)) hb); clear HB; have HB := n0_; clear n0_; (try clear hb); (try clear hb2); (try clear hk); (try clear hi)) | (go_at_call 12; (with_reducible refine (block_Move.calls k a0 ((IntKind.u16.wrap (Int.tdiv a1 256)) % 256) a1 a2 t149 _ A12.out).mono ?_); rintro e w19 ⟨rfl, hb⟩; have n0_ := Aside0.mk (below_step (by repeat (first | (with_reducible first | exact HB.out | apply below_alloc | apply pw_below_drewN | apply below_drew1) | exact HB.out)) hb); clear HB; have HB := n0_; clear n0_; (try clear hb); (try clear hb2); (try clear hk); (try clear hi)) | (go_at_call 13; (with_reducible refine (charabancref07_Move.calls a0 ((IntKind.u16.wrap (Int.tdiv a1 256)) % 256) a1 a2 t150 _ A13.out).mono ?_); rintro e w20 ⟨rfl, hb⟩; have n0_ := Aside0.mk (below_step (by repeat (first | (with_reducible first | exact HB.out | apply below_alloc | apply pw_below_drewN | apply below_drew1) | exact HB.out)) hb); clear HB; have HB := n0_; clear n0_; (try clear hb); (try clear hb2); (try clear hk); (try clear hi)))
        first | go_ret | go_returns
        exact ⟨by first | rfl | (simp [errW_none, errW_some] <;> rfl) | (simp [*, errW_none, errW_some] <;> rfl), by repeat (first | (with_reducible first | exact HB.out | apply below_alloc | apply pw_below_drewN | apply below_drew1) | exact HB.out)⟩
      · rw [if_neg c11] at H
        have c11b0 : (t147 == t148) = false := beq_eq_false_iff_ne.mpr c11
        have c11b1 : (t147 != t148) = true := bne_iff_ne.mpr c11
        obtain rfl := Option.some.inj H
        go_enter Try.func3, Try.ntmps3
        go_wp2_with (first | ((with_reducible refine gate_callee (f := 11) rfl ?_); refine goesL_ (some 10) rfl rfl Try.func11 (by kernel_rfl) rfl #[] rfl (by (try simp only [List.map_toArray, List.map_cons, List.map_nil]); first | done | rfl | (simp only [List.length_drop, List.length_take]; rfl)) ?_; (with_reducible refine (charabanclaw07_awake.calls k  true _ A4.out).mono ?_); rintro e w21 ⟨rfl, hb⟩; refine ⟨_, rfl, ?_⟩; have n0_ := Aside0.mk (below_step (by repeat (first | (with_reducible first | exact HB.out | apply below_alloc | apply pw_below_drewN | apply below_drew1) | exact HB.out)) hb); clear HB; have HB := n0_; clear n0_; (try clear hb); (try clear hb2); (try clear hk); (try clear hi)) | ((with_reducible refine gate_callee (f := 12) rfl ?_); refine goesL_ (some 22) rfl rfl Try.func12 (by kernel_rfl) rfl #[.int .u8 a0, .int .u8 ((IntKind.u16.wrap (Int.tdiv a1 256)) % 256), .int .u16 (Int.tmod a1 3), .int .u8 a2] rfl (by (try simp only [List.map_toArray, List.map_cons, List.map_nil]); first | done | rfl | (simp only [List.length_drop, List.length_take]; rfl)) ?_; (with_reducible refine (block_Move.calls k a0 ((IntKind.u16.wrap (Int.tdiv a1 256)) % 256) (Int.tmod a1 3) a2 t145 _ A6.out).mono ?_); rintro e w22 ⟨rfl, hb⟩; refine ⟨_, rfl, ?_⟩; have n0_ := Aside0.mk (below_step (by repeat (first | (with_reducible first | exact HB.out | apply below_alloc | apply pw_below_drewN | apply below_drew1) | exact HB.out)) hb); clear HB; have HB := n0_; clear n0_; (try clear hb); (try clear hb2); (try clear hk); (try clear hi)) | ((with_reducible refine gate_callee (f := 13) rfl ?_); refine goesL_ (some 27) rfl rfl Try.func13 (by kernel_rfl) rfl #[.int .u8 a0, .int .u8 ((IntKind.u16.wrap (Int.tdiv a1 256)) % 256), .int .u16 (Int.tmod a1 3), .int .u8 a2] rfl (by (try simp only [List.map_toArray, List.map_cons, List.map_nil]); first | done | rfl | (simp only [List.length_drop, List.length_take]; rfl)) ?_; (with_reducible refine (charabancref07_Move.calls a0 ((IntKind.u16.wrap (Int.tdiv a1 256)) % 256) (Int.tmod a1 3) a2 t146 _ A7.out).mono ?_); rintro e w23 ⟨rfl, hb⟩; refine ⟨_, rfl, ?_⟩; have n0_ := Aside0.mk (below_step (by repeat (first | (with_reducible first | exact HB.out | apply below_alloc | apply pw_below_drewN | apply below_drew1) | exact HB.out)) hb); clear HB; have HB := n0_; clear n0_; (try clear hb); (try clear hb2); (try clear hk); (try clear hi)) | (go_at_call 14; (with_reducible refine (block_Find.calls k a0 ((IntKind.u16.wrap (Int.tdiv a1 256)) % 256) (Int.tmod a1 3) a2 t147 _ A9.out).mono ?_); rintro e w24 ⟨rfl, hb⟩; have n0_ := Aside0.mk (below_step (by repeat (first | (with_reducible first | exact HB.out | apply below_alloc | apply pw_below_drewN | apply below_drew1) | exact HB.out)) hb); clear HB; have HB := n0_; clear n0_; (try clear hb); (try clear hb2); (try clear hk); (try clear hi)) | (go_at_call 15; (with_reducible refine (charabancref07_Find.calls a0 ((IntKind.u16.wrap (Int.tdiv a1 256)) % 256) (Int.tmod a1 3) a2 t148 _ A10.out).mono ?_); rintro e w25 ⟨rfl, hb⟩; have n0_ := Aside0.mk (below_step (by repeat (first | (with_reducible first | exact HB.out | apply below_alloc | apply pw_below_drewN | apply below_drew1) | exact HB.out)) hb); clear HB; have HB := n0_; clear n0_; (try clear hb); (try clear hb2); (try clear hk); (try clear hi)))
        first | go_ret | go_returns
        exact ⟨by first | rfl | (simp [errW_none, errW_some] <;> rfl) | (simp [*, errW_none, errW_some] <;> rfl), by repeat (first | (with_reducible first | exact HB.out | apply below_alloc | apply pw_below_drewN | apply below_drew1) | exact HB.out)⟩
    · rw [if_neg c8] at H
      have c8b0 : (t145 == t146) = false := beq_eq_false_iff_ne.mpr c8
      have c8b1 : (t145 != t146) = true := bne_iff_ne.mpr c8
      obtain rfl := Option.some.inj H
      go_enter Try.func3, Try.ntmps3
      go_wp2_with (first | ((with_reducible refine gate_callee (f := 11) rfl ?_); refine goesL_ (some 10) rfl rfl Try.func11 (by kernel_rfl) rfl #[] rfl (by (try simp only [List.map_toArray, List.map_cons, List.map_nil]); first | done | rfl | (simp only [List.length_drop, List.length_take]; rfl)) ?_; (with_reducible refine (charabanclaw07_awake.calls k  true _ A4.out).mono ?_); rintro e w26 ⟨rfl, hb⟩; refine ⟨_, rfl, ?_⟩; have n0_ := Aside0.mk (below_step (by repeat (first | (with_reducible first | exact HB.out | apply below_alloc | apply pw_below_drewN | apply below_drew1) | exact HB.out)) hb); clear HB; have HB := n0_; clear n0_; (try clear hb); (try clear hb2); (try clear hk); (try clear hi)) | ((with_reducible refine gate_callee (f := 12) rfl ?_); refine goesL_ (some 22) rfl rfl Try.func12 (by kernel_rfl) rfl #[.int .u8 a0, .int .u8 ((IntKind.u16.wrap (Int.tdiv a1 256)) % 256), .int .u16 (Int.tmod a1 3), .int .u8 a2] rfl (by (try simp only [List.map_toArray, List.map_cons, List.map_nil]); first | done | rfl | (simp only [List.length_drop, List.length_take]; rfl)) ?_; (with_reducible refine (block_Move.calls k a0 ((IntKind.u16.wrap (Int.tdiv a1 256)) % 256) (Int.tmod a1 3) a2 t145 _ A6.out).mono ?_); rintro e w27 ⟨rfl, hb⟩; refine ⟨_, rfl, ?_⟩; have n0_ := Aside0.mk (below_step (by repeat (first | (with_reducible first | exact HB.out | apply below_alloc | apply pw_below_drewN | apply below_drew1) | exact HB.out)) hb); clear HB; have HB := n0_; clear n0_; (try clear hb); (try clear hb2); (try clear hk); (try clear hi)) | ((with_reducible refine gate_callee (f := 13) rfl ?_); refine goesL_ (some 27) rfl rfl Try.func13 (by kernel_rfl) rfl #[.int .u8 a0, .int .u8 ((IntKind.u16.wrap (Int.tdiv a1 256)) % 256), .int .u16 (Int.tmod a1 3), .int .u8 a2] rfl (by (try simp only [List.map_toArray, List.map_cons, List.map_nil]); first | done | rfl | (simp only [List.length_drop, List.length_take]; rfl)) ?_; (with_reducible refine (charabancref07_Move.calls a0 ((IntKind.u16.wrap (Int.tdiv a1 256)) % 256) (Int.tmod a1 3) a2 t146 _ A7.out).mono ?_); rintro e w28 ⟨rfl, hb⟩; refine ⟨_, rfl, ?_⟩; have n0_ := Aside0.mk (below_step (by repeat (first | (with_reducible first | exact HB.out | apply below_alloc | apply pw_below_drewN | apply below_drew1) | exact HB.out)) hb); clear HB; have HB := n0_; clear n0_; (try clear hb); (try clear hb2); (try clear hk); (try clear hi)))
      first | go_ret | go_returns
      exact ⟨by first | rfl | (simp [errW_none, errW_some] <;> rfl) | (simp [*, errW_none, errW_some] <;> rfl), by repeat (first | (with_reducible first | exact HB.out | apply below_alloc | apply pw_below_drewN | apply below_drew1) | exact HB.out)⟩
  · replace c5 := Bool.eq_false_iff.mpr c5
    subst c5
    have H1 : (some false) = some r := by rw [if_neg (show ¬ (false = true) by decide)] at H; exact H
    clear H
    have H := H1
    clear H1
    obtain rfl := Option.some.inj H
    go_enter Try.func3, Try.ntmps3
    go_wp2_with (first | ((with_reducible refine gate_callee (f := 11) rfl ?_); refine goesL_ (some 10) rfl rfl Try.func11 (by kernel_rfl) rfl #[] rfl (by (try simp only [List.map_toArray, List.map_cons, List.map_nil]); first | done | rfl | (simp only [List.length_drop, List.length_take]; rfl)) ?_; (with_reducible refine (charabanclaw07_awake.calls k  false _ A4.out).mono ?_); rintro e w29 ⟨rfl, hb⟩; refine ⟨_, rfl, ?_⟩; have n0_ := Aside0.mk (below_step (by repeat (first | (with_reducible first | exact HB.out | apply below_alloc | apply pw_below_drewN | apply below_drew1) | exact HB.out)) hb); clear HB; have HB := n0_; clear n0_; (try clear hb); (try clear hb2); (try clear hk); (try clear hi)))
    first | go_ret | go_returns
    exact ⟨by first | rfl | (simp [errW_none, errW_some] <;> rfl) | (simp [*, errW_none, errW_some] <;> rfl), by repeat (first | (with_reducible first | exact HB.out | apply below_alloc | apply pw_below_drewN | apply below_drew1) | exact HB.out)⟩

/-- THE ONE PURE STATEMENT of charabanclaw07_BlockMoves: yours. -/
def charabanclaw07_BlockMoves.Pure : Prop := ∀ (a0 : Int) (a1 : Int) (a2 : Int), (Lit.int .u8 a0).wf = true → (Lit.int .u16 a1).wf = true → (Lit.int .u8 a2).wf = true → ∃ k, charabanclaw07_BlockMoves.f k a0 a1 a2 = some true
theorem charabanclaw07_BlockMoves.walk (P : charabanclaw07_BlockMoves.Pure) (a0 : Int) (a1 : Int) (a2 : Int) (w : World) (w0 : (Lit.int .u8 a0).wf = true) (w1 : (Lit.int .u16 a1).wf = true) (w2 : (Lit.int .u8 a2).wf = true) :
    Calls Try.prog 3 #[.int .u8 a0, .int .u16 a1, .int .u8 a2] w fun e w' => e = .returned (.bool true) ∧ Below w.heap.size w w' := by
  obtain ⟨k, h⟩ := P a0 a1 a2 w0 w1 w2
  refine (charabanclaw07_BlockMoves.calls k a0 a1 a2 true w h).mono ?_
  rintro e w' ⟨rfl, hd⟩
  exact ⟨rfl, hd⟩

/-! ### charabancref01_Count: function 72 -/
def charabancref01_Count.l0 : Nat → Int → Int → Int → Option (Int)
  | 0, _, _, _ => none
  | k + 1, x0, x3, x4 => if x4 < 8 then ((charabancref01_Is.f k x0 x4).bind fun t151 => (if t151 = true then (charabancref01_Count.l0 k x0 (wrap64 (x3 + 1)) (wrap64 (x4 + 1))) else (charabancref01_Count.l0 k x0 x3 (wrap64 (x4 + 1))))) else (some x3)
def charabancref01_Count.f (k : Nat) (a0 : Int) : Option (Int) := charabancref01_Count.l0 k a0 0 0
theorem charabancref01_Count.mono_l : ∀ k, (∀ y0 y1 y2, LeO (charabancref01_Count.l0 k y0 y1 y2) (charabancref01_Count.l0 (k + 1) y0 y1 y2))
  | 0 => fun _ _ _ r h => by simp [charabancref01_Count.l0] at h
  | k + 1 => by
    have ih0 := charabancref01_Count.mono_l k
    · intro y0 y1 y2
      unfold charabancref01_Count.l0
      repeat' first
      | (with_reducible exact ih0 _ _ _)
      | (with_reducible exact charabancref01_Is.mono _ _ _)
      | (with_reducible exact LeO.refl _)
      | (with_reducible exact LeO.none _)
      | (with_reducible refine LeO.ite ?_ ?_)
      | (with_reducible refine LeO.bind ?_ (fun _ => ?_))
      | exact ih0 _ _ _
      | exact charabancref01_Is.mono _ _ _
      | exact LeO.none _
      | refine LeO.ite ?_ ?_
      | refine LeO.bind ?_ (fun _ => ?_)
theorem charabancref01_Count.mono : ∀ a0 k, LeO (charabancref01_Count.f k a0) (charabancref01_Count.f (k + 1) a0) := by
  intro a0 k
  have ih0 := charabancref01_Count.mono_l k
  unfold charabancref01_Count.f
  repeat' first
      | (with_reducible exact ih0 _ _ _)
      | (with_reducible exact charabancref01_Is.mono _ _ _)
      | (with_reducible exact LeO.refl _)
      | (with_reducible exact LeO.none _)
      | (with_reducible refine LeO.ite ?_ ?_)
      | (with_reducible refine LeO.bind ?_ (fun _ => ?_))
      | exact ih0 _ _ _
      | exact charabancref01_Is.mono _ _ _
      | exact LeO.none _
      | refine LeO.ite ?_ ?_
      | refine LeO.bind ?_ (fun _ => ?_)
set_option maxHeartbeats 8000000 in
set_option maxRecDepth 100000 in
theorem charabancref01_Count.calls (k : Nat) (a0 : Int) (r : Int) (w : World) (h : charabancref01_Count.f k a0 = some r) :
    Calls Try.prog 72 #[.int .u8 a0] w fun e w' => e = .returned (.int .i64 r) ∧ Drawn0 w w' := by
  have H : (charabancref01_Count.l0 k a0 0 0) = some r := h
  clear h
  have H' := Aside0.mk H
  clear H
  go_enter Try.func72, Try.ntmps72
  go_wp2
  go_loopg [3, 4] k (fun kq v3 v4 w' => ∃ (x3_1 : Int) (x4_1 : Int), v3 = .int .i64 x3_1 ∧ v4 = .int .i64 x4_1 ∧ Aside0 (charabancref01_Count.l0 kq a0 x3_1 x4_1 = some r) ∧ Aside0 (kq ≤ k) ∧ Drawn0 w w')
  case atStart => exact ⟨(0), (0), (by first | rfl | (simp; done) | (simp [*]; done)), (by first | rfl | (simp; done) | (simp [*]; done)), H', ⟨Nat.le_refl _⟩, by repeat (first | exact Drawn0.refl _ | apply Drawn0.step)⟩
  case round =>
    clear H'
    obtain ⟨x3_1, x4_1, rfl, rfl, HA, HK1, ⟨m1, rfl⟩⟩ := hrel
    cases gk with
    | zero => exact absurd HA.out (by simp [charabancref01_Count.l0])
    | succ k1 =>
      have H := HA.out
      clear HA
      simp only [charabancref01_Count.l0] at H
      by_cases c2 : x4_1 < 8
      · rw [if_pos c2] at H
        have c2b0 : decide (x4_1 < 8) = true := decide_eq_true c2
        clear c2
        replace H := Option.bind_eq_some_iff.mp H
        obtain ⟨t151, A30, H⟩ := H
        replace H : (if t151 = true then (charabancref01_Count.l0 k1 a0 (wrap64 (x3_1 + 1)) (wrap64 (x4_1 + 1))) else (charabancref01_Count.l0 k1 a0 x3_1 (wrap64 (x4_1 + 1)))) = some r := H
        have A3 := Aside0.mk A30
        clear A30
        by_cases c4 : t151 = true
        · subst c4
          have H1 : (charabancref01_Count.l0 k1 a0 (wrap64 (x3_1 + 1)) (wrap64 (x4_1 + 1))) = some r := by rw [if_pos rfl] at H; exact H
          clear H
          have H := H1
          clear H1
          have H' := Aside0.mk H
          clear H
          go_wp2_with (first | ((with_reducible refine gate_callee (f := 34) rfl ?_); refine goesL_ (some 12) rfl rfl Try.func34 (by kernel_rfl) rfl #[.int .u8 a0, .int .i64 x4_1] rfl (by (try simp only [List.map_toArray, List.map_cons, List.map_nil]); first | done | rfl | (simp only [List.length_drop, List.length_take]; rfl)) ?_; (with_reducible refine (charabancref01_Is.calls k1 a0 x4_1 true _ A3.out).mono ?_); rintro e w' ⟨rfl, ⟨nd, rfl⟩⟩; refine ⟨_, rfl, ?_⟩))
          go_roundg k1
          case measure => have := HK1.out; omega
          case rel => exact ⟨(wrap64 (x3_1 + 1)), (wrap64 (x4_1 + 1)), (by first | rfl | (simp; done) | (simp [*]; done)), (by first | rfl | (simp; done) | (simp [*]; done)), H', ⟨by have := HK1.out; omega⟩, by repeat (first | exact Drawn0.refl _ | apply Drawn0.step)⟩
        · replace c4 := Bool.eq_false_iff.mpr c4
          subst c4
          have H1 : (charabancref01_Count.l0 k1 a0 x3_1 (wrap64 (x4_1 + 1))) = some r := by rw [if_neg (show ¬ (false = true) by decide)] at H; exact H
          clear H
          have H := H1
          clear H1
          have H' := Aside0.mk H
          clear H
          go_wp2_with (first | ((with_reducible refine gate_callee (f := 34) rfl ?_); refine goesL_ (some 12) rfl rfl Try.func34 (by kernel_rfl) rfl #[.int .u8 a0, .int .i64 x4_1] rfl (by (try simp only [List.map_toArray, List.map_cons, List.map_nil]); first | done | rfl | (simp only [List.length_drop, List.length_take]; rfl)) ?_; (with_reducible refine (charabancref01_Is.calls k1 a0 x4_1 false _ A3.out).mono ?_); rintro e w' ⟨rfl, ⟨nd, rfl⟩⟩; refine ⟨_, rfl, ?_⟩))
          go_roundg k1
          case measure => have := HK1.out; omega
          case rel => exact ⟨(x3_1), (wrap64 (x4_1 + 1)), (by first | rfl | (simp; done) | (simp [*]; done)), (by first | rfl | (simp; done) | (simp [*]; done)), H', ⟨by have := HK1.out; omega⟩, by repeat (first | exact Drawn0.refl _ | apply Drawn0.step)⟩
      · rw [if_neg c2] at H
        have c2b0 : decide (x4_1 < 8) = false := decide_eq_false c2
        clear c2
        obtain rfl := Option.some.inj H
        go_wp2
        first | go_ret | go_returns
        exact ⟨by first | rfl | (simp; done) | (simp [*]; done), by repeat (first | exact Drawn0.refl _ | apply Drawn0.step)⟩

/-! ### charabancref01_Even: function 59 -/
def charabancref01_Even.f (k : Nat) (a0 : Int) : Option (Bool) := (charabancref01_Count.f k a0).bind fun t152 => (some ((Int.tmod t152 2) == 0))
theorem charabancref01_Even.mono : ∀ a0 k, LeO (charabancref01_Even.f k a0) (charabancref01_Even.f (k + 1) a0) := by
  intro a0 k
  unfold charabancref01_Even.f
  repeat' first
      | (with_reducible exact charabancref01_Count.mono _ _)
      | (with_reducible exact LeO.refl _)
      | (with_reducible exact LeO.none _)
      | (with_reducible refine LeO.ite ?_ ?_)
      | (with_reducible refine LeO.bind ?_ (fun _ => ?_))
      | exact charabancref01_Count.mono _ _
      | exact LeO.none _
      | refine LeO.ite ?_ ?_
      | refine LeO.bind ?_ (fun _ => ?_)
set_option maxHeartbeats 8000000 in
set_option maxRecDepth 100000 in
theorem charabancref01_Even.calls (k : Nat) (a0 : Int) (r : Bool) (w : World) (h : charabancref01_Even.f k a0 = some r) :
    Calls Try.prog 59 #[.int .u8 a0] w fun e w' => e = .returned (.bool r) ∧ Drawn0 w w' := by
  have H : ((charabancref01_Count.f k a0).bind fun t152 => (some ((Int.tmod t152 2) == 0))) = some r := h
  clear h
  replace H := Option.bind_eq_some_iff.mp H
  obtain ⟨t152, A20, H⟩ := H
  replace H : (some ((Int.tmod t152 2) == 0)) = some r := H
  have A2 := Aside0.mk A20
  clear A20
  obtain rfl := Option.some.inj H
  go_enter Try.func59, Try.ntmps59
  go_wp2_with (first | ((with_reducible refine gate_callee (f := 72) rfl ?_); refine goesL_ (some 4) rfl rfl Try.func72 (by kernel_rfl) rfl #[.int .u8 a0] rfl (by (try simp only [List.map_toArray, List.map_cons, List.map_nil]); first | done | rfl | (simp only [List.length_drop, List.length_take]; rfl)) ?_; (with_reducible refine (charabancref01_Count.calls k a0 t152 _ A2.out).mono ?_); rintro e w' ⟨rfl, ⟨nd, rfl⟩⟩; refine ⟨_, rfl, ?_⟩))
  first | go_ret | go_returns
  exact ⟨by first | rfl | (simp; done) | (simp [*]; done), by repeat (first | exact Drawn0.refl _ | apply Drawn0.step)⟩

/-! ### charabancref07_counted: function 39 -/
def charabancref07_counted.f (a0 : Int) (a1 : Int) (a2 : Int) : Option (Int) := if (0 ≤ a0 ∧ a0 ≤ 255) ∧ (0 ≤ a1 ∧ a1 ≤ 255) ∧ (0 ≤ a2) ∧ (a2 ≤ 1000) then some (M.rcountF a0 a1 a2) else none
theorem charabancref07_counted.calls (a0 : Int) (a1 : Int) (a2 : Int) (r : Int) (w : World) (h : charabancref07_counted.f a0 a1 a2 = some r) :
    Calls Try.prog 39 #[.int .u8 a0, .int .u8 a1, .int .i64 a2] w fun e w' => e = .returned (.int .u8 r) ∧ Below w.heap.size w w' := by
  unfold charabancref07_counted.f at h
  split at h
  · rename_i hg
    obtain rfl := Option.some.inj h
    exact refcounted_any a0 a1 a2 (by omega) (by omega) (by omega) (by omega) (by omega) (by omega) w
  · cases h

/-! ### charabancref07_Take: function 17 -/
def charabancref07_Take.f (a0 : Int) (a1 : Int) (a2 : Int) (a3 : Int) : Option (Int) := (charabancref07_counted.f a0 a2 (wrap64 ((wrap64 (a0)) + (Int.tmod (wrap64 ((Int.tmod (wrap64 ((wrap64 (a1)) + (Int.tmod a3 256))) 256) + 256)) 256)))).bind fun t153 => (some t153)
set_option maxHeartbeats 8000000 in
set_option maxRecDepth 100000 in
theorem charabancref07_Take.calls (a0 : Int) (a1 : Int) (a2 : Int) (a3 : Int) (r : Int) (w : World) (h : charabancref07_Take.f a0 a1 a2 a3 = some r) :
    Calls Try.prog 17 #[.int .u8 a0, .int .u8 a1, .int .u8 a2, .int .i64 a3] w fun e w' => e = .returned (.int .u8 r) ∧ Below w.heap.size w w' := by
  have HB := Aside0.mk (Below.refl w.heap.size w)
  have H : ((charabancref07_counted.f a0 a2 (wrap64 ((wrap64 (a0)) + (Int.tmod (wrap64 ((Int.tmod (wrap64 ((wrap64 (a1)) + (Int.tmod a3 256))) 256) + 256)) 256)))).bind fun t153 => (some t153)) = some r := h
  clear h
  replace H := Option.bind_eq_some_iff.mp H
  obtain ⟨t153, A50, H⟩ := H
  replace H : (some t153) = some r := H
  have A5 := Aside0.mk A50
  clear A50
  obtain rfl := Option.some.inj H
  go_enter Try.func17, Try.ntmps17
  go_wp2_with (first | ((with_reducible refine gate_callee (f := 39) rfl ?_); refine goesL_ (some 24) rfl rfl Try.func39 (by kernel_rfl) rfl #[.int .u8 a0, .int .u8 a2, .int .i64 (wrap64 ((wrap64 (a0)) + (Int.tmod (wrap64 ((Int.tmod (wrap64 ((wrap64 (a1)) + (Int.tmod a3 256))) 256) + 256)) 256)))] rfl (by (try simp only [List.map_toArray, List.map_cons, List.map_nil]); first | done | rfl | (simp only [List.length_drop, List.length_take]; rfl)) ?_; (with_reducible refine (charabancref07_counted.calls a0 a2 (wrap64 ((wrap64 (a0)) + (Int.tmod (wrap64 ((Int.tmod (wrap64 ((wrap64 (a1)) + (Int.tmod a3 256))) 256) + 256)) 256))) t153 _ A5.out).mono ?_); rintro e w6 ⟨rfl, hb⟩; refine ⟨_, rfl, ?_⟩; have n0_ := Aside0.mk (below_step (by repeat (first | (with_reducible first | exact HB.out | apply below_alloc | apply pw_below_drewN | apply below_drew1) | exact HB.out)) hb); clear HB; have HB := n0_; clear n0_; (try clear hb); (try clear hb2); (try clear hk); (try clear hi)))
  first | go_ret | go_returns
  exact ⟨by first | rfl | (simp [errW_none, errW_some] <;> rfl) | (simp [*, errW_none, errW_some] <;> rfl), by repeat (first | (with_reducible first | exact HB.out | apply below_alloc | apply pw_below_drewN | apply below_drew1) | exact HB.out)⟩

/-! ### charabancref07_Give: function 19 -/
def charabancref07_Give.f (a0 : Int) (a1 : Int) (a2 : Int) : Option (Int) := (charabancref07_counted.f a0 a2 (wrap64 ((wrap64 (a0)) + (wrap64 (a1))))).bind fun t154 => (some t154)
set_option maxHeartbeats 8000000 in
set_option maxRecDepth 100000 in
theorem charabancref07_Give.calls (a0 : Int) (a1 : Int) (a2 : Int) (r : Int) (w : World) (h : charabancref07_Give.f a0 a1 a2 = some r) :
    Calls Try.prog 19 #[.int .u8 a0, .int .u8 a1, .int .u8 a2] w fun e w' => e = .returned (.int .u8 r) ∧ Below w.heap.size w w' := by
  have HB := Aside0.mk (Below.refl w.heap.size w)
  have H : ((charabancref07_counted.f a0 a2 (wrap64 ((wrap64 (a0)) + (wrap64 (a1))))).bind fun t154 => (some t154)) = some r := h
  clear h
  replace H := Option.bind_eq_some_iff.mp H
  obtain ⟨t154, A40, H⟩ := H
  replace H : (some t154) = some r := H
  have A4 := Aside0.mk A40
  clear A40
  obtain rfl := Option.some.inj H
  go_enter Try.func19, Try.ntmps19
  go_wp2_with (first | ((with_reducible refine gate_callee (f := 39) rfl ?_); refine goesL_ (some 14) rfl rfl Try.func39 (by kernel_rfl) rfl #[.int .u8 a0, .int .u8 a2, .int .i64 (wrap64 ((wrap64 (a0)) + (wrap64 (a1))))] rfl (by (try simp only [List.map_toArray, List.map_cons, List.map_nil]); first | done | rfl | (simp only [List.length_drop, List.length_take]; rfl)) ?_; (with_reducible refine (charabancref07_counted.calls a0 a2 (wrap64 ((wrap64 (a0)) + (wrap64 (a1)))) t154 _ A4.out).mono ?_); rintro e w5 ⟨rfl, hb⟩; refine ⟨_, rfl, ?_⟩; have n0_ := Aside0.mk (below_step (by repeat (first | (with_reducible first | exact HB.out | apply below_alloc | apply pw_below_drewN | apply below_drew1) | exact HB.out)) hb); clear HB; have HB := n0_; clear n0_; (try clear hb); (try clear hb2); (try clear hk); (try clear hi)))
  first | go_ret | go_returns
  exact ⟨by first | rfl | (simp [errW_none, errW_some] <;> rfl) | (simp [*, errW_none, errW_some] <;> rfl), by repeat (first | (with_reducible first | exact HB.out | apply below_alloc | apply pw_below_drewN | apply below_drew1) | exact HB.out)⟩

/-! ### charabanclaw07_BlockTakes: function 4 -/
def charabanclaw07_BlockTakes.f (k : Nat) (a0 : Int) (a1 : Int) (a2 : Int) : Option (Bool) := (charabanclaw07_awake.f k).bind fun t155 => (if t155 = true then ((block_Take.f k a0 ((IntKind.u16.wrap (Int.tdiv a1 256)) % 256) ((Int.tmod a1 256) % 256) a2).bind fun t156 => ((charabancref07_Take.f a0 ((IntKind.u16.wrap (Int.tdiv a1 256)) % 256) ((Int.tmod a1 256) % 256) a2).bind fun t157 => (if t156 = t157 then ((block_Give.f k a0 ((IntKind.u16.wrap (Int.tdiv a1 256)) % 256) ((Int.tmod a1 256) % 256)).bind fun t158 => ((charabancref07_Give.f a0 ((IntKind.u16.wrap (Int.tdiv a1 256)) % 256) ((Int.tmod a1 256) % 256)).bind fun t159 => (some (t158 == t159)))) else (some false)))) else (some false))
theorem charabanclaw07_BlockTakes.mono : ∀ a0 a1 a2 k, LeO (charabanclaw07_BlockTakes.f k a0 a1 a2) (charabanclaw07_BlockTakes.f (k + 1) a0 a1 a2) := by
  intro a0 a1 a2 k
  unfold charabanclaw07_BlockTakes.f
  repeat' first
      | (with_reducible exact block_Give.mono _ _ _ _)
      | (with_reducible exact block_Take.mono _ _ _ _ _)
      | (with_reducible exact charabanclaw07_awake.mono _)
      | (with_reducible exact LeO.refl _)
      | (with_reducible exact LeO.none _)
      | (with_reducible refine LeO.ite ?_ ?_)
      | (with_reducible refine LeO.bind ?_ (fun _ => ?_))
      | exact block_Give.mono _ _ _ _
      | exact block_Take.mono _ _ _ _ _
      | exact charabanclaw07_awake.mono _
      | exact LeO.none _
      | refine LeO.ite ?_ ?_
      | refine LeO.bind ?_ (fun _ => ?_)
set_option maxHeartbeats 8000000 in
set_option maxRecDepth 100000 in
theorem charabanclaw07_BlockTakes.calls (k : Nat) (a0 : Int) (a1 : Int) (a2 : Int) (r : Bool) (w : World) (h : charabanclaw07_BlockTakes.f k a0 a1 a2 = some r) :
    Calls Try.prog 4 #[.int .u8 a0, .int .u16 a1, .int .i64 a2] w fun e w' => e = .returned (.bool r) ∧ Below w.heap.size w w' := by
  have HB := Aside0.mk (Below.refl w.heap.size w)
  have H : ((charabanclaw07_awake.f k).bind fun t155 => (if t155 = true then ((block_Take.f k a0 ((IntKind.u16.wrap (Int.tdiv a1 256)) % 256) ((Int.tmod a1 256) % 256) a2).bind fun t156 => ((charabancref07_Take.f a0 ((IntKind.u16.wrap (Int.tdiv a1 256)) % 256) ((Int.tmod a1 256) % 256) a2).bind fun t157 => (if t156 = t157 then ((block_Give.f k a0 ((IntKind.u16.wrap (Int.tdiv a1 256)) % 256) ((Int.tmod a1 256) % 256)).bind fun t158 => ((charabancref07_Give.f a0 ((IntKind.u16.wrap (Int.tdiv a1 256)) % 256) ((Int.tmod a1 256) % 256)).bind fun t159 => (some (t158 == t159)))) else (some false)))) else (some false))) = some r := h
  clear h
  replace H := Option.bind_eq_some_iff.mp H
  obtain ⟨t155, A40, H⟩ := H
  replace H : (if t155 = true then ((block_Take.f k a0 ((IntKind.u16.wrap (Int.tdiv a1 256)) % 256) ((Int.tmod a1 256) % 256) a2).bind fun t156 => ((charabancref07_Take.f a0 ((IntKind.u16.wrap (Int.tdiv a1 256)) % 256) ((Int.tmod a1 256) % 256) a2).bind fun t157 => (if t156 = t157 then ((block_Give.f k a0 ((IntKind.u16.wrap (Int.tdiv a1 256)) % 256) ((Int.tmod a1 256) % 256)).bind fun t158 => ((charabancref07_Give.f a0 ((IntKind.u16.wrap (Int.tdiv a1 256)) % 256) ((Int.tmod a1 256) % 256)).bind fun t159 => (some (t158 == t159)))) else (some false)))) else (some false)) = some r := H
  have A4 := Aside0.mk A40
  clear A40
  by_cases c5 : t155 = true
  · subst c5
    have H1 : ((block_Take.f k a0 ((IntKind.u16.wrap (Int.tdiv a1 256)) % 256) ((Int.tmod a1 256) % 256) a2).bind fun t156 => ((charabancref07_Take.f a0 ((IntKind.u16.wrap (Int.tdiv a1 256)) % 256) ((Int.tmod a1 256) % 256) a2).bind fun t157 => (if t156 = t157 then ((block_Give.f k a0 ((IntKind.u16.wrap (Int.tdiv a1 256)) % 256) ((Int.tmod a1 256) % 256)).bind fun t158 => ((charabancref07_Give.f a0 ((IntKind.u16.wrap (Int.tdiv a1 256)) % 256) ((Int.tmod a1 256) % 256)).bind fun t159 => (some (t158 == t159)))) else (some false)))) = some r := by rw [if_pos rfl] at H; exact H
    clear H
    have H := H1
    clear H1
    replace H := Option.bind_eq_some_iff.mp H
    obtain ⟨t156, A60, H⟩ := H
    replace H : ((charabancref07_Take.f a0 ((IntKind.u16.wrap (Int.tdiv a1 256)) % 256) ((Int.tmod a1 256) % 256) a2).bind fun t157 => (if t156 = t157 then ((block_Give.f k a0 ((IntKind.u16.wrap (Int.tdiv a1 256)) % 256) ((Int.tmod a1 256) % 256)).bind fun t158 => ((charabancref07_Give.f a0 ((IntKind.u16.wrap (Int.tdiv a1 256)) % 256) ((Int.tmod a1 256) % 256)).bind fun t159 => (some (t158 == t159)))) else (some false))) = some r := H
    have A6 := Aside0.mk A60
    clear A60
    replace H := Option.bind_eq_some_iff.mp H
    obtain ⟨t157, A70, H⟩ := H
    replace H : (if t156 = t157 then ((block_Give.f k a0 ((IntKind.u16.wrap (Int.tdiv a1 256)) % 256) ((Int.tmod a1 256) % 256)).bind fun t158 => ((charabancref07_Give.f a0 ((IntKind.u16.wrap (Int.tdiv a1 256)) % 256) ((Int.tmod a1 256) % 256)).bind fun t159 => (some (t158 == t159)))) else (some false)) = some r := H
    have A7 := Aside0.mk A70
    clear A70
    by_cases c8 : t156 = t157
    · rw [if_pos c8] at H
      have c8b0 : (t156 == t157) = true := beq_iff_eq.mpr c8
      have c8b1 : (t156 != t157) = false := bne_eq_false_iff_eq.mpr c8
      clear c8
      replace H := Option.bind_eq_some_iff.mp H
      obtain ⟨t158, A90, H⟩ := H
      replace H : ((charabancref07_Give.f a0 ((IntKind.u16.wrap (Int.tdiv a1 256)) % 256) ((Int.tmod a1 256) % 256)).bind fun t159 => (some (t158 == t159))) = some r := H
      have A9 := Aside0.mk A90
      clear A90
      replace H := Option.bind_eq_some_iff.mp H
      obtain ⟨t159, A100, H⟩ := H
      replace H : (some (t158 == t159)) = some r := H
      have A10 := Aside0.mk A100
      clear A100
      obtain rfl := Option.some.inj H
      go_enter Try.func4, Try.ntmps4
      go_wp2_with (first | ((with_reducible refine gate_callee (f := 11) rfl ?_); refine goesL_ (some 10) rfl rfl Try.func11 (by kernel_rfl) rfl #[] rfl (by (try simp only [List.map_toArray, List.map_cons, List.map_nil]); first | done | rfl | (simp only [List.length_drop, List.length_take]; rfl)) ?_; (with_reducible refine (charabanclaw07_awake.calls k  true _ A4.out).mono ?_); rintro e w11 ⟨rfl, hb⟩; refine ⟨_, rfl, ?_⟩; have n0_ := Aside0.mk (below_step (by repeat (first | (with_reducible first | exact HB.out | apply below_alloc | apply pw_below_drewN | apply below_drew1) | exact HB.out)) hb); clear HB; have HB := n0_; clear n0_; (try clear hb); (try clear hb2); (try clear hk); (try clear hi)) | ((with_reducible refine gate_callee (f := 16) rfl ?_); refine goesL_ (some 23) rfl rfl Try.func16 (by kernel_rfl) rfl #[.int .u8 a0, .int .u8 ((IntKind.u16.wrap (Int.tdiv a1 256)) % 256), .int .u8 ((Int.tmod a1 256) % 256), .int .i64 a2] rfl (by (try simp only [List.map_toArray, List.map_cons, List.map_nil]); first | done | rfl | (simp only [List.length_drop, List.length_take]; rfl)) ?_; (with_reducible refine (block_Take.calls k a0 ((IntKind.u16.wrap (Int.tdiv a1 256)) % 256) ((Int.tmod a1 256) % 256) a2 t156 _ A6.out).mono ?_); rintro e w12 ⟨rfl, hb⟩; refine ⟨_, rfl, ?_⟩; have n0_ := Aside0.mk (below_step (by repeat (first | (with_reducible first | exact HB.out | apply below_alloc | apply pw_below_drewN | apply below_drew1) | exact HB.out)) hb); clear HB; have HB := n0_; clear n0_; (try clear hb); (try clear hb2); (try clear hk); (try clear hi)) | ((with_reducible refine gate_callee (f := 17) rfl ?_); refine goesL_ (some 28) rfl rfl Try.func17 (by kernel_rfl) rfl #[.int .u8 a0, .int .u8 ((IntKind.u16.wrap (Int.tdiv a1 256)) % 256), .int .u8 ((Int.tmod a1 256) % 256), .int .i64 a2] rfl (by (try simp only [List.map_toArray, List.map_cons, List.map_nil]); first | done | rfl | (simp only [List.length_drop, List.length_take]; rfl)) ?_; (with_reducible refine (charabancref07_Take.calls a0 ((IntKind.u16.wrap (Int.tdiv a1 256)) % 256) ((Int.tmod a1 256) % 256) a2 t157 _ A7.out).mono ?_); rintro e w13 ⟨rfl, hb⟩; refine ⟨_, rfl, ?_⟩; have n0_ := Aside0.mk (below_step (by repeat (first | (with_reducible first | exact HB.out | apply below_alloc | apply pw_below_drewN | apply below_drew1) | exact HB.out)) hb); clear HB; have HB := n0_; clear n0_; (try clear hb); (try clear hb2); (try clear hk); (try clear hi)) | (go_at_call 18; (with_reducible refine (block_Give.calls k a0 ((IntKind.u16.wrap (Int.tdiv a1 256)) % 256) ((Int.tmod a1 256) % 256) t158 _ A9.out).mono ?_); rintro e w14 ⟨rfl, hb⟩; have n0_ := Aside0.mk (below_step (by repeat (first | (with_reducible first | exact HB.out | apply below_alloc | apply pw_below_drewN | apply below_drew1) | exact HB.out)) hb); clear HB; have HB := n0_; clear n0_; (try clear hb); (try clear hb2); (try clear hk); (try clear hi)) | (go_at_call 19; (with_reducible refine (charabancref07_Give.calls a0 ((IntKind.u16.wrap (Int.tdiv a1 256)) % 256) ((Int.tmod a1 256) % 256) t159 _ A10.out).mono ?_); rintro e w15 ⟨rfl, hb⟩; have n0_ := Aside0.mk (below_step (by repeat (first | (with_reducible first | exact HB.out | apply below_alloc | apply pw_below_drewN | apply below_drew1) | exact HB.out)) hb); clear HB; have HB := n0_; clear n0_; (try clear hb); (try clear hb2); (try clear hk); (try clear hi)))
      first | go_ret | go_returns
      exact ⟨by first | rfl | (simp [errW_none, errW_some] <;> rfl) | (simp [*, errW_none, errW_some] <;> rfl), by repeat (first | (with_reducible first | exact HB.out | apply below_alloc | apply pw_below_drewN | apply below_drew1) | exact HB.out)⟩
    · rw [if_neg c8] at H
      have c8b0 : (t156 == t157) = false := beq_eq_false_iff_ne.mpr c8
      have c8b1 : (t156 != t157) = true := bne_iff_ne.mpr c8
      obtain rfl := Option.some.inj H
      go_enter Try.func4, Try.ntmps4
      go_wp2_with (first | ((with_reducible refine gate_callee (f := 11) rfl ?_); refine goesL_ (some 10) rfl rfl Try.func11 (by kernel_rfl) rfl #[] rfl (by (try simp only [List.map_toArray, List.map_cons, List.map_nil]); first | done | rfl | (simp only [List.length_drop, List.length_take]; rfl)) ?_; (with_reducible refine (charabanclaw07_awake.calls k  true _ A4.out).mono ?_); rintro e w16 ⟨rfl, hb⟩; refine ⟨_, rfl, ?_⟩; have n0_ := Aside0.mk (below_step (by repeat (first | (with_reducible first | exact HB.out | apply below_alloc | apply pw_below_drewN | apply below_drew1) | exact HB.out)) hb); clear HB; have HB := n0_; clear n0_; (try clear hb); (try clear hb2); (try clear hk); (try clear hi)) | ((with_reducible refine gate_callee (f := 16) rfl ?_); refine goesL_ (some 23) rfl rfl Try.func16 (by kernel_rfl) rfl #[.int .u8 a0, .int .u8 ((IntKind.u16.wrap (Int.tdiv a1 256)) % 256), .int .u8 ((Int.tmod a1 256) % 256), .int .i64 a2] rfl (by (try simp only [List.map_toArray, List.map_cons, List.map_nil]); first | done | rfl | (simp only [List.length_drop, List.length_take]; rfl)) ?_; (with_reducible refine (block_Take.calls k a0 ((IntKind.u16.wrap (Int.tdiv a1 256)) % 256) ((Int.tmod a1 256) % 256) a2 t156 _ A6.out).mono ?_); rintro e w17 ⟨rfl, hb⟩; refine ⟨_, rfl, ?_⟩; have n0_ := Aside0.mk (below_step (by repeat (first | (with_reducible first | exact HB.out | apply below_alloc | apply pw_below_drewN | apply below_drew1) | exact HB.out)) hb); clear HB; have HB := n0_; clear n0_; (try clear hb); (try clear hb2); (try clear hk); (try clear hi)) | ((with_reducible refine gate_callee (f := 17) rfl ?_); refine goesL_ (some 28) rfl rfl Try.func17 (by kernel_rfl) rfl #[.int .u8 a0, .int .u8 ((IntKind.u16.wrap (Int.tdiv a1 256)) % 256), .int .u8 ((Int.tmod a1 256) % 256), .int .i64 a2] rfl (by (try simp only [List.map_toArray, List.map_cons, List.map_nil]); first | done | rfl | (simp only [List.length_drop, List.length_take]; rfl)) ?_; (with_reducible refine (charabancref07_Take.calls a0 ((IntKind.u16.wrap (Int.tdiv a1 256)) % 256) ((Int.tmod a1 256) % 256) a2 t157 _ A7.out).mono ?_); rintro e w18 ⟨rfl, hb⟩; refine ⟨_, rfl, ?_⟩; have n0_ := Aside0.mk (below_step (by repeat (first | (with_reducible first | exact HB.out | apply below_alloc | apply pw_below_drewN | apply below_drew1) | exact HB.out)) hb); clear HB; have HB := n0_; clear n0_; (try clear hb); (try clear hb2); (try clear hk); (try clear hi)))
      first | go_ret | go_returns
      exact ⟨by first | rfl | (simp [errW_none, errW_some] <;> rfl) | (simp [*, errW_none, errW_some] <;> rfl), by repeat (first | (with_reducible first | exact HB.out | apply below_alloc | apply pw_below_drewN | apply below_drew1) | exact HB.out)⟩
  · replace c5 := Bool.eq_false_iff.mpr c5
    subst c5
    have H1 : (some false) = some r := by rw [if_neg (show ¬ (false = true) by decide)] at H; exact H
    clear H
    have H := H1
    clear H1
    obtain rfl := Option.some.inj H
    go_enter Try.func4, Try.ntmps4
    go_wp2_with (first | ((with_reducible refine gate_callee (f := 11) rfl ?_); refine goesL_ (some 10) rfl rfl Try.func11 (by kernel_rfl) rfl #[] rfl (by (try simp only [List.map_toArray, List.map_cons, List.map_nil]); first | done | rfl | (simp only [List.length_drop, List.length_take]; rfl)) ?_; (with_reducible refine (charabanclaw07_awake.calls k  false _ A4.out).mono ?_); rintro e w19 ⟨rfl, hb⟩; refine ⟨_, rfl, ?_⟩; have n0_ := Aside0.mk (below_step (by repeat (first | (with_reducible first | exact HB.out | apply below_alloc | apply pw_below_drewN | apply below_drew1) | exact HB.out)) hb); clear HB; have HB := n0_; clear n0_; (try clear hb); (try clear hb2); (try clear hk); (try clear hi)))
    first | go_ret | go_returns
    exact ⟨by first | rfl | (simp [errW_none, errW_some] <;> rfl) | (simp [*, errW_none, errW_some] <;> rfl), by repeat (first | (with_reducible first | exact HB.out | apply below_alloc | apply pw_below_drewN | apply below_drew1) | exact HB.out)⟩

/-- THE ONE PURE STATEMENT of charabanclaw07_BlockTakes: yours. -/
def charabanclaw07_BlockTakes.Pure : Prop := ∀ (a0 : Int) (a1 : Int) (a2 : Int), (Lit.int .u8 a0).wf = true → (Lit.int .u16 a1).wf = true → (Lit.int .i64 a2).wf = true → ∃ k, charabanclaw07_BlockTakes.f k a0 a1 a2 = some true
theorem charabanclaw07_BlockTakes.walk (P : charabanclaw07_BlockTakes.Pure) (a0 : Int) (a1 : Int) (a2 : Int) (w : World) (w0 : (Lit.int .u8 a0).wf = true) (w1 : (Lit.int .u16 a1).wf = true) (w2 : (Lit.int .i64 a2).wf = true) :
    Calls Try.prog 4 #[.int .u8 a0, .int .u16 a1, .int .i64 a2] w fun e w' => e = .returned (.bool true) ∧ Below w.heap.size w w' := by
  obtain ⟨k, h⟩ := P a0 a1 a2 w0 w1 w2
  refine (charabanclaw07_BlockTakes.calls k a0 a1 a2 true w h).mono ?_
  rintro e w' ⟨rfl, hd⟩
  exact ⟨rfl, hd⟩

/-! ### charabancref07_Again: function 21 -/
def charabancref07_Again.f (a0 : Int) (a1 : Int) : Option (Bool) := if (0 ≤ a1 ∧ a1 ≤ 255) then some (M.ragain a0 a1) else none
theorem charabancref07_Again.calls (a0 : Int) (a1 : Int) (r : Bool) (w : World) (h : charabancref07_Again.f a0 a1 = some r) :
    Calls Try.prog 21 #[.int .i64 a0, .int .u8 a1] w fun e w' => e = .returned (.bool r) ∧ Below w.heap.size w w' := by
  unfold charabancref07_Again.f at h
  split at h
  · rename_i hg
    obtain rfl := Option.some.inj h
    exact refagain_any a0 a1 (by omega) (by omega) w
  · cases h

end Go.Proofs.Ytkphidaoodedjaa.PK
