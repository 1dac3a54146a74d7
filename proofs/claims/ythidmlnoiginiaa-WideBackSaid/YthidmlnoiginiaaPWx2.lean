/- Written by a program of this session out of the translation and the contracts proved by hand: each function's answer and its proof; each law's statement over plain numbers. -/
import Derived.Test.YthidmlnoiginiaaPWx0
import Derived.Test.YthidmlnoiginiaaPWx1
namespace Go.Proofs.Ythidmlnoiginiaa.PW
open Go.RowKit Go.Proofs.YthidmlnoiginiaaW.PrintWords Go.Proofs.YthidmlnoiginiaaW.PrintLast Go.Proofs.YthidmlnoiginiaaW.PrintMore
attribute [local go_sem] max2_int min2_int max_two min_two max_three min_three max_four min_four   -- for this text's walks alone
set_option linter.unusedVariables false
set_option linter.unusedSimpArgs false

/-! ### charabancref01_With: function 25 -/
mutual
def charabancref01_With.j0 : Nat → Int → Int → Bool → Bool → Option (Int)
  | 0, _, _, _, _ => none
  | k + 1, x0, x1, x2, x14 => if x14 = true then (some x0) else ((charabancref01_Is.f k x0 x1).bind fun t130 => (if t130 = true then (charabancref01_With.j1 k x1 x2 t130 (wrap64 (x0)) (!x2)) else (charabancref01_With.j1 k x1 x2 t130 (wrap64 (x0)) false)))
def charabancref01_With.j1 : Nat → Int → Bool → Bool → Int → Bool → Option (Int)
  | 0, _, _, _, _, _ => none
  | k + 1, x1, x2, x7, x8, x25 => if x25 = true then ((charabancref01_Power.f k x1).bind fun t131 => (if x7 = true then (some ((wrap64 (x8 - t131)) % 256)) else (if x2 = true then ((charabancref01_Power.f k x1).bind fun t132 => (some ((wrap64 ((wrap64 (x8 - t131)) + t132)) % 256))) else (some ((wrap64 (x8 - t131)) % 256))))) else (if x7 = true then (some ((x8) % 256)) else (if x2 = true then ((charabancref01_Power.f k x1).bind fun t133 => (some ((wrap64 (x8 + t133)) % 256))) else (some ((x8) % 256))))
end
def charabancref01_With.f (k : Nat) (a0 : Int) (a1 : Int) (a2 : Bool) : Option (Int) := if a1 < 0 then (charabancref01_With.j0 k a0 a1 a2 true) else (charabancref01_With.j0 k a0 a1 a2 (decide (a1 > 7)))
theorem charabancref01_With.mono_l : ∀ k, (∀ y0 y1 y2 y3, LeO (charabancref01_With.j0 k y0 y1 y2 y3) (charabancref01_With.j0 (k + 1) y0 y1 y2 y3)) ∧ (∀ y0 y1 y2 y3 y4, LeO (charabancref01_With.j1 k y0 y1 y2 y3 y4) (charabancref01_With.j1 (k + 1) y0 y1 y2 y3 y4))
  | 0 => ⟨fun _ _ _ _ r h => by simp [charabancref01_With.j0] at h, fun _ _ _ _ _ r h => by simp [charabancref01_With.j1] at h⟩
  | k + 1 => by
    obtain ⟨ih0, ih1⟩ := charabancref01_With.mono_l k
    refine ⟨?_, ?_⟩
    · intro y0 y1 y2 y3
      unfold charabancref01_With.j0
      repeat' first
      | (with_reducible exact ih0 _ _ _ _)
      | (with_reducible exact ih1 _ _ _ _ _)
      | (with_reducible exact charabancref01_Is.mono _ _ _)
      | (with_reducible exact charabancref01_Power.mono _ _)
      | (with_reducible exact LeO.refl _)
      | (with_reducible exact LeO.none _)
      | (with_reducible refine LeO.ite ?_ ?_)
      | (with_reducible refine LeO.bind ?_ (fun _ => ?_))
      | exact ih0 _ _ _ _
      | exact ih1 _ _ _ _ _
      | exact charabancref01_Is.mono _ _ _
      | exact charabancref01_Power.mono _ _
      | exact LeO.none _
      | refine LeO.ite ?_ ?_
      | refine LeO.bind ?_ (fun _ => ?_)
    · intro y0 y1 y2 y3 y4
      unfold charabancref01_With.j1
      repeat' first
      | (with_reducible exact ih0 _ _ _ _)
      | (with_reducible exact ih1 _ _ _ _ _)
      | (with_reducible exact charabancref01_Is.mono _ _ _)
      | (with_reducible exact charabancref01_Power.mono _ _)
      | (with_reducible exact LeO.refl _)
      | (with_reducible exact LeO.none _)
      | (with_reducible refine LeO.ite ?_ ?_)
      | (with_reducible refine LeO.bind ?_ (fun _ => ?_))
      | exact ih0 _ _ _ _
      | exact ih1 _ _ _ _ _
      | exact charabancref01_Is.mono _ _ _
      | exact charabancref01_Power.mono _ _
      | exact LeO.none _
      | refine LeO.ite ?_ ?_
      | refine LeO.bind ?_ (fun _ => ?_)
theorem charabancref01_With.mono : ∀ a0 a1 a2 k, LeO (charabancref01_With.f k a0 a1 a2) (charabancref01_With.f (k + 1) a0 a1 a2) := by
  intro a0 a1 a2 k
  obtain ⟨ih0, ih1⟩ := charabancref01_With.mono_l k
  unfold charabancref01_With.f
  repeat' first
      | (with_reducible exact ih0 _ _ _ _)
      | (with_reducible exact ih1 _ _ _ _ _)
      | (with_reducible exact charabancref01_Is.mono _ _ _)
      | (with_reducible exact charabancref01_Power.mono _ _)
      | (with_reducible exact LeO.refl _)
      | (with_reducible exact LeO.none _)
      | (with_reducible refine LeO.ite ?_ ?_)
      | (with_reducible refine LeO.bind ?_ (fun _ => ?_))
      | exact ih0 _ _ _ _
      | exact ih1 _ _ _ _ _
      | exact charabancref01_Is.mono _ _ _
      | exact charabancref01_Power.mono _ _
      | exact LeO.none _
      | refine LeO.ite ?_ ?_
      | refine LeO.bind ?_ (fun _ => ?_)
set_option maxHeartbeats 8000000 in
set_option maxRecDepth 100000 in
theorem charabancref01_With.calls (k : Nat) (a0 : Int) (a1 : Int) (a2 : Bool) (r : Int) (w : World) (h : charabancref01_With.f k a0 a1 a2 = some r) :
    Calls Try.prog 25 #[.int .u8 a0, .int .i64 a1, .bool a2] w fun e w' => e = .returned (.int .u8 r) ∧ Drawn0 w w' := by
  have H : (if a1 < 0 then (charabancref01_With.j0 k a0 a1 a2 true) else (charabancref01_With.j0 k a0 a1 a2 (decide (a1 > 7)))) = some r := h
  clear h
  have HC4 := Aside0.mk H
  clear H
  go_enter Try.func25, Try.ntmps25
  go_upto_region 1 with (fail)
  go_cut [14] (fun v14 wc => ∃ (kq : Nat) (x14_3 : Bool), v14 = .bool x14_3 ∧ Aside0 (charabancref01_With.j0 kq a0 a1 a2 x14_3 = some r) ∧ Aside0 (kq ≤ k) ∧ Drawn0 w wc)
  case first =>
    have H := HC4.out
    clear HC4
    by_cases c5 : a1 < 0
    · rw [if_pos c5] at H
      have c5b0 : decide (a1 < 0) = true := decide_eq_true c5
      clear c5
      (first | rw [c5b0] | (simp only [i64_w, i32_w]; rw [c5b0]) | skip)
      have H' := Aside0.mk H
      clear H
      go_wp2
      go_meet
      case rel => exact ⟨_, (true), (by first | rfl | (simp; done) | (simp [*]; done)), H', ⟨by first | omega | exact Nat.le_refl _⟩, by repeat (first | exact Drawn0.refl _ | apply Drawn0.step)⟩
    · rw [if_neg c5] at H
      have c5b0 : decide (a1 < 0) = false := decide_eq_false c5
      clear c5
      (first | rw [c5b0] | (simp only [i64_w, i32_w]; rw [c5b0]) | skip)
      have H' := Aside0.mk H
      clear H
      go_wp2
      go_meet
      case rel => exact ⟨_, (decide (a1 > 7)), (by first | rfl | (simp; done) | (simp [*]; done)), H', ⟨by first | omega | exact Nat.le_refl _⟩, by repeat (first | exact Drawn0.refl _ | apply Drawn0.step)⟩
  case rest =>
    clear HC4
    try clear c2
    try clear p2
    try clear c5
    try clear c5b0
    obtain ⟨kq, x14_3, rfl, HA, HJ3, ⟨mc3, rfl⟩⟩ := hcut
    cases kq with
    | zero => exact absurd HA.out (by simp [charabancref01_With.j0])
    | succ kj3 =>
      have H := HA.out
      clear HA
      simp only [charabancref01_With.j0] at H
      by_cases c6 : x14_3 = true
      · subst c6
        have H1 : (some a0) = some r := by rw [if_pos rfl] at H; exact H
        clear H
        have H := H1
        clear H1
        obtain rfl := Option.some.inj H
        go_wp2
        go_ret
        exact ⟨by first | rfl | (simp; done) | (simp [*]; done), by repeat (first | exact Drawn0.refl _ | apply Drawn0.step)⟩
      · replace c6 := Bool.eq_false_iff.mpr c6
        subst c6
        have H1 : ((charabancref01_Is.f kj3 a0 a1).bind fun t130 => (if t130 = true then (charabancref01_With.j1 kj3 a1 a2 t130 (wrap64 (a0)) (!a2)) else (charabancref01_With.j1 kj3 a1 a2 t130 (wrap64 (a0)) false))) = some r := by rw [if_neg (show ¬ (false = true) by decide)] at H; exact H
        clear H
        have H := H1
        clear H1
        replace H := Option.bind_eq_some_iff.mp H
        obtain ⟨t130, A70, H⟩ := H
        replace H : (if t130 = true then (charabancref01_With.j1 kj3 a1 a2 t130 (wrap64 (a0)) (!a2)) else (charabancref01_With.j1 kj3 a1 a2 t130 (wrap64 (a0)) false)) = some r := H
        have A7 := Aside0.mk A70
        clear A70
        have HC8 := Aside0.mk H
        clear H
        go_upto_region 5 with (first | ((with_reducible refine gate_callee (f := 23) rfl ?_); refine goesL_ (some 18) rfl rfl Try.func23 (by kernel_rfl) rfl #[.int .u8 a0, .int .i64 a1] rfl (by (try simp only [List.map_toArray, List.map_cons, List.map_nil]); first | done | rfl | (simp only [List.length_drop, List.length_take]; rfl)) ?_; (with_reducible refine (charabancref01_Is.calls kj3 a0 a1 t130 _ A7.out).mono ?_); rintro e w' ⟨rfl, ⟨nd, rfl⟩⟩; refine ⟨_, rfl, ?_⟩))
        (try simp only [Act.put, List.setIfInBounds_toArray, List.set_cons_zero, List.set_cons_succ])
        go_cut [25] (fun v25 wc => ∃ (kq : Nat) (x25_7 : Bool), v25 = .bool x25_7 ∧ Aside0 (charabancref01_With.j1 kq a1 a2 t130 (wrap64 (a0)) x25_7 = some r) ∧ Aside0 (kq ≤ kj3) ∧ Drawn0 w wc)
        case first =>
          have H := HC8.out
          clear HC8
          by_cases c9 : t130 = true
          · subst c9
            have H1 : (charabancref01_With.j1 kj3 a1 a2 true (wrap64 (a0)) (!a2)) = some r := by rw [if_pos rfl] at H; exact H
            clear H
            have H := H1
            clear H1
            have H' := Aside0.mk H
            clear H
            go_wp2
            go_meet
            case rel => exact ⟨_, (!a2), (by first | rfl | (simp; done) | (simp [*]; done)), H', ⟨by have := HJ3.out; first | omega | exact Nat.le_refl _⟩, by repeat (first | exact Drawn0.refl _ | apply Drawn0.step)⟩
          · replace c9 := Bool.eq_false_iff.mpr c9
            subst c9
            have H1 : (charabancref01_With.j1 kj3 a1 a2 false (wrap64 (a0)) false) = some r := by rw [if_neg (show ¬ (false = true) by decide)] at H; exact H
            clear H
            have H := H1
            clear H1
            have H' := Aside0.mk H
            clear H
            go_wp2
            go_meet
            case rel => exact ⟨_, (false), (by first | rfl | (simp; done) | (simp [*]; done)), H', ⟨by have := HJ3.out; first | omega | exact Nat.le_refl _⟩, by repeat (first | exact Drawn0.refl _ | apply Drawn0.step)⟩
        case rest =>
          clear HC8
          try clear c2
          try clear p2
          try clear c3
          try clear c5
          try clear c5b0
          try clear c6
          try clear p6
          try clear c9
          try clear p2
          obtain ⟨kq, x25_7, rfl, HA, HJ7, ⟨mc7, rfl⟩⟩ := hcut
          cases kq with
          | zero => exact absurd HA.out (by simp [charabancref01_With.j1])
          | succ kj7 =>
            have H := HA.out
            clear HA
            simp only [charabancref01_With.j1] at H
            by_cases c10 : x25_7 = true
            · subst c10
              have H1 : ((charabancref01_Power.f kj7 a1).bind fun t131 => (if t130 = true then (some ((wrap64 ((wrap64 (a0)) - t131)) % 256)) else (if a2 = true then ((charabancref01_Power.f kj7 a1).bind fun t132 => (some ((wrap64 ((wrap64 ((wrap64 (a0)) - t131)) + t132)) % 256))) else (some ((wrap64 ((wrap64 (a0)) - t131)) % 256))))) = some r := by rw [if_pos rfl] at H; exact H
              clear H
              have H := H1
              clear H1
              replace H := Option.bind_eq_some_iff.mp H
              obtain ⟨t131, A110, H⟩ := H
              replace H : (if t130 = true then (some ((wrap64 ((wrap64 (a0)) - t131)) % 256)) else (if a2 = true then ((charabancref01_Power.f kj7 a1).bind fun t132 => (some ((wrap64 ((wrap64 ((wrap64 (a0)) - t131)) + t132)) % 256))) else (some ((wrap64 ((wrap64 (a0)) - t131)) % 256)))) = some r := H
              have A11 := Aside0.mk A110
              clear A110
              by_cases c12 : t130 = true
              · subst c12
                have H1 : (some ((wrap64 ((wrap64 (a0)) - t131)) % 256)) = some r := by rw [if_pos rfl] at H; exact H
                clear H
                have H := H1
                clear H1
                obtain rfl := Option.some.inj H
                go_wp2_with (first | ((with_reducible refine gate_callee (f := 59) rfl ?_); refine goesL_ (some 28) rfl rfl Try.func59 (by kernel_rfl) rfl #[.int .i64 a1] rfl (by (try simp only [List.map_toArray, List.map_cons, List.map_nil]); first | done | rfl | (simp only [List.length_drop, List.length_take]; rfl)) ?_; (with_reducible refine (charabancref01_Power.calls kj7 a1 t131 _ A11.out).mono ?_); rintro e w' ⟨rfl, ⟨nd, rfl⟩⟩; refine ⟨_, rfl, ?_⟩))
                go_ret
                exact ⟨by first | rfl | (simp; done) | (simp [*]; done), by repeat (first | exact Drawn0.refl _ | apply Drawn0.step)⟩
              · replace c12 := Bool.eq_false_iff.mpr c12
                subst c12
                have H1 : (if a2 = true then ((charabancref01_Power.f kj7 a1).bind fun t132 => (some ((wrap64 ((wrap64 ((wrap64 (a0)) - t131)) + t132)) % 256))) else (some ((wrap64 ((wrap64 (a0)) - t131)) % 256))) = some r := by rw [if_neg (show ¬ (false = true) by decide)] at H; exact H
                clear H
                have H := H1
                clear H1
                by_cases c13 : a2 = true
                · subst c13
                  have H1 : ((charabancref01_Power.f kj7 a1).bind fun t132 => (some ((wrap64 ((wrap64 ((wrap64 (a0)) - t131)) + t132)) % 256))) = some r := by rw [if_pos rfl] at H; exact H
                  clear H
                  have H := H1
                  clear H1
                  replace H := Option.bind_eq_some_iff.mp H
                  obtain ⟨t132, A140, H⟩ := H
                  replace H : (some ((wrap64 ((wrap64 ((wrap64 (a0)) - t131)) + t132)) % 256)) = some r := H
                  have A14 := Aside0.mk A140
                  clear A140
                  obtain rfl := Option.some.inj H
                  go_wp2_with (first | ((with_reducible refine gate_callee (f := 59) rfl ?_); refine goesL_ (some 28) rfl rfl Try.func59 (by kernel_rfl) rfl #[.int .i64 a1] rfl (by (try simp only [List.map_toArray, List.map_cons, List.map_nil]); first | done | rfl | (simp only [List.length_drop, List.length_take]; rfl)) ?_; (with_reducible refine (charabancref01_Power.calls kj7 a1 t131 _ A11.out).mono ?_); rintro e w' ⟨rfl, ⟨nd, rfl⟩⟩; refine ⟨_, rfl, ?_⟩) | ((with_reducible refine gate_callee (f := 59) rfl ?_); refine goesL_ (some 37) rfl rfl Try.func59 (by kernel_rfl) rfl #[.int .i64 a1] rfl (by (try simp only [List.map_toArray, List.map_cons, List.map_nil]); first | done | rfl | (simp only [List.length_drop, List.length_take]; rfl)) ?_; (with_reducible refine (charabancref01_Power.calls kj7 a1 t132 _ A14.out).mono ?_); rintro e w' ⟨rfl, ⟨nd, rfl⟩⟩; refine ⟨_, rfl, ?_⟩))
                  go_ret
                  exact ⟨by first | rfl | (simp; done) | (simp [*]; done), by repeat (first | exact Drawn0.refl _ | apply Drawn0.step)⟩
                · replace c13 := Bool.eq_false_iff.mpr c13
                  subst c13
                  have H1 : (some ((wrap64 ((wrap64 (a0)) - t131)) % 256)) = some r := by rw [if_neg (show ¬ (false = true) by decide)] at H; exact H
                  clear H
                  have H := H1
                  clear H1
                  obtain rfl := Option.some.inj H
                  go_wp2_with (first | ((with_reducible refine gate_callee (f := 59) rfl ?_); refine goesL_ (some 28) rfl rfl Try.func59 (by kernel_rfl) rfl #[.int .i64 a1] rfl (by (try simp only [List.map_toArray, List.map_cons, List.map_nil]); first | done | rfl | (simp only [List.length_drop, List.length_take]; rfl)) ?_; (with_reducible refine (charabancref01_Power.calls kj7 a1 t131 _ A11.out).mono ?_); rintro e w' ⟨rfl, ⟨nd, rfl⟩⟩; refine ⟨_, rfl, ?_⟩))
                  go_ret
                  exact ⟨by first | rfl | (simp; done) | (simp [*]; done), by repeat (first | exact Drawn0.refl _ | apply Drawn0.step)⟩
            · replace c10 := Bool.eq_false_iff.mpr c10
              subst c10
              have H1 : (if t130 = true then (some (((wrap64 (a0))) % 256)) else (if a2 = true then ((charabancref01_Power.f kj7 a1).bind fun t133 => (some ((wrap64 ((wrap64 (a0)) + t133)) % 256))) else (some (((wrap64 (a0))) % 256)))) = some r := by rw [if_neg (show ¬ (false = true) by decide)] at H; exact H
              clear H
              have H := H1
              clear H1
              by_cases c15 : t130 = true
              · subst c15
                have H1 : (some (((wrap64 (a0))) % 256)) = some r := by rw [if_pos rfl] at H; exact H
                clear H
                have H := H1
                clear H1
                obtain rfl := Option.some.inj H
                go_wp2
                go_ret
                exact ⟨by first | rfl | (simp; done) | (simp [*]; done), by repeat (first | exact Drawn0.refl _ | apply Drawn0.step)⟩
              · replace c15 := Bool.eq_false_iff.mpr c15
                subst c15
                have H1 : (if a2 = true then ((charabancref01_Power.f kj7 a1).bind fun t133 => (some ((wrap64 ((wrap64 (a0)) + t133)) % 256))) else (some (((wrap64 (a0))) % 256))) = some r := by rw [if_neg (show ¬ (false = true) by decide)] at H; exact H
                clear H
                have H := H1
                clear H1
                by_cases c16 : a2 = true
                · subst c16
                  have H1 : ((charabancref01_Power.f kj7 a1).bind fun t133 => (some ((wrap64 ((wrap64 (a0)) + t133)) % 256))) = some r := by rw [if_pos rfl] at H; exact H
                  clear H
                  have H := H1
                  clear H1
                  replace H := Option.bind_eq_some_iff.mp H
                  obtain ⟨t133, A170, H⟩ := H
                  replace H : (some ((wrap64 ((wrap64 (a0)) + t133)) % 256)) = some r := H
                  have A17 := Aside0.mk A170
                  clear A170
                  obtain rfl := Option.some.inj H
                  go_wp2_with (first | ((with_reducible refine gate_callee (f := 59) rfl ?_); refine goesL_ (some 37) rfl rfl Try.func59 (by kernel_rfl) rfl #[.int .i64 a1] rfl (by (try simp only [List.map_toArray, List.map_cons, List.map_nil]); first | done | rfl | (simp only [List.length_drop, List.length_take]; rfl)) ?_; (with_reducible refine (charabancref01_Power.calls kj7 a1 t133 _ A17.out).mono ?_); rintro e w' ⟨rfl, ⟨nd, rfl⟩⟩; refine ⟨_, rfl, ?_⟩))
                  go_ret
                  exact ⟨by first | rfl | (simp; done) | (simp [*]; done), by repeat (first | exact Drawn0.refl _ | apply Drawn0.step)⟩
                · replace c16 := Bool.eq_false_iff.mpr c16
                  subst c16
                  have H1 : (some (((wrap64 (a0))) % 256)) = some r := by rw [if_neg (show ¬ (false = true) by decide)] at H; exact H
                  clear H
                  have H := H1
                  clear H1
                  obtain rfl := Option.some.inj H
                  go_wp2
                  go_ret
                  exact ⟨by first | rfl | (simp; done) | (simp [*]; done), by repeat (first | exact Drawn0.refl _ | apply Drawn0.step)⟩

-- NOT PRINTED: function 70 (charabancref02_Make)

/-! ### charabancref01_Hi: function 19 -/
def charabancref01_Hi.f (a0 : Int) : Option (Int) := some ((wrap64 (Int.tdiv (wrap64 (a0)) 256)) % 256)
set_option maxHeartbeats 8000000 in
set_option maxRecDepth 100000 in
theorem charabancref01_Hi.calls (a0 : Int) (r : Int) (w : World) (h : charabancref01_Hi.f a0 = some r) :
    Calls Try.prog 19 #[.int .u16 a0] w fun e w' => e = .returned (.int .u8 r) ∧ Drawn0 w w' := by
  have H : (some ((wrap64 (Int.tdiv (wrap64 (a0)) 256)) % 256)) = some r := h
  clear h
  obtain rfl := Option.some.inj H
  go_enter Try.func19, Try.ntmps19
  go_wp2
  go_ret
  exact ⟨by first | rfl | (simp; done) | (simp [*]; done), by repeat (first | exact Drawn0.refl _ | apply Drawn0.step)⟩

-- NOT PRINTED: function 73 (charabancref04_lines)

/-! ### charabancref04_Add: function 49 -/
def charabancref04_Add.f (a0 : Int) (a1 : Int) (a2 : Int) : Option (Int × Int) := if (0 ≤ a0 ∧ a0 ≤ 65535) ∧ (0 ≤ a1 ∧ a1 ≤ 65535) ∧ (0 ≤ a2 ∧ a2 ≤ 255) then some ((a0 + a1) % 65536, M.rwaddF a0 a1 a2) else none
theorem charabancref04_Add.calls (a0 : Int) (a1 : Int) (a2 : Int) (r1 : Int) (r2 : Int) (w : World) (h : charabancref04_Add.f a0 a1 a2 = some (r1, r2)) :
    Calls Try.prog 49 #[.int .u16 a0, .int .u16 a1, .int .u8 a2] w fun e w' => e = .returned (.tuple #[.int .u16 r1, .int .u8 r2]) ∧ Below w.heap.size w w' := by
  unfold charabancref04_Add.f at h
  split at h
  · rename_i hg
    simp only [Option.some.injEq, Prod.mk.injEq] at h
    obtain ⟨rfl, rfl⟩ := h
    exact refwadd_any a0 a1 a2 (by omega) (by omega) (by omega) (by omega) (by omega) (by omega) w
  · cases h

/-! ### charabancref04_carry: function 74 -/
def charabancref04_carry.f (k : Nat) (a0 : Int) : Option (Int) := (charabancref01_Is.f k a0 0).bind fun t134 => (if t134 = true then (some 1) else (some 0))
theorem charabancref04_carry.mono : ∀ a0 k, LeO (charabancref04_carry.f k a0) (charabancref04_carry.f (k + 1) a0) := by
  intro a0 k
  unfold charabancref04_carry.f
  repeat' first
      | (with_reducible exact charabancref01_Is.mono _ _ _)
      | (with_reducible exact LeO.refl _)
      | (with_reducible exact LeO.none _)
      | (with_reducible refine LeO.ite ?_ ?_)
      | (with_reducible refine LeO.bind ?_ (fun _ => ?_))
      | exact charabancref01_Is.mono _ _ _
      | exact LeO.none _
      | refine LeO.ite ?_ ?_
      | refine LeO.bind ?_ (fun _ => ?_)
set_option maxHeartbeats 8000000 in
set_option maxRecDepth 100000 in
theorem charabancref04_carry.calls (k : Nat) (a0 : Int) (r : Int) (w : World) (h : charabancref04_carry.f k a0 = some r) :
    Calls Try.prog 74 #[.int .u8 a0] w fun e w' => e = .returned (.int .i64 r) ∧ Drawn0 w w' := by
  have H : ((charabancref01_Is.f k a0 0).bind fun t134 => (if t134 = true then (some 1) else (some 0))) = some r := h
  clear h
  replace H := Option.bind_eq_some_iff.mp H
  obtain ⟨t134, A20, H⟩ := H
  replace H : (if t134 = true then (some 1) else (some 0)) = some r := H
  have A2 := Aside0.mk A20
  clear A20
  by_cases c3 : t134 = true
  · subst c3
    have H1 : (some 1) = some r := by rw [if_pos rfl] at H; exact H
    clear H
    have H := H1
    clear H1
    obtain rfl := Option.some.inj H
    go_enter Try.func74, Try.ntmps74
    go_wp2_with (first | ((with_reducible refine gate_callee (f := 23) rfl ?_); refine goesL_ (some 5) rfl rfl Try.func23 (by kernel_rfl) rfl #[.int .u8 a0, .int .i64 0] rfl (by (try simp only [List.map_toArray, List.map_cons, List.map_nil]); first | done | rfl | (simp only [List.length_drop, List.length_take]; rfl)) ?_; (with_reducible refine (charabancref01_Is.calls k a0 0 true _ A2.out).mono ?_); rintro e w' ⟨rfl, ⟨nd, rfl⟩⟩; refine ⟨_, rfl, ?_⟩))
    go_ret
    exact ⟨by first | rfl | (simp; done) | (simp [*]; done), by repeat (first | exact Drawn0.refl _ | apply Drawn0.step)⟩
  · replace c3 := Bool.eq_false_iff.mpr c3
    subst c3
    have H1 : (some 0) = some r := by rw [if_neg (show ¬ (false = true) by decide)] at H; exact H
    clear H
    have H := H1
    clear H1
    obtain rfl := Option.some.inj H
    go_enter Try.func74, Try.ntmps74
    go_wp2_with (first | ((with_reducible refine gate_callee (f := 23) rfl ?_); refine goesL_ (some 5) rfl rfl Try.func23 (by kernel_rfl) rfl #[.int .u8 a0, .int .i64 0] rfl (by (try simp only [List.map_toArray, List.map_cons, List.map_nil]); first | done | rfl | (simp only [List.length_drop, List.length_take]; rfl)) ?_; (with_reducible refine (charabancref01_Is.calls k a0 0 false _ A2.out).mono ?_); rintro e w' ⟨rfl, ⟨nd, rfl⟩⟩; refine ⟨_, rfl, ?_⟩))
    go_ret
    exact ⟨by first | rfl | (simp; done) | (simp [*]; done), by repeat (first | exact Drawn0.refl _ | apply Drawn0.step)⟩

/-! ### charabancref04_signed: function 75 -/
def charabancref04_signed.f (a0 : Int) : Option (Int) := if a0 < 32768 then (some (wrap64 (a0))) else (some (wrap64 ((wrap64 (a0)) - 65536)))
set_option maxHeartbeats 8000000 in
set_option maxRecDepth 100000 in
theorem charabancref04_signed.calls (a0 : Int) (r : Int) (w : World) (h : charabancref04_signed.f a0 = some r) :
    Calls Try.prog 75 #[.int .u16 a0] w fun e w' => e = .returned (.int .i64 r) ∧ Drawn0 w w' := by
  have H : (if a0 < 32768 then (some (wrap64 (a0))) else (some (wrap64 ((wrap64 (a0)) - 65536)))) = some r := h
  clear h
  by_cases c2 : a0 < 32768
  · rw [if_pos c2] at H
    have c2b0 : decide (a0 < 32768) = true := decide_eq_true c2
    clear c2
    obtain rfl := Option.some.inj H
    go_enter Try.func75, Try.ntmps75
    go_wp2
    go_ret
    exact ⟨by first | rfl | (simp; done) | (simp [*]; done), by repeat (first | exact Drawn0.refl _ | apply Drawn0.step)⟩
  · rw [if_neg c2] at H
    have c2b0 : decide (a0 < 32768) = false := decide_eq_false c2
    clear c2
    obtain rfl := Option.some.inj H
    go_enter Try.func75, Try.ntmps75
    go_wp2
    go_ret
    exact ⟨by first | rfl | (simp; done) | (simp [*]; done), by repeat (first | exact Drawn0.refl _ | apply Drawn0.step)⟩

/-! ### charabancref04_result: function 76 -/
def charabancref04_result.f (a0 : Int) (a1 : Bool) (a2 : Bool) (a3 : Bool) (a4 : Bool) : Option (Int) := if (0 ≤ a0 ∧ a0 ≤ 65535) then some (M.mk (M.is (a0 / 256) 7) (a0 == 0) (M.is (a0 / 256) 5) a1 (M.is (a0 / 256) 3) a2 a4 a3) else none
theorem charabancref04_result.calls (a0 : Int) (a1 : Bool) (a2 : Bool) (a3 : Bool) (a4 : Bool) (r : Int) (w : World) (h : charabancref04_result.f a0 a1 a2 a3 a4 = some r) :
    Calls Try.prog 76 #[.int .u16 a0, .bool a1, .bool a2, .bool a3, .bool a4] w fun e w' => e = .returned (.int .u8 r) ∧ Below w.heap.size w w' := by
  unfold charabancref04_result.f at h
  split at h
  · rename_i hg
    obtain rfl := Option.some.inj h
    exact refwresult_any a0 a1 a2 a3 a4 (by omega) (by omega) w
  · cases h

/-! ### charabancref04_Adc: function 51 -/
def charabancref04_Adc.f (k : Nat) (a0 : Int) (a1 : Int) (a2 : Int) : Option (Int × Int) := (charabancref04_carry.f k a2).bind fun t135 => ((charabancref04_signed.f a0).bind fun t136 => ((charabancref04_signed.f a1).bind fun t137 => (if (wrap64 ((wrap64 (t136 + t137)) + t135)) < (-32768) then ((charabancref04_result.f (IntKind.u16.wrap (Int.tmod (wrap64 ((wrap64 ((wrap64 (a0)) + (wrap64 (a1)))) + t135)) 65536)) (decide ((wrap64 ((wrap64 ((Int.tmod (wrap64 (a0)) 4096) + (Int.tmod (wrap64 (a1)) 4096))) + t135)) > 4095)) true (decide ((wrap64 ((wrap64 ((wrap64 (a0)) + (wrap64 (a1)))) + t135)) > 65535)) false).bind fun t138 => (some (IntKind.u16.wrap (Int.tmod (wrap64 ((wrap64 ((wrap64 (a0)) + (wrap64 (a1)))) + t135)) 65536), t138))) else ((charabancref04_result.f (IntKind.u16.wrap (Int.tmod (wrap64 ((wrap64 ((wrap64 (a0)) + (wrap64 (a1)))) + t135)) 65536)) (decide ((wrap64 ((wrap64 ((Int.tmod (wrap64 (a0)) 4096) + (Int.tmod (wrap64 (a1)) 4096))) + t135)) > 4095)) (decide ((wrap64 ((wrap64 (t136 + t137)) + t135)) > 32767)) (decide ((wrap64 ((wrap64 ((wrap64 (a0)) + (wrap64 (a1)))) + t135)) > 65535)) false).bind fun t139 => (some (IntKind.u16.wrap (Int.tmod (wrap64 ((wrap64 ((wrap64 (a0)) + (wrap64 (a1)))) + t135)) 65536), t139))))))
theorem charabancref04_Adc.mono : ∀ a0 a1 a2 k, LeO (charabancref04_Adc.f k a0 a1 a2) (charabancref04_Adc.f (k + 1) a0 a1 a2) := by
  intro a0 a1 a2 k
  unfold charabancref04_Adc.f
  repeat' first
      | (with_reducible exact charabancref04_carry.mono _ _)
      | (with_reducible exact LeO.refl _)
      | (with_reducible exact LeO.none _)
      | (with_reducible refine LeO.ite ?_ ?_)
      | (with_reducible refine LeO.bind ?_ (fun _ => ?_))
      | exact charabancref04_carry.mono _ _
      | exact LeO.none _
      | refine LeO.ite ?_ ?_
      | refine LeO.bind ?_ (fun _ => ?_)
set_option maxHeartbeats 8000000 in
set_option maxRecDepth 100000 in
theorem charabancref04_Adc.calls (k : Nat) (a0 : Int) (a1 : Int) (a2 : Int) (r1 : Int) (r2 : Int) (w : World) (h : charabancref04_Adc.f k a0 a1 a2 = some (r1, r2)) :
    Calls Try.prog 51 #[.int .u16 a0, .int .u16 a1, .int .u8 a2] w fun e w' => e = .returned (.tuple #[.int .u16 r1, .int .u8 r2]) ∧ Below w.heap.size w w' := by
  have HB := Aside0.mk (Below.refl w.heap.size w)
  have H : ((charabancref04_carry.f k a2).bind fun t135 => ((charabancref04_signed.f a0).bind fun t136 => ((charabancref04_signed.f a1).bind fun t137 => (if (wrap64 ((wrap64 (t136 + t137)) + t135)) < (-32768) then ((charabancref04_result.f (IntKind.u16.wrap (Int.tmod (wrap64 ((wrap64 ((wrap64 (a0)) + (wrap64 (a1)))) + t135)) 65536)) (decide ((wrap64 ((wrap64 ((Int.tmod (wrap64 (a0)) 4096) + (Int.tmod (wrap64 (a1)) 4096))) + t135)) > 4095)) true (decide ((wrap64 ((wrap64 ((wrap64 (a0)) + (wrap64 (a1)))) + t135)) > 65535)) false).bind fun t138 => (some (IntKind.u16.wrap (Int.tmod (wrap64 ((wrap64 ((wrap64 (a0)) + (wrap64 (a1)))) + t135)) 65536), t138))) else ((charabancref04_result.f (IntKind.u16.wrap (Int.tmod (wrap64 ((wrap64 ((wrap64 (a0)) + (wrap64 (a1)))) + t135)) 65536)) (decide ((wrap64 ((wrap64 ((Int.tmod (wrap64 (a0)) 4096) + (Int.tmod (wrap64 (a1)) 4096))) + t135)) > 4095)) (decide ((wrap64 ((wrap64 (t136 + t137)) + t135)) > 32767)) (decide ((wrap64 ((wrap64 ((wrap64 (a0)) + (wrap64 (a1)))) + t135)) > 65535)) false).bind fun t139 => (some (IntKind.u16.wrap (Int.tmod (wrap64 ((wrap64 ((wrap64 (a0)) + (wrap64 (a1)))) + t135)) 65536), t139))))))) = some (r1, r2) := h
  clear h
  replace H := Option.bind_eq_some_iff.mp H
  obtain ⟨t135, A40, H⟩ := H
  replace H : ((charabancref04_signed.f a0).bind fun t136 => ((charabancref04_signed.f a1).bind fun t137 => (if (wrap64 ((wrap64 (t136 + t137)) + t135)) < (-32768) then ((charabancref04_result.f (IntKind.u16.wrap (Int.tmod (wrap64 ((wrap64 ((wrap64 (a0)) + (wrap64 (a1)))) + t135)) 65536)) (decide ((wrap64 ((wrap64 ((Int.tmod (wrap64 (a0)) 4096) + (Int.tmod (wrap64 (a1)) 4096))) + t135)) > 4095)) true (decide ((wrap64 ((wrap64 ((wrap64 (a0)) + (wrap64 (a1)))) + t135)) > 65535)) false).bind fun t138 => (some (IntKind.u16.wrap (Int.tmod (wrap64 ((wrap64 ((wrap64 (a0)) + (wrap64 (a1)))) + t135)) 65536), t138))) else ((charabancref04_result.f (IntKind.u16.wrap (Int.tmod (wrap64 ((wrap64 ((wrap64 (a0)) + (wrap64 (a1)))) + t135)) 65536)) (decide ((wrap64 ((wrap64 ((Int.tmod (wrap64 (a0)) 4096) + (Int.tmod (wrap64 (a1)) 4096))) + t135)) > 4095)) (decide ((wrap64 ((wrap64 (t136 + t137)) + t135)) > 32767)) (decide ((wrap64 ((wrap64 ((wrap64 (a0)) + (wrap64 (a1)))) + t135)) > 65535)) false).bind fun t139 => (some (IntKind.u16.wrap (Int.tmod (wrap64 ((wrap64 ((wrap64 (a0)) + (wrap64 (a1)))) + t135)) 65536), t139)))))) = some (r1, r2) := H
  have A4 := Aside0.mk A40
  clear A40
  replace H := Option.bind_eq_some_iff.mp H
  obtain ⟨t136, A50, H⟩ := H
  replace H : ((charabancref04_signed.f a1).bind fun t137 => (if (wrap64 ((wrap64 (t136 + t137)) + t135)) < (-32768) then ((charabancref04_result.f (IntKind.u16.wrap (Int.tmod (wrap64 ((wrap64 ((wrap64 (a0)) + (wrap64 (a1)))) + t135)) 65536)) (decide ((wrap64 ((wrap64 ((Int.tmod (wrap64 (a0)) 4096) + (Int.tmod (wrap64 (a1)) 4096))) + t135)) > 4095)) true (decide ((wrap64 ((wrap64 ((wrap64 (a0)) + (wrap64 (a1)))) + t135)) > 65535)) false).bind fun t138 => (some (IntKind.u16.wrap (Int.tmod (wrap64 ((wrap64 ((wrap64 (a0)) + (wrap64 (a1)))) + t135)) 65536), t138))) else ((charabancref04_result.f (IntKind.u16.wrap (Int.tmod (wrap64 ((wrap64 ((wrap64 (a0)) + (wrap64 (a1)))) + t135)) 65536)) (decide ((wrap64 ((wrap64 ((Int.tmod (wrap64 (a0)) 4096) + (Int.tmod (wrap64 (a1)) 4096))) + t135)) > 4095)) (decide ((wrap64 ((wrap64 (t136 + t137)) + t135)) > 32767)) (decide ((wrap64 ((wrap64 ((wrap64 (a0)) + (wrap64 (a1)))) + t135)) > 65535)) false).bind fun t139 => (some (IntKind.u16.wrap (Int.tmod (wrap64 ((wrap64 ((wrap64 (a0)) + (wrap64 (a1)))) + t135)) 65536), t139))))) = some (r1, r2) := H
  have A5 := Aside0.mk A50
  clear A50
  replace H := Option.bind_eq_some_iff.mp H
  obtain ⟨t137, A60, H⟩ := H
  replace H : (if (wrap64 ((wrap64 (t136 + t137)) + t135)) < (-32768) then ((charabancref04_result.f (IntKind.u16.wrap (Int.tmod (wrap64 ((wrap64 ((wrap64 (a0)) + (wrap64 (a1)))) + t135)) 65536)) (decide ((wrap64 ((wrap64 ((Int.tmod (wrap64 (a0)) 4096) + (Int.tmod (wrap64 (a1)) 4096))) + t135)) > 4095)) true (decide ((wrap64 ((wrap64 ((wrap64 (a0)) + (wrap64 (a1)))) + t135)) > 65535)) false).bind fun t138 => (some (IntKind.u16.wrap (Int.tmod (wrap64 ((wrap64 ((wrap64 (a0)) + (wrap64 (a1)))) + t135)) 65536), t138))) else ((charabancref04_result.f (IntKind.u16.wrap (Int.tmod (wrap64 ((wrap64 ((wrap64 (a0)) + (wrap64 (a1)))) + t135)) 65536)) (decide ((wrap64 ((wrap64 ((Int.tmod (wrap64 (a0)) 4096) + (Int.tmod (wrap64 (a1)) 4096))) + t135)) > 4095)) (decide ((wrap64 ((wrap64 (t136 + t137)) + t135)) > 32767)) (decide ((wrap64 ((wrap64 ((wrap64 (a0)) + (wrap64 (a1)))) + t135)) > 65535)) false).bind fun t139 => (some (IntKind.u16.wrap (Int.tmod (wrap64 ((wrap64 ((wrap64 (a0)) + (wrap64 (a1)))) + t135)) 65536), t139)))) = some (r1, r2) := H
  have A6 := Aside0.mk A60
  clear A60
  by_cases c7 : (wrap64 ((wrap64 (t136 + t137)) + t135)) < (-32768)
  · rw [if_pos c7] at H
    have c7b0 : decide ((wrap64 ((wrap64 (t136 + t137)) + t135)) < (-32768)) = true := decide_eq_true c7
    clear c7
    replace H := Option.bind_eq_some_iff.mp H
    obtain ⟨t138, A80, H⟩ := H
    replace H : (some (IntKind.u16.wrap (Int.tmod (wrap64 ((wrap64 ((wrap64 (a0)) + (wrap64 (a1)))) + t135)) 65536), t138)) = some (r1, r2) := H
    have A8 := Aside0.mk A80
    clear A80
    simp only [Option.some.injEq, Prod.mk.injEq] at H
    obtain ⟨rfl, rfl⟩ := H
    go_enter Try.func51, Try.ntmps51
    go_wp2_with (first | ((with_reducible refine gate_callee (f := 74) rfl ?_); refine goesL_ (some 13) rfl rfl Try.func74 (by kernel_rfl) rfl #[.int .u8 a2] rfl (by (try simp only [List.map_toArray, List.map_cons, List.map_nil]); first | done | rfl | (simp only [List.length_drop, List.length_take]; rfl)) ?_; (with_reducible refine (charabancref04_carry.calls k a2 t135 _ A4.out).mono ?_); rintro e w' ⟨rfl, ⟨nd, rfl⟩⟩; refine ⟨_, rfl, ?_⟩) | ((with_reducible refine gate_callee (f := 75) rfl ?_); refine goesL_ (some 22) rfl rfl Try.func75 (by kernel_rfl) rfl #[.int .u16 a0] rfl (by (try simp only [List.map_toArray, List.map_cons, List.map_nil]); first | done | rfl | (simp only [List.length_drop, List.length_take]; rfl)) ?_; (with_reducible refine (charabancref04_signed.calls a0 t136 _ A5.out).mono ?_); rintro e w' ⟨rfl, ⟨nd, rfl⟩⟩; refine ⟨_, rfl, ?_⟩) | ((with_reducible refine gate_callee (f := 75) rfl ?_); refine goesL_ (some 24) rfl rfl Try.func75 (by kernel_rfl) rfl #[.int .u16 a1] rfl (by (try simp only [List.map_toArray, List.map_cons, List.map_nil]); first | done | rfl | (simp only [List.length_drop, List.length_take]; rfl)) ?_; (with_reducible refine (charabancref04_signed.calls a1 t137 _ A6.out).mono ?_); rintro e w' ⟨rfl, ⟨nd, rfl⟩⟩; refine ⟨_, rfl, ?_⟩) | ((with_reducible refine gate_callee (f := 76) rfl ?_); refine goesL_ (some 51) rfl rfl Try.func76 (by kernel_rfl) rfl #[.int .u16 (IntKind.u16.wrap (Int.tmod (wrap64 ((wrap64 ((wrap64 (a0)) + (wrap64 (a1)))) + t135)) 65536)), .bool (decide ((wrap64 ((wrap64 ((Int.tmod (wrap64 (a0)) 4096) + (Int.tmod (wrap64 (a1)) 4096))) + t135)) > 4095)), .bool true, .bool (decide ((wrap64 ((wrap64 ((wrap64 (a0)) + (wrap64 (a1)))) + t135)) > 65535)), .bool false] rfl (by (try simp only [List.map_toArray, List.map_cons, List.map_nil]); first | done | rfl | (simp only [List.length_drop, List.length_take]; rfl)) ?_; (with_reducible refine (charabancref04_result.calls (IntKind.u16.wrap (Int.tmod (wrap64 ((wrap64 ((wrap64 (a0)) + (wrap64 (a1)))) + t135)) 65536)) (decide ((wrap64 ((wrap64 ((Int.tmod (wrap64 (a0)) 4096) + (Int.tmod (wrap64 (a1)) 4096))) + t135)) > 4095)) true (decide ((wrap64 ((wrap64 ((wrap64 (a0)) + (wrap64 (a1)))) + t135)) > 65535)) false t138 _ A8.out).mono ?_); rintro e w9 ⟨rfl, hb⟩; refine ⟨_, rfl, ?_⟩; have n0_ := Aside0.mk (below_step (by repeat (first | (with_reducible first | exact HB.out | apply below_alloc | apply pw_below_drewN | apply below_drew1) | exact HB.out)) hb); clear HB; have HB := n0_; clear n0_; (try clear hb); (try clear hb2); (try clear hk); (try clear hi)))
    go_ret2
    exact ⟨by first | rfl | (simp [errW_none, errW_some] <;> rfl) | (simp [*, errW_none, errW_some] <;> rfl), by repeat (first | (with_reducible first | exact HB.out | apply below_alloc | apply pw_below_drewN | apply below_drew1) | exact HB.out)⟩
  · rw [if_neg c7] at H
    have c7b0 : decide ((wrap64 ((wrap64 (t136 + t137)) + t135)) < (-32768)) = false := decide_eq_false c7
    clear c7
    replace H := Option.bind_eq_some_iff.mp H
    obtain ⟨t139, A100, H⟩ := H
    replace H : (some (IntKind.u16.wrap (Int.tmod (wrap64 ((wrap64 ((wrap64 (a0)) + (wrap64 (a1)))) + t135)) 65536), t139)) = some (r1, r2) := H
    have A10 := Aside0.mk A100
    clear A100
    simp only [Option.some.injEq, Prod.mk.injEq] at H
    obtain ⟨rfl, rfl⟩ := H
    go_enter Try.func51, Try.ntmps51
    go_wp2_with (first | ((with_reducible refine gate_callee (f := 74) rfl ?_); refine goesL_ (some 13) rfl rfl Try.func74 (by kernel_rfl) rfl #[.int .u8 a2] rfl (by (try simp only [List.map_toArray, List.map_cons, List.map_nil]); first | done | rfl | (simp only [List.length_drop, List.length_take]; rfl)) ?_; (with_reducible refine (charabancref04_carry.calls k a2 t135 _ A4.out).mono ?_); rintro e w' ⟨rfl, ⟨nd, rfl⟩⟩; refine ⟨_, rfl, ?_⟩) | ((with_reducible refine gate_callee (f := 75) rfl ?_); refine goesL_ (some 22) rfl rfl Try.func75 (by kernel_rfl) rfl #[.int .u16 a0] rfl (by (try simp only [List.map_toArray, List.map_cons, List.map_nil]); first | done | rfl | (simp only [List.length_drop, List.length_take]; rfl)) ?_; (with_reducible refine (charabancref04_signed.calls a0 t136 _ A5.out).mono ?_); rintro e w' ⟨rfl, ⟨nd, rfl⟩⟩; refine ⟨_, rfl, ?_⟩) | ((with_reducible refine gate_callee (f := 75) rfl ?_); refine goesL_ (some 24) rfl rfl Try.func75 (by kernel_rfl) rfl #[.int .u16 a1] rfl (by (try simp only [List.map_toArray, List.map_cons, List.map_nil]); first | done | rfl | (simp only [List.length_drop, List.length_take]; rfl)) ?_; (with_reducible refine (charabancref04_signed.calls a1 t137 _ A6.out).mono ?_); rintro e w' ⟨rfl, ⟨nd, rfl⟩⟩; refine ⟨_, rfl, ?_⟩) | ((with_reducible refine gate_callee (f := 76) rfl ?_); refine goesL_ (some 51) rfl rfl Try.func76 (by kernel_rfl) rfl #[.int .u16 (IntKind.u16.wrap (Int.tmod (wrap64 ((wrap64 ((wrap64 (a0)) + (wrap64 (a1)))) + t135)) 65536)), .bool (decide ((wrap64 ((wrap64 ((Int.tmod (wrap64 (a0)) 4096) + (Int.tmod (wrap64 (a1)) 4096))) + t135)) > 4095)), .bool (decide ((wrap64 ((wrap64 (t136 + t137)) + t135)) > 32767)), .bool (decide ((wrap64 ((wrap64 ((wrap64 (a0)) + (wrap64 (a1)))) + t135)) > 65535)), .bool false] rfl (by (try simp only [List.map_toArray, List.map_cons, List.map_nil]); first | done | rfl | (simp only [List.length_drop, List.length_take]; rfl)) ?_; (with_reducible refine (charabancref04_result.calls (IntKind.u16.wrap (Int.tmod (wrap64 ((wrap64 ((wrap64 (a0)) + (wrap64 (a1)))) + t135)) 65536)) (decide ((wrap64 ((wrap64 ((Int.tmod (wrap64 (a0)) 4096) + (Int.tmod (wrap64 (a1)) 4096))) + t135)) > 4095)) (decide ((wrap64 ((wrap64 (t136 + t137)) + t135)) > 32767)) (decide ((wrap64 ((wrap64 ((wrap64 (a0)) + (wrap64 (a1)))) + t135)) > 65535)) false t139 _ A10.out).mono ?_); rintro e w11 ⟨rfl, hb⟩; refine ⟨_, rfl, ?_⟩; have n0_ := Aside0.mk (below_step (by repeat (first | (with_reducible first | exact HB.out | apply below_alloc | apply pw_below_drewN | apply below_drew1) | exact HB.out)) hb); clear HB; have HB := n0_; clear n0_; (try clear hb); (try clear hb2); (try clear hk); (try clear hi)))
    go_ret2
    exact ⟨by first | rfl | (simp [errW_none, errW_some] <;> rfl) | (simp [*, errW_none, errW_some] <;> rfl), by repeat (first | (with_reducible first | exact HB.out | apply below_alloc | apply pw_below_drewN | apply below_drew1) | exact HB.out)⟩

/-! ### charabanclaw04_WideAdds: function 11 -/
def charabanclaw04_WideAdds.f (k : Nat) (a0 : Int) (a1 : Int) (a2 : Int) : Option (Bool) := (charabanclaw04_awake.f).bind fun t140 => (if t140 = true then ((wide_Add.f a0 a1 a2).bind fun bt141 => ((charabancref04_Add.f a0 a1 a2).bind fun bt143 => ((wide_Adc.f a0 a1 a2).bind fun bt145 => ((charabancref04_Adc.f k a0 a1 a2).bind fun bt147 => (if bt141.1 = bt143.1 then (if bt141.2 = bt143.2 then (if bt145.1 = bt147.1 then (some (bt145.2 == bt147.2)) else (some false)) else (some false)) else (some false)))))) else (some false))
theorem charabanclaw04_WideAdds.mono : ∀ a0 a1 a2 k, LeO (charabanclaw04_WideAdds.f k a0 a1 a2) (charabanclaw04_WideAdds.f (k + 1) a0 a1 a2) := by
  intro a0 a1 a2 k
  unfold charabanclaw04_WideAdds.f
  repeat' first
      | (with_reducible exact charabancref04_Adc.mono _ _ _ _)
      | (with_reducible exact LeO.refl _)
      | (with_reducible exact LeO.none _)
      | (with_reducible refine LeO.ite ?_ ?_)
      | (with_reducible refine LeO.bind ?_ (fun _ => ?_))
      | exact charabancref04_Adc.mono _ _ _ _
      | exact LeO.none _
      | refine LeO.ite ?_ ?_
      | refine LeO.bind ?_ (fun _ => ?_)
set_option maxHeartbeats 8000000 in
set_option maxRecDepth 100000 in
theorem charabanclaw04_WideAdds.calls (k : Nat) (a0 : Int) (a1 : Int) (a2 : Int) (r : Bool) (w : World) (h : charabanclaw04_WideAdds.f k a0 a1 a2 = some r) :
    Calls Try.prog 11 #[.int .u16 a0, .int .u16 a1, .int .u8 a2] w fun e w' => e = .returned (.bool r) ∧ Below w.heap.size w w' := by
  have HB := Aside0.mk (Below.refl w.heap.size w)
  have H : ((charabanclaw04_awake.f).bind fun t140 => (if t140 = true then ((wide_Add.f a0 a1 a2).bind fun bt141 => ((charabancref04_Add.f a0 a1 a2).bind fun bt143 => ((wide_Adc.f a0 a1 a2).bind fun bt145 => ((charabancref04_Adc.f k a0 a1 a2).bind fun bt147 => (if bt141.1 = bt143.1 then (if bt141.2 = bt143.2 then (if bt145.1 = bt147.1 then (some (bt145.2 == bt147.2)) else (some false)) else (some false)) else (some false)))))) else (some false))) = some r := h
  clear h
  replace H := Option.bind_eq_some_iff.mp H
  obtain ⟨t140, A40, H⟩ := H
  replace H : (if t140 = true then ((wide_Add.f a0 a1 a2).bind fun bt141 => ((charabancref04_Add.f a0 a1 a2).bind fun bt143 => ((wide_Adc.f a0 a1 a2).bind fun bt145 => ((charabancref04_Adc.f k a0 a1 a2).bind fun bt147 => (if bt141.1 = bt143.1 then (if bt141.2 = bt143.2 then (if bt145.1 = bt147.1 then (some (bt145.2 == bt147.2)) else (some false)) else (some false)) else (some false)))))) else (some false)) = some r := H
  have A4 := Aside0.mk A40
  clear A40
  by_cases c5 : t140 = true
  · subst c5
    have H1 : ((wide_Add.f a0 a1 a2).bind fun bt141 => ((charabancref04_Add.f a0 a1 a2).bind fun bt143 => ((wide_Adc.f a0 a1 a2).bind fun bt145 => ((charabancref04_Adc.f k a0 a1 a2).bind fun bt147 => (if bt141.1 = bt143.1 then (if bt141.2 = bt143.2 then (if bt145.1 = bt147.1 then (some (bt145.2 == bt147.2)) else (some false)) else (some false)) else (some false)))))) = some r := by rw [if_pos rfl] at H; exact H
    clear H
    have H := H1
    clear H1
    replace H := Option.bind_eq_some_iff.mp H
    obtain ⟨⟨t141, t142⟩, A60, H⟩ := H
    replace H : ((charabancref04_Add.f a0 a1 a2).bind fun bt143 => ((wide_Adc.f a0 a1 a2).bind fun bt145 => ((charabancref04_Adc.f k a0 a1 a2).bind fun bt147 => (if t141 = bt143.1 then (if t142 = bt143.2 then (if bt145.1 = bt147.1 then (some (bt145.2 == bt147.2)) else (some false)) else (some false)) else (some false))))) = some r := H
    have A6 := Aside0.mk A60
    clear A60
    replace H := Option.bind_eq_some_iff.mp H
    obtain ⟨⟨t143, t144⟩, A70, H⟩ := H
    replace H : ((wide_Adc.f a0 a1 a2).bind fun bt145 => ((charabancref04_Adc.f k a0 a1 a2).bind fun bt147 => (if t141 = t143 then (if t142 = t144 then (if bt145.1 = bt147.1 then (some (bt145.2 == bt147.2)) else (some false)) else (some false)) else (some false)))) = some r := H
    have A7 := Aside0.mk A70
    clear A70
    replace H := Option.bind_eq_some_iff.mp H
    obtain ⟨⟨t145, t146⟩, A80, H⟩ := H
    replace H : ((charabancref04_Adc.f k a0 a1 a2).bind fun bt147 => (if t141 = t143 then (if t142 = t144 then (if t145 = bt147.1 then (some (t146 == bt147.2)) else (some false)) else (some false)) else (some false))) = some r := H
    have A8 := Aside0.mk A80
    clear A80
    replace H := Option.bind_eq_some_iff.mp H
    obtain ⟨⟨t147, t148⟩, A90, H⟩ := H
    replace H : (if t141 = t143 then (if t142 = t144 then (if t145 = t147 then (some (t146 == t148)) else (some false)) else (some false)) else (some false)) = some r := H
    have A9 := Aside0.mk A90
    clear A90
    by_cases c10 : t141 = t143
    · rw [if_pos c10] at H
      have c10b0 : (t141 == t143) = true := beq_iff_eq.mpr c10
      have c10b1 : (t141 != t143) = false := bne_eq_false_iff_eq.mpr c10
      clear c10
      by_cases c11 : t142 = t144
      · rw [if_pos c11] at H
        have c11b0 : (t142 == t144) = true := beq_iff_eq.mpr c11
        have c11b1 : (t142 != t144) = false := bne_eq_false_iff_eq.mpr c11
        clear c11
        by_cases c12 : t145 = t147
        · rw [if_pos c12] at H
          have c12b0 : (t145 == t147) = true := beq_iff_eq.mpr c12
          have c12b1 : (t145 != t147) = false := bne_eq_false_iff_eq.mpr c12
          clear c12
          obtain rfl := Option.some.inj H
          go_enter Try.func11, Try.ntmps11
          go_wp2_with (first | ((with_reducible refine gate_callee (f := 47) rfl ?_); refine goesL_ (some 16) rfl rfl Try.func47 (by kernel_rfl) rfl #[] rfl (by (try simp only [List.map_toArray, List.map_cons, List.map_nil]); first | done | rfl | (simp only [List.length_drop, List.length_take]; rfl)) ?_; (with_reducible refine (charabanclaw04_awake.calls  true _ A4.out).mono ?_); rintro e w13 ⟨rfl, hb⟩; refine ⟨_, rfl, ?_⟩; have n0_ := Aside0.mk (below_step (by repeat (first | (with_reducible first | exact HB.out | apply below_alloc | apply pw_below_drewN | apply below_drew1) | exact HB.out)) hb); clear HB; have HB := n0_; clear n0_; (try clear hb); (try clear hb2); (try clear hk); (try clear hi)) | ((with_reducible refine gate_callee (f := 48) rfl ?_); refine goesL_ (some 23) rfl rfl Try.func48 (by kernel_rfl) rfl #[.int .u16 a0, .int .u16 a1, .int .u8 a2] rfl (by (try simp only [List.map_toArray, List.map_cons, List.map_nil]); first | done | rfl | (simp only [List.length_drop, List.length_take]; rfl)) ?_; (with_reducible refine (wide_Add.calls a0 a1 a2 t141 t142 _ A6.out).mono ?_); rintro e w14 ⟨rfl, hb⟩; refine ⟨_, rfl, ?_⟩; have n0_ := Aside0.mk (below_step (by repeat (first | (with_reducible first | exact HB.out | apply below_alloc | apply pw_below_drewN | apply below_drew1) | exact HB.out)) hb); clear HB; have HB := n0_; clear n0_; (try clear hb); (try clear hb2); (try clear hk); (try clear hi)) | ((with_reducible refine gate_callee (f := 49) rfl ?_); refine goesL_ (some 30) rfl rfl Try.func49 (by kernel_rfl) rfl #[.int .u16 a0, .int .u16 a1, .int .u8 a2] rfl (by (try simp only [List.map_toArray, List.map_cons, List.map_nil]); first | done | rfl | (simp only [List.length_drop, List.length_take]; rfl)) ?_; (with_reducible refine (charabancref04_Add.calls a0 a1 a2 t143 t144 _ A7.out).mono ?_); rintro e w15 ⟨rfl, hb⟩; refine ⟨_, rfl, ?_⟩; have n0_ := Aside0.mk (below_step (by repeat (first | (with_reducible first | exact HB.out | apply below_alloc | apply pw_below_drewN | apply below_drew1) | exact HB.out)) hb); clear HB; have HB := n0_; clear n0_; (try clear hb); (try clear hb2); (try clear hk); (try clear hi)) | ((with_reducible refine gate_callee (f := 50) rfl ?_); refine goesL_ (some 37) rfl rfl Try.func50 (by kernel_rfl) rfl #[.int .u16 a0, .int .u16 a1, .int .u8 a2] rfl (by (try simp only [List.map_toArray, List.map_cons, List.map_nil]); first | done | rfl | (simp only [List.length_drop, List.length_take]; rfl)) ?_; (with_reducible refine (wide_Adc.calls a0 a1 a2 t145 t146 _ A8.out).mono ?_); rintro e w16 ⟨rfl, hb⟩; refine ⟨_, rfl, ?_⟩; have n0_ := Aside0.mk (below_step (by repeat (first | (with_reducible first | exact HB.out | apply below_alloc | apply pw_below_drewN | apply below_drew1) | exact HB.out)) hb); clear HB; have HB := n0_; clear n0_; (try clear hb); (try clear hb2); (try clear hk); (try clear hi)) | ((with_reducible refine gate_callee (f := 51) rfl ?_); refine goesL_ (some 44) rfl rfl Try.func51 (by kernel_rfl) rfl #[.int .u16 a0, .int .u16 a1, .int .u8 a2] rfl (by (try simp only [List.map_toArray, List.map_cons, List.map_nil]); first | done | rfl | (simp only [List.length_drop, List.length_take]; rfl)) ?_; (with_reducible refine (charabancref04_Adc.calls k a0 a1 a2 t147 t148 _ A9.out).mono ?_); rintro e w17 ⟨rfl, hb⟩; refine ⟨_, rfl, ?_⟩; have n0_ := Aside0.mk (below_step (by repeat (first | (with_reducible first | exact HB.out | apply below_alloc | apply pw_below_drewN | apply below_drew1) | exact HB.out)) hb); clear HB; have HB := n0_; clear n0_; (try clear hb); (try clear hb2); (try clear hk); (try clear hi)))
          go_ret
          exact ⟨by first | rfl | (simp [errW_none, errW_some] <;> rfl) | (simp [*, errW_none, errW_some] <;> rfl), by repeat (first | (with_reducible first | exact HB.out | apply below_alloc | apply pw_below_drewN | apply below_drew1) | exact HB.out)⟩
        · rw [if_neg c12] at H
          have c12b0 : (t145 == t147) = false := beq_eq_false_iff_ne.mpr c12
          have c12b1 : (t145 != t147) = true := bne_iff_ne.mpr c12
          obtain rfl := Option.some.inj H
          go_enter Try.func11, Try.ntmps11
          go_wp2_with (first | ((with_reducible refine gate_callee (f := 47) rfl ?_); refine goesL_ (some 16) rfl rfl Try.func47 (by kernel_rfl) rfl #[] rfl (by (try simp only [List.map_toArray, List.map_cons, List.map_nil]); first | done | rfl | (simp only [List.length_drop, List.length_take]; rfl)) ?_; (with_reducible refine (charabanclaw04_awake.calls  true _ A4.out).mono ?_); rintro e w18 ⟨rfl, hb⟩; refine ⟨_, rfl, ?_⟩; have n0_ := Aside0.mk (below_step (by repeat (first | (with_reducible first | exact HB.out | apply below_alloc | apply pw_below_drewN | apply below_drew1) | exact HB.out)) hb); clear HB; have HB := n0_; clear n0_; (try clear hb); (try clear hb2); (try clear hk); (try clear hi)) | ((with_reducible refine gate_callee (f := 48) rfl ?_); refine goesL_ (some 23) rfl rfl Try.func48 (by kernel_rfl) rfl #[.int .u16 a0, .int .u16 a1, .int .u8 a2] rfl (by (try simp only [List.map_toArray, List.map_cons, List.map_nil]); first | done | rfl | (simp only [List.length_drop, List.length_take]; rfl)) ?_; (with_reducible refine (wide_Add.calls a0 a1 a2 t141 t142 _ A6.out).mono ?_); rintro e w19 ⟨rfl, hb⟩; refine ⟨_, rfl, ?_⟩; have n0_ := Aside0.mk (below_step (by repeat (first | (with_reducible first | exact HB.out | apply below_alloc | apply pw_below_drewN | apply below_drew1) | exact HB.out)) hb); clear HB; have HB := n0_; clear n0_; (try clear hb); (try clear hb2); (try clear hk); (try clear hi)) | ((with_reducible refine gate_callee (f := 49) rfl ?_); refine goesL_ (some 30) rfl rfl Try.func49 (by kernel_rfl) rfl #[.int .u16 a0, .int .u16 a1, .int .u8 a2] rfl (by (try simp only [List.map_toArray, List.map_cons, List.map_nil]); first | done | rfl | (simp only [List.length_drop, List.length_take]; rfl)) ?_; (with_reducible refine (charabancref04_Add.calls a0 a1 a2 t143 t144 _ A7.out).mono ?_); rintro e w20 ⟨rfl, hb⟩; refine ⟨_, rfl, ?_⟩; have n0_ := Aside0.mk (below_step (by repeat (first | (with_reducible first | exact HB.out | apply below_alloc | apply pw_below_drewN | apply below_drew1) | exact HB.out)) hb); clear HB; have HB := n0_; clear n0_; (try clear hb); (try clear hb2); (try clear hk); (try clear hi)) | ((with_reducible refine gate_callee (f := 50) rfl ?_); refine goesL_ (some 37) rfl rfl Try.func50 (by kernel_rfl) rfl #[.int .u16 a0, .int .u16 a1, .int .u8 a2] rfl (by (try simp only [List.map_toArray, List.map_cons, List.map_nil]); first | done | rfl | (simp only [List.length_drop, List.length_take]; rfl)) ?_; (with_reducible refine (wide_Adc.calls a0 a1 a2 t145 t146 _ A8.out).mono ?_); rintro e w21 ⟨rfl, hb⟩; refine ⟨_, rfl, ?_⟩; have n0_ := Aside0.mk (below_step (by repeat (first | (with_reducible first | exact HB.out | apply below_alloc | apply pw_below_drewN | apply below_drew1) | exact HB.out)) hb); clear HB; have HB := n0_; clear n0_; (try clear hb); (try clear hb2); (try clear hk); (try clear hi)) | ((with_reducible refine gate_callee (f := 51) rfl ?_); refine goesL_ (some 44) rfl rfl Try.func51 (by kernel_rfl) rfl #[.int .u16 a0, .int .u16 a1, .int .u8 a2] rfl (by (try simp only [List.map_toArray, List.map_cons, List.map_nil]); first | done | rfl | (simp only [List.length_drop, List.length_take]; rfl)) ?_; (with_reducible refine (charabancref04_Adc.calls k a0 a1 a2 t147 t148 _ A9.out).mono ?_); rintro e w22 ⟨rfl, hb⟩; refine ⟨_, rfl, ?_⟩; have n0_ := Aside0.mk (below_step (by repeat (first | (with_reducible first | exact HB.out | apply below_alloc | apply pw_below_drewN | apply below_drew1) | exact HB.out)) hb); clear HB; have HB := n0_; clear n0_; (try clear hb); (try clear hb2); (try clear hk); (try clear hi)))
          go_ret
          exact ⟨by first | rfl | (simp [errW_none, errW_some] <;> rfl) | (simp [*, errW_none, errW_some] <;> rfl), by repeat (first | (with_reducible first | exact HB.out | apply below_alloc | apply pw_below_drewN | apply below_drew1) | exact HB.out)⟩
      · rw [if_neg c11] at H
        have c11b0 : (t142 == t144) = false := beq_eq_false_iff_ne.mpr c11
        have c11b1 : (t142 != t144) = true := bne_iff_ne.mpr c11
        obtain rfl := Option.some.inj H
        go_enter Try.func11, Try.ntmps11
        go_wp2_with (first | ((with_reducible refine gate_callee (f := 47) rfl ?_); refine goesL_ (some 16) rfl rfl Try.func47 (by kernel_rfl) rfl #[] rfl (by (try simp only [List.map_toArray, List.map_cons, List.map_nil]); first | done | rfl | (simp only [List.length_drop, List.length_take]; rfl)) ?_; (with_reducible refine (charabanclaw04_awake.calls  true _ A4.out).mono ?_); rintro e w23 ⟨rfl, hb⟩; refine ⟨_, rfl, ?_⟩; have n0_ := Aside0.mk (below_step (by repeat (first | (with_reducible first | exact HB.out | apply below_alloc | apply pw_below_drewN | apply below_drew1) | exact HB.out)) hb); clear HB; have HB := n0_; clear n0_; (try clear hb); (try clear hb2); (try clear hk); (try clear hi)) | ((with_reducible refine gate_callee (f := 48) rfl ?_); refine goesL_ (some 23) rfl rfl Try.func48 (by kernel_rfl) rfl #[.int .u16 a0, .int .u16 a1, .int .u8 a2] rfl (by (try simp only [List.map_toArray, List.map_cons, List.map_nil]); first | done | rfl | (simp only [List.length_drop, List.length_take]; rfl)) ?_; (with_reducible refine (wide_Add.calls a0 a1 a2 t141 t142 _ A6.out).mono ?_); rintro e w24 ⟨rfl, hb⟩; refine ⟨_, rfl, ?_⟩; have n0_ := Aside0.mk (below_step (by repeat (first | (with_reducible first | exact HB.out | apply below_alloc | apply pw_below_drewN | apply below_drew1) | exact HB.out)) hb); clear HB; have HB := n0_; clear n0_; (try clear hb); (try clear hb2); (try clear hk); (try clear hi)) | ((with_reducible refine gate_callee (f := 49) rfl ?_); refine goesL_ (some 30) rfl rfl Try.func49 (by kernel_rfl) rfl #[.int .u16 a0, .int .u16 a1, .int .u8 a2] rfl (by (try simp only [List.map_toArray, List.map_cons, List.map_nil]); first | done | rfl | (simp only [List.length_drop, List.length_take]; rfl)) ?_; (with_reducible refine (charabancref04_Add.calls a0 a1 a2 t143 t144 _ A7.out).mono ?_); rintro e w25 ⟨rfl, hb⟩; refine ⟨_, rfl, ?_⟩; have n0_ := Aside0.mk (below_step (by repeat (first | (with_reducible first | exact HB.out | apply below_alloc | apply pw_below_drewN | apply below_drew1) | exact HB.out)) hb); clear HB; have HB := n0_; clear n0_; (try clear hb); (try clear hb2); (try clear hk); (try clear hi)) | ((with_reducible refine gate_callee (f := 50) rfl ?_); refine goesL_ (some 37) rfl rfl Try.func50 (by kernel_rfl) rfl #[.int .u16 a0, .int .u16 a1, .int .u8 a2] rfl (by (try simp only [List.map_toArray, List.map_cons, List.map_nil]); first | done | rfl | (simp only [List.length_drop, List.length_take]; rfl)) ?_; (with_reducible refine (wide_Adc.calls a0 a1 a2 t145 t146 _ A8.out).mono ?_); rintro e w26 ⟨rfl, hb⟩; refine ⟨_, rfl, ?_⟩; have n0_ := Aside0.mk (below_step (by repeat (first | (with_reducible first | exact HB.out | apply below_alloc | apply pw_below_drewN | apply below_drew1) | exact HB.out)) hb); clear HB; have HB := n0_; clear n0_; (try clear hb); (try clear hb2); (try clear hk); (try clear hi)) | ((with_reducible refine gate_callee (f := 51) rfl ?_); refine goesL_ (some 44) rfl rfl Try.func51 (by kernel_rfl) rfl #[.int .u16 a0, .int .u16 a1, .int .u8 a2] rfl (by (try simp only [List.map_toArray, List.map_cons, List.map_nil]); first | done | rfl | (simp only [List.length_drop, List.length_take]; rfl)) ?_; (with_reducible refine (charabancref04_Adc.calls k a0 a1 a2 t147 t148 _ A9.out).mono ?_); rintro e w27 ⟨rfl, hb⟩; refine ⟨_, rfl, ?_⟩; have n0_ := Aside0.mk (below_step (by repeat (first | (with_reducible first | exact HB.out | apply below_alloc | apply pw_below_drewN | apply below_drew1) | exact HB.out)) hb); clear HB; have HB := n0_; clear n0_; (try clear hb); (try clear hb2); (try clear hk); (try clear hi)))
        go_ret
        exact ⟨by first | rfl | (simp [errW_none, errW_some] <;> rfl) | (simp [*, errW_none, errW_some] <;> rfl), by repeat (first | (with_reducible first | exact HB.out | apply below_alloc | apply pw_below_drewN | apply below_drew1) | exact HB.out)⟩
    · rw [if_neg c10] at H
      have c10b0 : (t141 == t143) = false := beq_eq_false_iff_ne.mpr c10
      have c10b1 : (t141 != t143) = true := bne_iff_ne.mpr c10
      obtain rfl := Option.some.inj H
      go_enter Try.func11, Try.ntmps11
      go_wp2_with (first | ((with_reducible refine gate_callee (f := 47) rfl ?_); refine goesL_ (some 16) rfl rfl Try.func47 (by kernel_rfl) rfl #[] rfl (by (try simp only [List.map_toArray, List.map_cons, List.map_nil]); first | done | rfl | (simp only [List.length_drop, List.length_take]; rfl)) ?_; (with_reducible refine (charabanclaw04_awake.calls  true _ A4.out).mono ?_); rintro e w28 ⟨rfl, hb⟩; refine ⟨_, rfl, ?_⟩; have n0_ := Aside0.mk (below_step (by repeat (first | (with_reducible first | exact HB.out | apply below_alloc | apply pw_below_drewN | apply below_drew1) | exact HB.out)) hb); clear HB; have HB := n0_; clear n0_; (try clear hb); (try clear hb2); (try clear hk); (try clear hi)) | ((with_reducible refine gate_callee (f := 48) rfl ?_); refine goesL_ (some 23) rfl rfl Try.func48 (by kernel_rfl) rfl #[.int .u16 a0, .int .u16 a1, .int .u8 a2] rfl (by (try simp only [List.map_toArray, List.map_cons, List.map_nil]); first | done | rfl | (simp only [List.length_drop, List.length_take]; rfl)) ?_; (with_reducible refine (wide_Add.calls a0 a1 a2 t141 t142 _ A6.out).mono ?_); rintro e w29 ⟨rfl, hb⟩; refine ⟨_, rfl, ?_⟩; have n0_ := Aside0.mk (below_step (by repeat (first | (with_reducible first | exact HB.out | apply below_alloc | apply pw_below_drewN | apply below_drew1) | exact HB.out)) hb); clear HB; have HB := n0_; clear n0_; (try clear hb); (try clear hb2); (try clear hk); (try clear hi)) | ((with_reducible refine gate_callee (f := 49) rfl ?_); refine goesL_ (some 30) rfl rfl Try.func49 (by kernel_rfl) rfl #[.int .u16 a0, .int .u16 a1, .int .u8 a2] rfl (by (try simp only [List.map_toArray, List.map_cons, List.map_nil]); first | done | rfl | (simp only [List.length_drop, List.length_take]; rfl)) ?_; (with_reducible refine (charabancref04_Add.calls a0 a1 a2 t143 t144 _ A7.out).mono ?_); rintro e w30 ⟨rfl, hb⟩; refine ⟨_, rfl, ?_⟩; have n0_ := Aside0.mk (below_step (by repeat (first | (with_reducible first | exact HB.out | apply below_alloc | apply pw_below_drewN | apply below_drew1) | exact HB.out)) hb); clear HB; have HB := n0_; clear n0_; (try clear hb); (try clear hb2); (try clear hk); (try clear hi)) | ((with_reducible refine gate_callee (f := 50) rfl ?_); refine goesL_ (some 37) rfl rfl Try.func50 (by kernel_rfl) rfl #[.int .u16 a0, .int .u16 a1, .int .u8 a2] rfl (by (try simp only [List.map_toArray, List.map_cons, List.map_nil]); first | done | rfl | (simp only [List.length_drop, List.length_take]; rfl)) ?_; (with_reducible refine (wide_Adc.calls a0 a1 a2 t145 t146 _ A8.out).mono ?_); rintro e w31 ⟨rfl, hb⟩; refine ⟨_, rfl, ?_⟩; have n0_ := Aside0.mk (below_step (by repeat (first | (with_reducible first | exact HB.out | apply below_alloc | apply pw_below_drewN | apply below_drew1) | exact HB.out)) hb); clear HB; have HB := n0_; clear n0_; (try clear hb); (try clear hb2); (try clear hk); (try clear hi)) | ((with_reducible refine gate_callee (f := 51) rfl ?_); refine goesL_ (some 44) rfl rfl Try.func51 (by kernel_rfl) rfl #[.int .u16 a0, .int .u16 a1, .int .u8 a2] rfl (by (try simp only [List.map_toArray, List.map_cons, List.map_nil]); first | done | rfl | (simp only [List.length_drop, List.length_take]; rfl)) ?_; (with_reducible refine (charabancref04_Adc.calls k a0 a1 a2 t147 t148 _ A9.out).mono ?_); rintro e w32 ⟨rfl, hb⟩; refine ⟨_, rfl, ?_⟩; have n0_ := Aside0.mk (below_step (by repeat (first | (with_reducible first | exact HB.out | apply below_alloc | apply pw_below_drewN | apply below_drew1) | exact HB.out)) hb); clear HB; have HB := n0_; clear n0_; (try clear hb); (try clear hb2); (try clear hk); (try clear hi)))
      go_ret
      exact ⟨by first | rfl | (simp [errW_none, errW_some] <;> rfl) | (simp [*, errW_none, errW_some] <;> rfl), by repeat (first | (with_reducible first | exact HB.out | apply below_alloc | apply pw_below_drewN | apply below_drew1) | exact HB.out)⟩
  · replace c5 := Bool.eq_false_iff.mpr c5
    subst c5
    have H1 : (some false) = some r := by rw [if_neg (show ¬ (false = true) by decide)] at H; exact H
    clear H
    have H := H1
    clear H1
    obtain rfl := Option.some.inj H
    go_enter Try.func11, Try.ntmps11
    go_wp2_with (first | ((with_reducible refine gate_callee (f := 47) rfl ?_); refine goesL_ (some 16) rfl rfl Try.func47 (by kernel_rfl) rfl #[] rfl (by (try simp only [List.map_toArray, List.map_cons, List.map_nil]); first | done | rfl | (simp only [List.length_drop, List.length_take]; rfl)) ?_; (with_reducible refine (charabanclaw04_awake.calls  false _ A4.out).mono ?_); rintro e w33 ⟨rfl, hb⟩; refine ⟨_, rfl, ?_⟩; have n0_ := Aside0.mk (below_step (by repeat (first | (with_reducible first | exact HB.out | apply below_alloc | apply pw_below_drewN | apply below_drew1) | exact HB.out)) hb); clear HB; have HB := n0_; clear n0_; (try clear hb); (try clear hb2); (try clear hk); (try clear hi)))
    go_ret
    exact ⟨by first | rfl | (simp [errW_none, errW_some] <;> rfl) | (simp [*, errW_none, errW_some] <;> rfl), by repeat (first | (with_reducible first | exact HB.out | apply below_alloc | apply pw_below_drewN | apply below_drew1) | exact HB.out)⟩

/-- THE ONE PURE STATEMENT of charabanclaw04_WideAdds: yours. -/
def charabanclaw04_WideAdds.Pure : Prop := ∀ (a0 : Int) (a1 : Int) (a2 : Int), (Lit.int .u16 a0).wf = true → (Lit.int .u16 a1).wf = true → (Lit.int .u8 a2).wf = true → ∃ k, charabanclaw04_WideAdds.f k a0 a1 a2 = some true
theorem charabanclaw04_WideAdds.walk (P : charabanclaw04_WideAdds.Pure) (a0 : Int) (a1 : Int) (a2 : Int) (w : World) (w0 : (Lit.int .u16 a0).wf = true) (w1 : (Lit.int .u16 a1).wf = true) (w2 : (Lit.int .u8 a2).wf = true) :
    Calls Try.prog 11 #[.int .u16 a0, .int .u16 a1, .int .u8 a2] w fun e w' => e = .returned (.bool true) ∧ Below w.heap.size w w' := by
  obtain ⟨k, h⟩ := P a0 a1 a2 w0 w1 w2
  refine (charabanclaw04_WideAdds.calls k a0 a1 a2 true w h).mono ?_
  rintro e w' ⟨rfl, hd⟩
  exact ⟨rfl, hd⟩

/-! ### charabancref04_Sbc: function 53 -/
def charabancref04_Sbc.f (k : Nat) (a0 : Int) (a1 : Int) (a2 : Int) : Option (Int × Int) := (charabancref04_carry.f k a2).bind fun t149 => ((charabancref04_signed.f a0).bind fun t150 => ((charabancref04_signed.f a1).bind fun t151 => (if (wrap64 ((wrap64 (t150 - t151)) - t149)) < (-32768) then ((charabancref04_result.f (IntKind.u16.wrap (Int.tmod (wrap64 ((wrap64 ((wrap64 ((wrap64 (a0)) - (wrap64 (a1)))) - t149)) + 131072)) 65536)) (decide ((wrap64 ((wrap64 ((Int.tmod (wrap64 (a0)) 4096) - (Int.tmod (wrap64 (a1)) 4096))) - t149)) < 0)) true (decide ((wrap64 ((wrap64 ((wrap64 (a0)) - (wrap64 (a1)))) - t149)) < 0)) true).bind fun t152 => (some (IntKind.u16.wrap (Int.tmod (wrap64 ((wrap64 ((wrap64 ((wrap64 (a0)) - (wrap64 (a1)))) - t149)) + 131072)) 65536), t152))) else ((charabancref04_result.f (IntKind.u16.wrap (Int.tmod (wrap64 ((wrap64 ((wrap64 ((wrap64 (a0)) - (wrap64 (a1)))) - t149)) + 131072)) 65536)) (decide ((wrap64 ((wrap64 ((Int.tmod (wrap64 (a0)) 4096) - (Int.tmod (wrap64 (a1)) 4096))) - t149)) < 0)) (decide ((wrap64 ((wrap64 (t150 - t151)) - t149)) > 32767)) (decide ((wrap64 ((wrap64 ((wrap64 (a0)) - (wrap64 (a1)))) - t149)) < 0)) true).bind fun t153 => (some (IntKind.u16.wrap (Int.tmod (wrap64 ((wrap64 ((wrap64 ((wrap64 (a0)) - (wrap64 (a1)))) - t149)) + 131072)) 65536), t153))))))
theorem charabancref04_Sbc.mono : ∀ a0 a1 a2 k, LeO (charabancref04_Sbc.f k a0 a1 a2) (charabancref04_Sbc.f (k + 1) a0 a1 a2) := by
  intro a0 a1 a2 k
  unfold charabancref04_Sbc.f
  repeat' first
      | (with_reducible exact charabancref04_carry.mono _ _)
      | (with_reducible exact LeO.refl _)
      | (with_reducible exact LeO.none _)
      | (with_reducible refine LeO.ite ?_ ?_)
      | (with_reducible refine LeO.bind ?_ (fun _ => ?_))
      | exact charabancref04_carry.mono _ _
      | exact LeO.none _
      | refine LeO.ite ?_ ?_
      | refine LeO.bind ?_ (fun _ => ?_)
set_option maxHeartbeats 8000000 in
set_option maxRecDepth 100000 in
theorem charabancref04_Sbc.calls (k : Nat) (a0 : Int) (a1 : Int) (a2 : Int) (r1 : Int) (r2 : Int) (w : World) (h : charabancref04_Sbc.f k a0 a1 a2 = some (r1, r2)) :
    Calls Try.prog 53 #[.int .u16 a0, .int .u16 a1, .int .u8 a2] w fun e w' => e = .returned (.tuple #[.int .u16 r1, .int .u8 r2]) ∧ Below w.heap.size w w' := by
  have HB := Aside0.mk (Below.refl w.heap.size w)
  have H : ((charabancref04_carry.f k a2).bind fun t149 => ((charabancref04_signed.f a0).bind fun t150 => ((charabancref04_signed.f a1).bind fun t151 => (if (wrap64 ((wrap64 (t150 - t151)) - t149)) < (-32768) then ((charabancref04_result.f (IntKind.u16.wrap (Int.tmod (wrap64 ((wrap64 ((wrap64 ((wrap64 (a0)) - (wrap64 (a1)))) - t149)) + 131072)) 65536)) (decide ((wrap64 ((wrap64 ((Int.tmod (wrap64 (a0)) 4096) - (Int.tmod (wrap64 (a1)) 4096))) - t149)) < 0)) true (decide ((wrap64 ((wrap64 ((wrap64 (a0)) - (wrap64 (a1)))) - t149)) < 0)) true).bind fun t152 => (some (IntKind.u16.wrap (Int.tmod (wrap64 ((wrap64 ((wrap64 ((wrap64 (a0)) - (wrap64 (a1)))) - t149)) + 131072)) 65536), t152))) else ((charabancref04_result.f (IntKind.u16.wrap (Int.tmod (wrap64 ((wrap64 ((wrap64 ((wrap64 (a0)) - (wrap64 (a1)))) - t149)) + 131072)) 65536)) (decide ((wrap64 ((wrap64 ((Int.tmod (wrap64 (a0)) 4096) - (Int.tmod (wrap64 (a1)) 4096))) - t149)) < 0)) (decide ((wrap64 ((wrap64 (t150 - t151)) - t149)) > 32767)) (decide ((wrap64 ((wrap64 ((wrap64 (a0)) - (wrap64 (a1)))) - t149)) < 0)) true).bind fun t153 => (some (IntKind.u16.wrap (Int.tmod (wrap64 ((wrap64 ((wrap64 ((wrap64 (a0)) - (wrap64 (a1)))) - t149)) + 131072)) 65536), t153))))))) = some (r1, r2) := h
  clear h
  replace H := Option.bind_eq_some_iff.mp H
  obtain ⟨t149, A40, H⟩ := H
  replace H : ((charabancref04_signed.f a0).bind fun t150 => ((charabancref04_signed.f a1).bind fun t151 => (if (wrap64 ((wrap64 (t150 - t151)) - t149)) < (-32768) then ((charabancref04_result.f (IntKind.u16.wrap (Int.tmod (wrap64 ((wrap64 ((wrap64 ((wrap64 (a0)) - (wrap64 (a1)))) - t149)) + 131072)) 65536)) (decide ((wrap64 ((wrap64 ((Int.tmod (wrap64 (a0)) 4096) - (Int.tmod (wrap64 (a1)) 4096))) - t149)) < 0)) true (decide ((wrap64 ((wrap64 ((wrap64 (a0)) - (wrap64 (a1)))) - t149)) < 0)) true).bind fun t152 => (some (IntKind.u16.wrap (Int.tmod (wrap64 ((wrap64 ((wrap64 ((wrap64 (a0)) - (wrap64 (a1)))) - t149)) + 131072)) 65536), t152))) else ((charabancref04_result.f (IntKind.u16.wrap (Int.tmod (wrap64 ((wrap64 ((wrap64 ((wrap64 (a0)) - (wrap64 (a1)))) - t149)) + 131072)) 65536)) (decide ((wrap64 ((wrap64 ((Int.tmod (wrap64 (a0)) 4096) - (Int.tmod (wrap64 (a1)) 4096))) - t149)) < 0)) (decide ((wrap64 ((wrap64 (t150 - t151)) - t149)) > 32767)) (decide ((wrap64 ((wrap64 ((wrap64 (a0)) - (wrap64 (a1)))) - t149)) < 0)) true).bind fun t153 => (some (IntKind.u16.wrap (Int.tmod (wrap64 ((wrap64 ((wrap64 ((wrap64 (a0)) - (wrap64 (a1)))) - t149)) + 131072)) 65536), t153)))))) = some (r1, r2) := H
  have A4 := Aside0.mk A40
  clear A40
  replace H := Option.bind_eq_some_iff.mp H
  obtain ⟨t150, A50, H⟩ := H
  replace H : ((charabancref04_signed.f a1).bind fun t151 => (if (wrap64 ((wrap64 (t150 - t151)) - t149)) < (-32768) then ((charabancref04_result.f (IntKind.u16.wrap (Int.tmod (wrap64 ((wrap64 ((wrap64 ((wrap64 (a0)) - (wrap64 (a1)))) - t149)) + 131072)) 65536)) (decide ((wrap64 ((wrap64 ((Int.tmod (wrap64 (a0)) 4096) - (Int.tmod (wrap64 (a1)) 4096))) - t149)) < 0)) true (decide ((wrap64 ((wrap64 ((wrap64 (a0)) - (wrap64 (a1)))) - t149)) < 0)) true).bind fun t152 => (some (IntKind.u16.wrap (Int.tmod (wrap64 ((wrap64 ((wrap64 ((wrap64 (a0)) - (wrap64 (a1)))) - t149)) + 131072)) 65536), t152))) else ((charabancref04_result.f (IntKind.u16.wrap (Int.tmod (wrap64 ((wrap64 ((wrap64 ((wrap64 (a0)) - (wrap64 (a1)))) - t149)) + 131072)) 65536)) (decide ((wrap64 ((wrap64 ((Int.tmod (wrap64 (a0)) 4096) - (Int.tmod (wrap64 (a1)) 4096))) - t149)) < 0)) (decide ((wrap64 ((wrap64 (t150 - t151)) - t149)) > 32767)) (decide ((wrap64 ((wrap64 ((wrap64 (a0)) - (wrap64 (a1)))) - t149)) < 0)) true).bind fun t153 => (some (IntKind.u16.wrap (Int.tmod (wrap64 ((wrap64 ((wrap64 ((wrap64 (a0)) - (wrap64 (a1)))) - t149)) + 131072)) 65536), t153))))) = some (r1, r2) := H
  have A5 := Aside0.mk A50
  clear A50
  replace H := Option.bind_eq_some_iff.mp H
  obtain ⟨t151, A60, H⟩ := H
  replace H : (if (wrap64 ((wrap64 (t150 - t151)) - t149)) < (-32768) then ((charabancref04_result.f (IntKind.u16.wrap (Int.tmod (wrap64 ((wrap64 ((wrap64 ((wrap64 (a0)) - (wrap64 (a1)))) - t149)) + 131072)) 65536)) (decide ((wrap64 ((wrap64 ((Int.tmod (wrap64 (a0)) 4096) - (Int.tmod (wrap64 (a1)) 4096))) - t149)) < 0)) true (decide ((wrap64 ((wrap64 ((wrap64 (a0)) - (wrap64 (a1)))) - t149)) < 0)) true).bind fun t152 => (some (IntKind.u16.wrap (Int.tmod (wrap64 ((wrap64 ((wrap64 ((wrap64 (a0)) - (wrap64 (a1)))) - t149)) + 131072)) 65536), t152))) else ((charabancref04_result.f (IntKind.u16.wrap (Int.tmod (wrap64 ((wrap64 ((wrap64 ((wrap64 (a0)) - (wrap64 (a1)))) - t149)) + 131072)) 65536)) (decide ((wrap64 ((wrap64 ((Int.tmod (wrap64 (a0)) 4096) - (Int.tmod (wrap64 (a1)) 4096))) - t149)) < 0)) (decide ((wrap64 ((wrap64 (t150 - t151)) - t149)) > 32767)) (decide ((wrap64 ((wrap64 ((wrap64 (a0)) - (wrap64 (a1)))) - t149)) < 0)) true).bind fun t153 => (some (IntKind.u16.wrap (Int.tmod (wrap64 ((wrap64 ((wrap64 ((wrap64 (a0)) - (wrap64 (a1)))) - t149)) + 131072)) 65536), t153)))) = some (r1, r2) := H
  have A6 := Aside0.mk A60
  clear A60
  by_cases c7 : (wrap64 ((wrap64 (t150 - t151)) - t149)) < (-32768)
  · rw [if_pos c7] at H
    have c7b0 : decide ((wrap64 ((wrap64 (t150 - t151)) - t149)) < (-32768)) = true := decide_eq_true c7
    clear c7
    replace H := Option.bind_eq_some_iff.mp H
    obtain ⟨t152, A80, H⟩ := H
    replace H : (some (IntKind.u16.wrap (Int.tmod (wrap64 ((wrap64 ((wrap64 ((wrap64 (a0)) - (wrap64 (a1)))) - t149)) + 131072)) 65536), t152)) = some (r1, r2) := H
    have A8 := Aside0.mk A80
    clear A80
    simp only [Option.some.injEq, Prod.mk.injEq] at H
    obtain ⟨rfl, rfl⟩ := H
    go_enter Try.func53, Try.ntmps53
    go_wp2_with (first | ((with_reducible refine gate_callee (f := 74) rfl ?_); refine goesL_ (some 13) rfl rfl Try.func74 (by kernel_rfl) rfl #[.int .u8 a2] rfl (by (try simp only [List.map_toArray, List.map_cons, List.map_nil]); first | done | rfl | (simp only [List.length_drop, List.length_take]; rfl)) ?_; (with_reducible refine (charabancref04_carry.calls k a2 t149 _ A4.out).mono ?_); rintro e w' ⟨rfl, ⟨nd, rfl⟩⟩; refine ⟨_, rfl, ?_⟩) | ((with_reducible refine gate_callee (f := 75) rfl ?_); refine goesL_ (some 22) rfl rfl Try.func75 (by kernel_rfl) rfl #[.int .u16 a0] rfl (by (try simp only [List.map_toArray, List.map_cons, List.map_nil]); first | done | rfl | (simp only [List.length_drop, List.length_take]; rfl)) ?_; (with_reducible refine (charabancref04_signed.calls a0 t150 _ A5.out).mono ?_); rintro e w' ⟨rfl, ⟨nd, rfl⟩⟩; refine ⟨_, rfl, ?_⟩) | ((with_reducible refine gate_callee (f := 75) rfl ?_); refine goesL_ (some 24) rfl rfl Try.func75 (by kernel_rfl) rfl #[.int .u16 a1] rfl (by (try simp only [List.map_toArray, List.map_cons, List.map_nil]); first | done | rfl | (simp only [List.length_drop, List.length_take]; rfl)) ?_; (with_reducible refine (charabancref04_signed.calls a1 t151 _ A6.out).mono ?_); rintro e w' ⟨rfl, ⟨nd, rfl⟩⟩; refine ⟨_, rfl, ?_⟩) | ((with_reducible refine gate_callee (f := 76) rfl ?_); refine goesL_ (some 52) rfl rfl Try.func76 (by kernel_rfl) rfl #[.int .u16 (IntKind.u16.wrap (Int.tmod (wrap64 ((wrap64 ((wrap64 ((wrap64 (a0)) - (wrap64 (a1)))) - t149)) + 131072)) 65536)), .bool (decide ((wrap64 ((wrap64 ((Int.tmod (wrap64 (a0)) 4096) - (Int.tmod (wrap64 (a1)) 4096))) - t149)) < 0)), .bool true, .bool (decide ((wrap64 ((wrap64 ((wrap64 (a0)) - (wrap64 (a1)))) - t149)) < 0)), .bool true] rfl (by (try simp only [List.map_toArray, List.map_cons, List.map_nil]); first | done | rfl | (simp only [List.length_drop, List.length_take]; rfl)) ?_; (with_reducible refine (charabancref04_result.calls (IntKind.u16.wrap (Int.tmod (wrap64 ((wrap64 ((wrap64 ((wrap64 (a0)) - (wrap64 (a1)))) - t149)) + 131072)) 65536)) (decide ((wrap64 ((wrap64 ((Int.tmod (wrap64 (a0)) 4096) - (Int.tmod (wrap64 (a1)) 4096))) - t149)) < 0)) true (decide ((wrap64 ((wrap64 ((wrap64 (a0)) - (wrap64 (a1)))) - t149)) < 0)) true t152 _ A8.out).mono ?_); rintro e w9 ⟨rfl, hb⟩; refine ⟨_, rfl, ?_⟩; have n0_ := Aside0.mk (below_step (by repeat (first | (with_reducible first | exact HB.out | apply below_alloc | apply pw_below_drewN | apply below_drew1) | exact HB.out)) hb); clear HB; have HB := n0_; clear n0_; (try clear hb); (try clear hb2); (try clear hk); (try clear hi)))
    go_ret2
    exact ⟨by first | rfl | (simp [errW_none, errW_some] <;> rfl) | (simp [*, errW_none, errW_some] <;> rfl), by repeat (first | (with_reducible first | exact HB.out | apply below_alloc | apply pw_below_drewN | apply below_drew1) | exact HB.out)⟩
  · rw [if_neg c7] at H
    have c7b0 : decide ((wrap64 ((wrap64 (t150 - t151)) - t149)) < (-32768)) = false := decide_eq_false c7
    clear c7
    replace H := Option.bind_eq_some_iff.mp H
    obtain ⟨t153, A100, H⟩ := H
    replace H : (some (IntKind.u16.wrap (Int.tmod (wrap64 ((wrap64 ((wrap64 ((wrap64 (a0)) - (wrap64 (a1)))) - t149)) + 131072)) 65536), t153)) = some (r1, r2) := H
    have A10 := Aside0.mk A100
    clear A100
    simp only [Option.some.injEq, Prod.mk.injEq] at H
    obtain ⟨rfl, rfl⟩ := H
    go_enter Try.func53, Try.ntmps53
    go_wp2_with (first | ((with_reducible refine gate_callee (f := 74) rfl ?_); refine goesL_ (some 13) rfl rfl Try.func74 (by kernel_rfl) rfl #[.int .u8 a2] rfl (by (try simp only [List.map_toArray, List.map_cons, List.map_nil]); first | done | rfl | (simp only [List.length_drop, List.length_take]; rfl)) ?_; (with_reducible refine (charabancref04_carry.calls k a2 t149 _ A4.out).mono ?_); rintro e w' ⟨rfl, ⟨nd, rfl⟩⟩; refine ⟨_, rfl, ?_⟩) | ((with_reducible refine gate_callee (f := 75) rfl ?_); refine goesL_ (some 22) rfl rfl Try.func75 (by kernel_rfl) rfl #[.int .u16 a0] rfl (by (try simp only [List.map_toArray, List.map_cons, List.map_nil]); first | done | rfl | (simp only [List.length_drop, List.length_take]; rfl)) ?_; (with_reducible refine (charabancref04_signed.calls a0 t150 _ A5.out).mono ?_); rintro e w' ⟨rfl, ⟨nd, rfl⟩⟩; refine ⟨_, rfl, ?_⟩) | ((with_reducible refine gate_callee (f := 75) rfl ?_); refine goesL_ (some 24) rfl rfl Try.func75 (by kernel_rfl) rfl #[.int .u16 a1] rfl (by (try simp only [List.map_toArray, List.map_cons, List.map_nil]); first | done | rfl | (simp only [List.length_drop, List.length_take]; rfl)) ?_; (with_reducible refine (charabancref04_signed.calls a1 t151 _ A6.out).mono ?_); rintro e w' ⟨rfl, ⟨nd, rfl⟩⟩; refine ⟨_, rfl, ?_⟩) | ((with_reducible refine gate_callee (f := 76) rfl ?_); refine goesL_ (some 52) rfl rfl Try.func76 (by kernel_rfl) rfl #[.int .u16 (IntKind.u16.wrap (Int.tmod (wrap64 ((wrap64 ((wrap64 ((wrap64 (a0)) - (wrap64 (a1)))) - t149)) + 131072)) 65536)), .bool (decide ((wrap64 ((wrap64 ((Int.tmod (wrap64 (a0)) 4096) - (Int.tmod (wrap64 (a1)) 4096))) - t149)) < 0)), .bool (decide ((wrap64 ((wrap64 (t150 - t151)) - t149)) > 32767)), .bool (decide ((wrap64 ((wrap64 ((wrap64 (a0)) - (wrap64 (a1)))) - t149)) < 0)), .bool true] rfl (by (try simp only [List.map_toArray, List.map_cons, List.map_nil]); first | done | rfl | (simp only [List.length_drop, List.length_take]; rfl)) ?_; (with_reducible refine (charabancref04_result.calls (IntKind.u16.wrap (Int.tmod (wrap64 ((wrap64 ((wrap64 ((wrap64 (a0)) - (wrap64 (a1)))) - t149)) + 131072)) 65536)) (decide ((wrap64 ((wrap64 ((Int.tmod (wrap64 (a0)) 4096) - (Int.tmod (wrap64 (a1)) 4096))) - t149)) < 0)) (decide ((wrap64 ((wrap64 (t150 - t151)) - t149)) > 32767)) (decide ((wrap64 ((wrap64 ((wrap64 (a0)) - (wrap64 (a1)))) - t149)) < 0)) true t153 _ A10.out).mono ?_); rintro e w11 ⟨rfl, hb⟩; refine ⟨_, rfl, ?_⟩; have n0_ := Aside0.mk (below_step (by repeat (first | (with_reducible first | exact HB.out | apply below_alloc | apply pw_below_drewN | apply below_drew1) | exact HB.out)) hb); clear HB; have HB := n0_; clear n0_; (try clear hb); (try clear hb2); (try clear hk); (try clear hi)))
    go_ret2
    exact ⟨by first | rfl | (simp [errW_none, errW_some] <;> rfl) | (simp [*, errW_none, errW_some] <;> rfl), by repeat (first | (with_reducible first | exact HB.out | apply below_alloc | apply pw_below_drewN | apply below_drew1) | exact HB.out)⟩

/-! ### charabancref04_Move: function 55 -/
def charabancref04_Move.f (a0 : Int) (a1 : Int) : Option (Int) := some (IntKind.u16.wrap (Int.tmod (wrap64 ((Int.tmod (wrap64 ((wrap64 (a0)) + (Int.tmod a1 65536))) 65536) + 65536)) 65536))
set_option maxHeartbeats 8000000 in
set_option maxRecDepth 100000 in
theorem charabancref04_Move.calls (a0 : Int) (a1 : Int) (r : Int) (w : World) (h : charabancref04_Move.f a0 a1 = some r) :
    Calls Try.prog 55 #[.int .u16 a0, .int .i64 a1] w fun e w' => e = .returned (.int .u16 r) ∧ Drawn0 w w' := by
  have H : (some (IntKind.u16.wrap (Int.tmod (wrap64 ((Int.tmod (wrap64 ((wrap64 (a0)) + (Int.tmod a1 65536))) 65536) + 65536)) 65536))) = some r := h
  clear h
  obtain rfl := Option.some.inj H
  go_enter Try.func55, Try.ntmps55
  go_wp2
  go_ret
  exact ⟨by first | rfl | (simp; done) | (simp [*]; done), by repeat (first | exact Drawn0.refl _ | apply Drawn0.step)⟩

/-! ### charabancref01_Signed: function 31 -/
def charabancref01_Signed.f (a0 : Int) : Option (Int) := if a0 < 128 then (some (wrap64 (a0))) else (some (wrap64 ((wrap64 (a0)) - 256)))
set_option maxHeartbeats 8000000 in
set_option maxRecDepth 100000 in
theorem charabancref01_Signed.calls (a0 : Int) (r : Int) (w : World) (h : charabancref01_Signed.f a0 = some r) :
    Calls Try.prog 31 #[.int .u8 a0] w fun e w' => e = .returned (.int .i64 r) ∧ Drawn0 w w' := by
  have H : (if a0 < 128 then (some (wrap64 (a0))) else (some (wrap64 ((wrap64 (a0)) - 256)))) = some r := h
  clear h
  by_cases c2 : a0 < 128
  · rw [if_pos c2] at H
    have c2b0 : decide (a0 < 128) = true := decide_eq_true c2
    clear c2
    obtain rfl := Option.some.inj H
    go_enter Try.func31, Try.ntmps31
    go_wp2
    go_ret
    exact ⟨by first | rfl | (simp; done) | (simp [*]; done), by repeat (first | exact Drawn0.refl _ | apply Drawn0.step)⟩
  · rw [if_neg c2] at H
    have c2b0 : decide (a0 < 128) = false := decide_eq_false c2
    clear c2
    obtain rfl := Option.some.inj H
    go_enter Try.func31, Try.ntmps31
    go_wp2
    go_ret
    exact ⟨by first | rfl | (simp; done) | (simp [*]; done), by repeat (first | exact Drawn0.refl _ | apply Drawn0.step)⟩

/-! ### charabancref04_Near: function 57 -/
def charabancref04_Near.f (a0 : Int) (a1 : Int) : Option (Int) := (charabancref01_Signed.f a1).bind fun t154 => ((charabancref04_Move.f a0 t154).bind fun t155 => (some t155))
set_option maxHeartbeats 8000000 in
set_option maxRecDepth 100000 in
theorem charabancref04_Near.calls (a0 : Int) (a1 : Int) (r : Int) (w : World) (h : charabancref04_Near.f a0 a1 = some r) :
    Calls Try.prog 57 #[.int .u16 a0, .int .u8 a1] w fun e w' => e = .returned (.int .u16 r) ∧ Drawn0 w w' := by
  have H : ((charabancref01_Signed.f a1).bind fun t154 => ((charabancref04_Move.f a0 t154).bind fun t155 => (some t155))) = some r := h
  clear h
  replace H := Option.bind_eq_some_iff.mp H
  obtain ⟨t154, A30, H⟩ := H
  replace H : ((charabancref04_Move.f a0 t154).bind fun t155 => (some t155)) = some r := H
  have A3 := Aside0.mk A30
  clear A30
  replace H := Option.bind_eq_some_iff.mp H
  obtain ⟨t155, A40, H⟩ := H
  replace H : (some t155) = some r := H
  have A4 := Aside0.mk A40
  clear A40
  obtain rfl := Option.some.inj H
  go_enter Try.func57, Try.ntmps57
  go_wp2_with (first | ((with_reducible refine gate_callee (f := 31) rfl ?_); refine goesL_ (some 7) rfl rfl Try.func31 (by kernel_rfl) rfl #[.int .u8 a1] rfl (by (try simp only [List.map_toArray, List.map_cons, List.map_nil]); first | done | rfl | (simp only [List.length_drop, List.length_take]; rfl)) ?_; (with_reducible refine (charabancref01_Signed.calls a1 t154 _ A3.out).mono ?_); rintro e w' ⟨rfl, ⟨nd, rfl⟩⟩; refine ⟨_, rfl, ?_⟩) | ((with_reducible refine gate_callee (f := 55) rfl ?_); refine goesL_ (some 8) rfl rfl Try.func55 (by kernel_rfl) rfl #[.int .u16 a0, .int .i64 t154] rfl (by (try simp only [List.map_toArray, List.map_cons, List.map_nil]); first | done | rfl | (simp only [List.length_drop, List.length_take]; rfl)) ?_; (with_reducible refine (charabancref04_Move.calls a0 t154 t155 _ A4.out).mono ?_); rintro e w' ⟨rfl, ⟨nd, rfl⟩⟩; refine ⟨_, rfl, ?_⟩))
  go_ret
  exact ⟨by first | rfl | (simp; done) | (simp [*]; done), by repeat (first | exact Drawn0.refl _ | apply Drawn0.step)⟩

/-! ### charabanclaw04_WideSubs: function 12 -/
def charabanclaw04_WideSubs.f (k : Nat) (a0 : Int) (a1 : Int) (a2 : Int) : Option (Bool) := (charabanclaw04_awake.f).bind fun t156 => (if t156 = true then ((wide_Sbc.f a0 (IntKind.u16.wrap (a1)) a2).bind fun bt157 => ((charabancref04_Sbc.f k a0 (IntKind.u16.wrap (a1)) a2).bind fun bt159 => (if bt157.1 = bt159.1 then (if bt157.2 = bt159.2 then ((wide_Move.f a0 a1).bind fun t161 => ((charabancref04_Move.f a0 a1).bind fun t162 => (if t161 = t162 then ((wide_Near.f a0 ((a1) % 256)).bind fun t163 => ((charabancref04_Near.f a0 ((a1) % 256)).bind fun t164 => (some (t163 == t164)))) else (some false)))) else (some false)) else (some false)))) else (some false))
theorem charabanclaw04_WideSubs.mono : ∀ a0 a1 a2 k, LeO (charabanclaw04_WideSubs.f k a0 a1 a2) (charabanclaw04_WideSubs.f (k + 1) a0 a1 a2) := by
  intro a0 a1 a2 k
  unfold charabanclaw04_WideSubs.f
  repeat' first
      | (with_reducible exact charabancref04_Sbc.mono _ _ _ _)
      | (with_reducible exact LeO.refl _)
      | (with_reducible exact LeO.none _)
      | (with_reducible refine LeO.ite ?_ ?_)
      | (with_reducible refine LeO.bind ?_ (fun _ => ?_))
      | exact charabancref04_Sbc.mono _ _ _ _
      | exact LeO.none _
      | refine LeO.ite ?_ ?_
      | refine LeO.bind ?_ (fun _ => ?_)
set_option maxHeartbeats 8000000 in
set_option maxRecDepth 100000 in
theorem charabanclaw04_WideSubs.calls (k : Nat) (a0 : Int) (a1 : Int) (a2 : Int) (r : Bool) (w : World) (h : charabanclaw04_WideSubs.f k a0 a1 a2 = some r) :
    Calls Try.prog 12 #[.int .u16 a0, .int .i64 a1, .int .u8 a2] w fun e w' => e = .returned (.bool r) ∧ Below w.heap.size w w' := by
  have HB := Aside0.mk (Below.refl w.heap.size w)
  have H : ((charabanclaw04_awake.f).bind fun t156 => (if t156 = true then ((wide_Sbc.f a0 (IntKind.u16.wrap (a1)) a2).bind fun bt157 => ((charabancref04_Sbc.f k a0 (IntKind.u16.wrap (a1)) a2).bind fun bt159 => (if bt157.1 = bt159.1 then (if bt157.2 = bt159.2 then ((wide_Move.f a0 a1).bind fun t161 => ((charabancref04_Move.f a0 a1).bind fun t162 => (if t161 = t162 then ((wide_Near.f a0 ((a1) % 256)).bind fun t163 => ((charabancref04_Near.f a0 ((a1) % 256)).bind fun t164 => (some (t163 == t164)))) else (some false)))) else (some false)) else (some false)))) else (some false))) = some r := h
  clear h
  replace H := Option.bind_eq_some_iff.mp H
  obtain ⟨t156, A40, H⟩ := H
  replace H : (if t156 = true then ((wide_Sbc.f a0 (IntKind.u16.wrap (a1)) a2).bind fun bt157 => ((charabancref04_Sbc.f k a0 (IntKind.u16.wrap (a1)) a2).bind fun bt159 => (if bt157.1 = bt159.1 then (if bt157.2 = bt159.2 then ((wide_Move.f a0 a1).bind fun t161 => ((charabancref04_Move.f a0 a1).bind fun t162 => (if t161 = t162 then ((wide_Near.f a0 ((a1) % 256)).bind fun t163 => ((charabancref04_Near.f a0 ((a1) % 256)).bind fun t164 => (some (t163 == t164)))) else (some false)))) else (some false)) else (some false)))) else (some false)) = some r := H
  have A4 := Aside0.mk A40
  clear A40
  by_cases c5 : t156 = true
  · subst c5
    have H1 : ((wide_Sbc.f a0 (IntKind.u16.wrap (a1)) a2).bind fun bt157 => ((charabancref04_Sbc.f k a0 (IntKind.u16.wrap (a1)) a2).bind fun bt159 => (if bt157.1 = bt159.1 then (if bt157.2 = bt159.2 then ((wide_Move.f a0 a1).bind fun t161 => ((charabancref04_Move.f a0 a1).bind fun t162 => (if t161 = t162 then ((wide_Near.f a0 ((a1) % 256)).bind fun t163 => ((charabancref04_Near.f a0 ((a1) % 256)).bind fun t164 => (some (t163 == t164)))) else (some false)))) else (some false)) else (some false)))) = some r := by rw [if_pos rfl] at H; exact H
    clear H
    have H := H1
    clear H1
    replace H := Option.bind_eq_some_iff.mp H
    obtain ⟨⟨t157, t158⟩, A60, H⟩ := H
    replace H : ((charabancref04_Sbc.f k a0 (IntKind.u16.wrap (a1)) a2).bind fun bt159 => (if t157 = bt159.1 then (if t158 = bt159.2 then ((wide_Move.f a0 a1).bind fun t161 => ((charabancref04_Move.f a0 a1).bind fun t162 => (if t161 = t162 then ((wide_Near.f a0 ((a1) % 256)).bind fun t163 => ((charabancref04_Near.f a0 ((a1) % 256)).bind fun t164 => (some (t163 == t164)))) else (some false)))) else (some false)) else (some false))) = some r := H
    have A6 := Aside0.mk A60
    clear A60
    replace H := Option.bind_eq_some_iff.mp H
    obtain ⟨⟨t159, t160⟩, A70, H⟩ := H
    replace H : (if t157 = t159 then (if t158 = t160 then ((wide_Move.f a0 a1).bind fun t161 => ((charabancref04_Move.f a0 a1).bind fun t162 => (if t161 = t162 then ((wide_Near.f a0 ((a1) % 256)).bind fun t163 => ((charabancref04_Near.f a0 ((a1) % 256)).bind fun t164 => (some (t163 == t164)))) else (some false)))) else (some false)) else (some false)) = some r := H
    have A7 := Aside0.mk A70
    clear A70
    by_cases c8 : t157 = t159
    · rw [if_pos c8] at H
      have c8b0 : (t157 == t159) = true := beq_iff_eq.mpr c8
      have c8b1 : (t157 != t159) = false := bne_eq_false_iff_eq.mpr c8
      clear c8
      by_cases c9 : t158 = t160
      · rw [if_pos c9] at H
        have c9b0 : (t158 == t160) = true := beq_iff_eq.mpr c9
        have c9b1 : (t158 != t160) = false := bne_eq_false_iff_eq.mpr c9
        clear c9
        replace H := Option.bind_eq_some_iff.mp H
        obtain ⟨t161, A100, H⟩ := H
        replace H : ((charabancref04_Move.f a0 a1).bind fun t162 => (if t161 = t162 then ((wide_Near.f a0 ((a1) % 256)).bind fun t163 => ((charabancref04_Near.f a0 ((a1) % 256)).bind fun t164 => (some (t163 == t164)))) else (some false))) = some r := H
        have A10 := Aside0.mk A100
        clear A100
        replace H := Option.bind_eq_some_iff.mp H
        obtain ⟨t162, A110, H⟩ := H
        replace H : (if t161 = t162 then ((wide_Near.f a0 ((a1) % 256)).bind fun t163 => ((charabancref04_Near.f a0 ((a1) % 256)).bind fun t164 => (some (t163 == t164)))) else (some false)) = some r := H
        have A11 := Aside0.mk A110
        clear A110
        by_cases c12 : t161 = t162
        · rw [if_pos c12] at H
          have c12b0 : (t161 == t162) = true := beq_iff_eq.mpr c12
          have c12b1 : (t161 != t162) = false := bne_eq_false_iff_eq.mpr c12
          clear c12
          replace H := Option.bind_eq_some_iff.mp H
          obtain ⟨t163, A130, H⟩ := H
          replace H : ((charabancref04_Near.f a0 ((a1) % 256)).bind fun t164 => (some (t163 == t164))) = some r := H
          have A13 := Aside0.mk A130
          clear A130
          replace H := Option.bind_eq_some_iff.mp H
          obtain ⟨t164, A140, H⟩ := H
          replace H : (some (t163 == t164)) = some r := H
          have A14 := Aside0.mk A140
          clear A140
          obtain rfl := Option.some.inj H
          go_enter Try.func12, Try.ntmps12
          go_wp2_with (first | ((with_reducible refine gate_callee (f := 47) rfl ?_); refine goesL_ (some 13) rfl rfl Try.func47 (by kernel_rfl) rfl #[] rfl (by (try simp only [List.map_toArray, List.map_cons, List.map_nil]); first | done | rfl | (simp only [List.length_drop, List.length_take]; rfl)) ?_; (with_reducible refine (charabanclaw04_awake.calls  true _ A4.out).mono ?_); rintro e w15 ⟨rfl, hb⟩; refine ⟨_, rfl, ?_⟩; have n0_ := Aside0.mk (below_step (by repeat (first | (with_reducible first | exact HB.out | apply below_alloc | apply pw_below_drewN | apply below_drew1) | exact HB.out)) hb); clear HB; have HB := n0_; clear n0_; (try clear hb); (try clear hb2); (try clear hk); (try clear hi)) | ((with_reducible refine gate_callee (f := 52) rfl ?_); refine goesL_ (some 22) rfl rfl Try.func52 (by kernel_rfl) rfl #[.int .u16 a0, .int .u16 (IntKind.u16.wrap (a1)), .int .u8 a2] rfl (by (try simp only [List.map_toArray, List.map_cons, List.map_nil]); first | done | rfl | (simp only [List.length_drop, List.length_take]; rfl)) ?_; (with_reducible refine (wide_Sbc.calls a0 (IntKind.u16.wrap (a1)) a2 t157 t158 _ A6.out).mono ?_); rintro e w16 ⟨rfl, hb⟩; refine ⟨_, rfl, ?_⟩; have n0_ := Aside0.mk (below_step (by repeat (first | (with_reducible first | exact HB.out | apply below_alloc | apply pw_below_drewN | apply below_drew1) | exact HB.out)) hb); clear HB; have HB := n0_; clear n0_; (try clear hb); (try clear hb2); (try clear hk); (try clear hi)) | ((with_reducible refine gate_callee (f := 53) rfl ?_); refine goesL_ (some 29) rfl rfl Try.func53 (by kernel_rfl) rfl #[.int .u16 a0, .int .u16 (IntKind.u16.wrap (a1)), .int .u8 a2] rfl (by (try simp only [List.map_toArray, List.map_cons, List.map_nil]); first | done | rfl | (simp only [List.length_drop, List.length_take]; rfl)) ?_; (with_reducible refine (charabancref04_Sbc.calls k a0 (IntKind.u16.wrap (a1)) a2 t159 t160 _ A7.out).mono ?_); rintro e w17 ⟨rfl, hb⟩; refine ⟨_, rfl, ?_⟩; have n0_ := Aside0.mk (below_step (by repeat (first | (with_reducible first | exact HB.out | apply below_alloc | apply pw_below_drewN | apply below_drew1) | exact HB.out)) hb); clear HB; have HB := n0_; clear n0_; (try clear hb); (try clear hb2); (try clear hk); (try clear hi)) | (go_at_call 54; (with_reducible refine (wide_Move.calls a0 a1 t161 _ A10.out).mono ?_); rintro e w' ⟨rfl, ⟨nd, rfl⟩⟩) | (go_at_call 55; (with_reducible refine (charabancref04_Move.calls a0 a1 t162 _ A11.out).mono ?_); rintro e w' ⟨rfl, ⟨nd, rfl⟩⟩) | (go_at_call 56; (with_reducible refine (wide_Near.calls a0 ((a1) % 256) t163 _ A13.out).mono ?_); rintro e w' ⟨rfl, ⟨nd, rfl⟩⟩) | (go_at_call 57; (with_reducible refine (charabancref04_Near.calls a0 ((a1) % 256) t164 _ A14.out).mono ?_); rintro e w' ⟨rfl, ⟨nd, rfl⟩⟩))
          go_ret
          exact ⟨by first | rfl | (simp [errW_none, errW_some] <;> rfl) | (simp [*, errW_none, errW_some] <;> rfl), by repeat (first | (with_reducible first | exact HB.out | apply below_alloc | apply pw_below_drewN | apply below_drew1) | exact HB.out)⟩
        · rw [if_neg c12] at H
          have c12b0 : (t161 == t162) = false := beq_eq_false_iff_ne.mpr c12
          have c12b1 : (t161 != t162) = true := bne_iff_ne.mpr c12
          obtain rfl := Option.some.inj H
          go_enter Try.func12, Try.ntmps12
          go_wp2_with (first | ((with_reducible refine gate_callee (f := 47) rfl ?_); refine goesL_ (some 13) rfl rfl Try.func47 (by kernel_rfl) rfl #[] rfl (by (try simp only [List.map_toArray, List.map_cons, List.map_nil]); first | done | rfl | (simp only [List.length_drop, List.length_take]; rfl)) ?_; (with_reducible refine (charabanclaw04_awake.calls  true _ A4.out).mono ?_); rintro e w18 ⟨rfl, hb⟩; refine ⟨_, rfl, ?_⟩; have n0_ := Aside0.mk (below_step (by repeat (first | (with_reducible first | exact HB.out | apply below_alloc | apply pw_below_drewN | apply below_drew1) | exact HB.out)) hb); clear HB; have HB := n0_; clear n0_; (try clear hb); (try clear hb2); (try clear hk); (try clear hi)) | ((with_reducible refine gate_callee (f := 52) rfl ?_); refine goesL_ (some 22) rfl rfl Try.func52 (by kernel_rfl) rfl #[.int .u16 a0, .int .u16 (IntKind.u16.wrap (a1)), .int .u8 a2] rfl (by (try simp only [List.map_toArray, List.map_cons, List.map_nil]); first | done | rfl | (simp only [List.length_drop, List.length_take]; rfl)) ?_; (with_reducible refine (wide_Sbc.calls a0 (IntKind.u16.wrap (a1)) a2 t157 t158 _ A6.out).mono ?_); rintro e w19 ⟨rfl, hb⟩; refine ⟨_, rfl, ?_⟩; have n0_ := Aside0.mk (below_step (by repeat (first | (with_reducible first | exact HB.out | apply below_alloc | apply pw_below_drewN | apply below_drew1) | exact HB.out)) hb); clear HB; have HB := n0_; clear n0_; (try clear hb); (try clear hb2); (try clear hk); (try clear hi)) | ((with_reducible refine gate_callee (f := 53) rfl ?_); refine goesL_ (some 29) rfl rfl Try.func53 (by kernel_rfl) rfl #[.int .u16 a0, .int .u16 (IntKind.u16.wrap (a1)), .int .u8 a2] rfl (by (try simp only [List.map_toArray, List.map_cons, List.map_nil]); first | done | rfl | (simp only [List.length_drop, List.length_take]; rfl)) ?_; (with_reducible refine (charabancref04_Sbc.calls k a0 (IntKind.u16.wrap (a1)) a2 t159 t160 _ A7.out).mono ?_); rintro e w20 ⟨rfl, hb⟩; refine ⟨_, rfl, ?_⟩; have n0_ := Aside0.mk (below_step (by repeat (first | (with_reducible first | exact HB.out | apply below_alloc | apply pw_below_drewN | apply below_drew1) | exact HB.out)) hb); clear HB; have HB := n0_; clear n0_; (try clear hb); (try clear hb2); (try clear hk); (try clear hi)) | (go_at_call 54; (with_reducible refine (wide_Move.calls a0 a1 t161 _ A10.out).mono ?_); rintro e w' ⟨rfl, ⟨nd, rfl⟩⟩) | (go_at_call 55; (with_reducible refine (charabancref04_Move.calls a0 a1 t162 _ A11.out).mono ?_); rintro e w' ⟨rfl, ⟨nd, rfl⟩⟩))
          go_ret
          exact ⟨by first | rfl | (simp [errW_none, errW_some] <;> rfl) | (simp [*, errW_none, errW_some] <;> rfl), by repeat (first | (with_reducible first | exact HB.out | apply below_alloc | apply pw_below_drewN | apply below_drew1) | exact HB.out)⟩
      · rw [if_neg c9] at H
        have c9b0 : (t158 == t160) = false := beq_eq_false_iff_ne.mpr c9
        have c9b1 : (t158 != t160) = true := bne_iff_ne.mpr c9
        obtain rfl := Option.some.inj H
        go_enter Try.func12, Try.ntmps12
        go_wp2_with (first | ((with_reducible refine gate_callee (f := 47) rfl ?_); refine goesL_ (some 13) rfl rfl Try.func47 (by kernel_rfl) rfl #[] rfl (by (try simp only [List.map_toArray, List.map_cons, List.map_nil]); first | done | rfl | (simp only [List.length_drop, List.length_take]; rfl)) ?_; (with_reducible refine (charabanclaw04_awake.calls  true _ A4.out).mono ?_); rintro e w21 ⟨rfl, hb⟩; refine ⟨_, rfl, ?_⟩; have n0_ := Aside0.mk (below_step (by repeat (first | (with_reducible first | exact HB.out | apply below_alloc | apply pw_below_drewN | apply below_drew1) | exact HB.out)) hb); clear HB; have HB := n0_; clear n0_; (try clear hb); (try clear hb2); (try clear hk); (try clear hi)) | ((with_reducible refine gate_callee (f := 52) rfl ?_); refine goesL_ (some 22) rfl rfl Try.func52 (by kernel_rfl) rfl #[.int .u16 a0, .int .u16 (IntKind.u16.wrap (a1)), .int .u8 a2] rfl (by (try simp only [List.map_toArray, List.map_cons, List.map_nil]); first | done | rfl | (simp only [List.length_drop, List.length_take]; rfl)) ?_; (with_reducible refine (wide_Sbc.calls a0 (IntKind.u16.wrap (a1)) a2 t157 t158 _ A6.out).mono ?_); rintro e w22 ⟨rfl, hb⟩; refine ⟨_, rfl, ?_⟩; have n0_ := Aside0.mk (below_step (by repeat (first | (with_reducible first | exact HB.out | apply below_alloc | apply pw_below_drewN | apply below_drew1) | exact HB.out)) hb); clear HB; have HB := n0_; clear n0_; (try clear hb); (try clear hb2); (try clear hk); (try clear hi)) | ((with_reducible refine gate_callee (f := 53) rfl ?_); refine goesL_ (some 29) rfl rfl Try.func53 (by kernel_rfl) rfl #[.int .u16 a0, .int .u16 (IntKind.u16.wrap (a1)), .int .u8 a2] rfl (by (try simp only [List.map_toArray, List.map_cons, List.map_nil]); first | done | rfl | (simp only [List.length_drop, List.length_take]; rfl)) ?_; (with_reducible refine (charabancref04_Sbc.calls k a0 (IntKind.u16.wrap (a1)) a2 t159 t160 _ A7.out).mono ?_); rintro e w23 ⟨rfl, hb⟩; refine ⟨_, rfl, ?_⟩; have n0_ := Aside0.mk (below_step (by repeat (first | (with_reducible first | exact HB.out | apply below_alloc | apply pw_below_drewN | apply below_drew1) | exact HB.out)) hb); clear HB; have HB := n0_; clear n0_; (try clear hb); (try clear hb2); (try clear hk); (try clear hi)))
        go_ret
        exact ⟨by first | rfl | (simp [errW_none, errW_some] <;> rfl) | (simp [*, errW_none, errW_some] <;> rfl), by repeat (first | (with_reducible first | exact HB.out | apply below_alloc | apply pw_below_drewN | apply below_drew1) | exact HB.out)⟩
    · rw [if_neg c8] at H
      have c8b0 : (t157 == t159) = false := beq_eq_false_iff_ne.mpr c8
      have c8b1 : (t157 != t159) = true := bne_iff_ne.mpr c8
      obtain rfl := Option.some.inj H
      go_enter Try.func12, Try.ntmps12
      go_wp2_with (first | ((with_reducible refine gate_callee (f := 47) rfl ?_); refine goesL_ (some 13) rfl rfl Try.func47 (by kernel_rfl) rfl #[] rfl (by (try simp only [List.map_toArray, List.map_cons, List.map_nil]); first | done | rfl | (simp only [List.length_drop, List.length_take]; rfl)) ?_; (with_reducible refine (charabanclaw04_awake.calls  true _ A4.out).mono ?_); rintro e w24 ⟨rfl, hb⟩; refine ⟨_, rfl, ?_⟩; have n0_ := Aside0.mk (below_step (by repeat (first | (with_reducible first | exact HB.out | apply below_alloc | apply pw_below_drewN | apply below_drew1) | exact HB.out)) hb); clear HB; have HB := n0_; clear n0_; (try clear hb); (try clear hb2); (try clear hk); (try clear hi)) | ((with_reducible refine gate_callee (f := 52) rfl ?_); refine goesL_ (some 22) rfl rfl Try.func52 (by kernel_rfl) rfl #[.int .u16 a0, .int .u16 (IntKind.u16.wrap (a1)), .int .u8 a2] rfl (by (try simp only [List.map_toArray, List.map_cons, List.map_nil]); first | done | rfl | (simp only [List.length_drop, List.length_take]; rfl)) ?_; (with_reducible refine (wide_Sbc.calls a0 (IntKind.u16.wrap (a1)) a2 t157 t158 _ A6.out).mono ?_); rintro e w25 ⟨rfl, hb⟩; refine ⟨_, rfl, ?_⟩; have n0_ := Aside0.mk (below_step (by repeat (first | (with_reducible first | exact HB.out | apply below_alloc | apply pw_below_drewN | apply below_drew1) | exact HB.out)) hb); clear HB; have HB := n0_; clear n0_; (try clear hb); (try clear hb2); (try clear hk); (try clear hi)) | ((with_reducible refine gate_callee (f := 53) rfl ?_); refine goesL_ (some 29) rfl rfl Try.func53 (by kernel_rfl) rfl #[.int .u16 a0, .int .u16 (IntKind.u16.wrap (a1)), .int .u8 a2] rfl (by (try simp only [List.map_toArray, List.map_cons, List.map_nil]); first | done | rfl | (simp only [List.length_drop, List.length_take]; rfl)) ?_; (with_reducible refine (charabancref04_Sbc.calls k a0 (IntKind.u16.wrap (a1)) a2 t159 t160 _ A7.out).mono ?_); rintro e w26 ⟨rfl, hb⟩; refine ⟨_, rfl, ?_⟩; have n0_ := Aside0.mk (below_step (by repeat (first | (with_reducible first | exact HB.out | apply below_alloc | apply pw_below_drewN | apply below_drew1) | exact HB.out)) hb); clear HB; have HB := n0_; clear n0_; (try clear hb); (try clear hb2); (try clear hk); (try clear hi)))
      go_ret
      exact ⟨by first | rfl | (simp [errW_none, errW_some] <;> rfl) | (simp [*, errW_none, errW_some] <;> rfl), by repeat (first | (with_reducible first | exact HB.out | apply below_alloc | apply pw_below_drewN | apply below_drew1) | exact HB.out)⟩
  · replace c5 := Bool.eq_false_iff.mpr c5
    subst c5
    have H1 : (some false) = some r := by rw [if_neg (show ¬ (false = true) by decide)] at H; exact H
    clear H
    have H := H1
    clear H1
    obtain rfl := Option.some.inj H
    go_enter Try.func12, Try.ntmps12
    go_wp2_with (first | ((with_reducible refine gate_callee (f := 47) rfl ?_); refine goesL_ (some 13) rfl rfl Try.func47 (by kernel_rfl) rfl #[] rfl (by (try simp only [List.map_toArray, List.map_cons, List.map_nil]); first | done | rfl | (simp only [List.length_drop, List.length_take]; rfl)) ?_; (with_reducible refine (charabanclaw04_awake.calls  false _ A4.out).mono ?_); rintro e w27 ⟨rfl, hb⟩; refine ⟨_, rfl, ?_⟩; have n0_ := Aside0.mk (below_step (by repeat (first | (with_reducible first | exact HB.out | apply below_alloc | apply pw_below_drewN | apply below_drew1) | exact HB.out)) hb); clear HB; have HB := n0_; clear n0_; (try clear hb); (try clear hb2); (try clear hk); (try clear hi)))
    go_ret
    exact ⟨by first | rfl | (simp [errW_none, errW_some] <;> rfl) | (simp [*, errW_none, errW_some] <;> rfl), by repeat (first | (with_reducible first | exact HB.out | apply below_alloc | apply pw_below_drewN | apply below_drew1) | exact HB.out)⟩

/-- THE ONE PURE STATEMENT of charabanclaw04_WideSubs: yours. -/
def charabanclaw04_WideSubs.Pure : Prop := ∀ (a0 : Int) (a1 : Int) (a2 : Int), (Lit.int .u16 a0).wf = true → (Lit.int .i64 a1).wf = true → (Lit.int .u8 a2).wf = true → ∃ k, charabanclaw04_WideSubs.f k a0 a1 a2 = some true
theorem charabanclaw04_WideSubs.walk (P : charabanclaw04_WideSubs.Pure) (a0 : Int) (a1 : Int) (a2 : Int) (w : World) (w0 : (Lit.int .u16 a0).wf = true) (w1 : (Lit.int .i64 a1).wf = true) (w2 : (Lit.int .u8 a2).wf = true) :
    Calls Try.prog 12 #[.int .u16 a0, .int .i64 a1, .int .u8 a2] w fun e w' => e = .returned (.bool true) ∧ Below w.heap.size w w' := by
  obtain ⟨k, h⟩ := P a0 a1 a2 w0 w1 w2
  refine (charabanclaw04_WideSubs.calls k a0 a1 a2 true w h).mono ?_
  rintro e w' ⟨rfl, hd⟩
  exact ⟨rfl, hd⟩

/-! ### charabancref01_Lo: function 17 -/
def charabancref01_Lo.f (a0 : Int) : Option (Int) := some ((Int.tmod (wrap64 (a0)) 256) % 256)
set_option maxHeartbeats 8000000 in
set_option maxRecDepth 100000 in
theorem charabancref01_Lo.calls (a0 : Int) (r : Int) (w : World) (h : charabancref01_Lo.f a0 = some r) :
    Calls Try.prog 17 #[.int .u16 a0] w fun e w' => e = .returned (.int .u8 r) ∧ Drawn0 w w' := by
  have H : (some ((Int.tmod (wrap64 (a0)) 256) % 256)) = some r := h
  clear h
  obtain rfl := Option.some.inj H
  go_enter Try.func17, Try.ntmps17
  go_wp2
  go_ret
  exact ⟨by first | rfl | (simp; done) | (simp [*]; done), by repeat (first | exact Drawn0.refl _ | apply Drawn0.step)⟩

/-! ### charabancref01_Word: function 21 -/
def charabancref01_Word.f (a0 : Int) (a1 : Int) : Option (Int) := some (IntKind.u16.wrap (wrap64 ((wrap64 (256 * (wrap64 (a0)))) + (wrap64 (a1)))))
set_option maxHeartbeats 8000000 in
set_option maxRecDepth 100000 in
theorem charabancref01_Word.calls (a0 : Int) (a1 : Int) (r : Int) (w : World) (h : charabancref01_Word.f a0 a1 = some r) :
    Calls Try.prog 21 #[.int .u8 a0, .int .u8 a1] w fun e w' => e = .returned (.int .u16 r) ∧ Drawn0 w w' := by
  have H : (some (IntKind.u16.wrap (wrap64 ((wrap64 (256 * (wrap64 (a0)))) + (wrap64 (a1)))))) = some r := h
  clear h
  obtain rfl := Option.some.inj H
  go_enter Try.func21, Try.ntmps21
  go_wp2
  go_ret
  exact ⟨by first | rfl | (simp; done) | (simp [*]; done), by repeat (first | exact Drawn0.refl _ | apply Drawn0.step)⟩

/-! ### charabancref03_one: function 66 -/
def charabancref03_one.f (a0 : Bool) : Option (Int) := if a0 = true then (some 1) else (some 0)
set_option maxHeartbeats 8000000 in
set_option maxRecDepth 100000 in
theorem charabancref03_one.calls (a0 : Bool) (r : Int) (w : World) (h : charabancref03_one.f a0 = some r) :
    Calls Try.prog 66 #[.bool a0] w fun e w' => e = .returned (.int .i64 r) ∧ Drawn0 w w' := by
  have H : (if a0 = true then (some 1) else (some 0)) = some r := h
  clear h
  by_cases c2 : a0 = true
  · subst c2
    have H1 : (some 1) = some r := by rw [if_pos rfl] at H; exact H
    clear H
    have H := H1
    clear H1
    obtain rfl := Option.some.inj H
    go_enter Try.func66, Try.ntmps66
    go_wp2
    go_ret
    exact ⟨by first | rfl | (simp; done) | (simp [*]; done), by repeat (first | exact Drawn0.refl _ | apply Drawn0.step)⟩
  · replace c2 := Bool.eq_false_iff.mpr c2
    subst c2
    have H1 : (some 0) = some r := by rw [if_neg (show ¬ (false = true) by decide)] at H; exact H
    clear H
    have H := H1
    clear H1
    obtain rfl := Option.some.inj H
    go_enter Try.func66, Try.ntmps66
    go_wp2
    go_ret
    exact ⟨by first | rfl | (simp; done) | (simp [*]; done), by repeat (first | exact Drawn0.refl _ | apply Drawn0.step)⟩

-- NOT PRINTED: function 68 (charabancref02_Result)

end Go.Proofs.Ythidmlnoiginiaa.PW
