/- Written by a program of this session out of the translation and the contracts proved by hand: each function's answer and its proof; each law's statement over plain numbers. -/
import Derived.Test.YthidmlnoiginiaaPBx0
import Derived.Test.YthidmlnoiginiaaPBx1
namespace Go.Proofs.Ythidmlnoiginiaa.PB
open Go.RowKit Go.Proofs.YthidmlnoiginiaaW.PrintWords Go.Proofs.YthidmlnoiginiaaW.PrintLast Go.Proofs.YthidmlnoiginiaaW.PrintMore
attribute [local go_sem] max2_int min2_int max_two min_two max_three min_three max_four min_four   -- for this text's walks alone
set_option linter.unusedVariables false
set_option linter.unusedSimpArgs false

/-! ### charabanclaw01_BitsBack: function 6 -/
def charabanclaw01_BitsBack.j0 : Nat → Int → Int → Int → Int → Bool → Option (Bool)
  | 0, _, _, _, _, _ => none
  | k + 1, x0, x8, x9, x10, x60 => if x60 = true then (some false) else ((bits_Hi.f x0).bind fun t152 => ((bits_Lo.f x0).bind fun t153 => ((bits_Word.f t152 t153).bind fun t154 => (if t154 = x0 then ((bits_Turn.f x10 (wrap64 (-x9))).bind fun t155 => (if t155 = x8 then ((bits_Turn.f x8 8).bind fun t156 => (if t156 = x8 then ((bits_Even.f x10).bind fun t157 => ((bits_Even.f x8).bind fun t158 => (if (t157 == t158) = true then ((bits_Signed.f x8).bind fun t159 => (some (((t159) % 256) == x8))) else (some false)))) else (some false))) else (some false))) else (some false)))))
def charabanclaw01_BitsBack.f (k : Nat) (a0 : Int) (a1 : Int) (a2 : Int) : Option (Bool) := (charabanclaw01_awake.f).bind fun t143 => (if t143 = true then ((bits_Lo.f a0).bind fun t144 => ((bits_Turn.f t144 (Go.bits .and .i64 a1 1023)).bind fun t145 => ((bits_With.f t144 a2 true).bind fun t146 => ((bits_With.f t144 a2 false).bind fun t147 => (if a2 ≥ 0 then (if a2 ≤ 7 then ((bits_Is.f t146 a2).bind fun t148 => (if t148 = true then ((bits_Is.f t147 a2).bind fun t149 => (if t149 = true then (charabanclaw01_BitsBack.j0 k a0 t144 (Go.bits .and .i64 a1 1023) t145 true) else ((bits_With.f t146 a2 false).bind fun t150 => (if t150 = t147 then ((bits_Turn.f 1 a2).bind fun t151 => (charabanclaw01_BitsBack.j0 k a0 t144 (Go.bits .and .i64 a1 1023) t145 (((t146 - t147) % 256) != t151))) else (charabanclaw01_BitsBack.j0 k a0 t144 (Go.bits .and .i64 a1 1023) t145 true))))) else (charabanclaw01_BitsBack.j0 k a0 t144 (Go.bits .and .i64 a1 1023) t145 true))) else (charabanclaw01_BitsBack.j0 k a0 t144 (Go.bits .and .i64 a1 1023) t145 false)) else (charabanclaw01_BitsBack.j0 k a0 t144 (Go.bits .and .i64 a1 1023) t145 false)))))) else (some false))
theorem charabanclaw01_BitsBack.mono_l : ∀ k, (∀ y0 y1 y2 y3 y4, LeO (charabanclaw01_BitsBack.j0 k y0 y1 y2 y3 y4) (charabanclaw01_BitsBack.j0 (k + 1) y0 y1 y2 y3 y4))
  | 0 => fun _ _ _ _ _ r h => by simp [charabanclaw01_BitsBack.j0] at h
  | k + 1 => by
    have ih0 := charabanclaw01_BitsBack.mono_l k
    · intro y0 y1 y2 y3 y4
      unfold charabanclaw01_BitsBack.j0
      repeat' first
      | (with_reducible exact ih0 _ _ _ _ _)
      | (with_reducible exact LeO.refl _)
      | (with_reducible exact LeO.none _)
      | (with_reducible refine LeO.ite ?_ ?_)
      | (with_reducible refine LeO.bind ?_ (fun _ => ?_))
      | exact ih0 _ _ _ _ _
      | exact LeO.none _
      | refine LeO.ite ?_ ?_
      | refine LeO.bind ?_ (fun _ => ?_)
theorem charabanclaw01_BitsBack.mono : ∀ a0 a1 a2 k, LeO (charabanclaw01_BitsBack.f k a0 a1 a2) (charabanclaw01_BitsBack.f (k + 1) a0 a1 a2) := by
  intro a0 a1 a2 k
  have ih0 := charabanclaw01_BitsBack.mono_l k
  unfold charabanclaw01_BitsBack.f
  repeat' first
      | (with_reducible exact ih0 _ _ _ _ _)
      | (with_reducible exact LeO.refl _)
      | (with_reducible exact LeO.none _)
      | (with_reducible refine LeO.ite ?_ ?_)
      | (with_reducible refine LeO.bind ?_ (fun _ => ?_))
      | exact ih0 _ _ _ _ _
      | exact LeO.none _
      | refine LeO.ite ?_ ?_
      | refine LeO.bind ?_ (fun _ => ?_)
set_option maxHeartbeats 8000000 in
set_option maxRecDepth 100000 in
theorem charabanclaw01_BitsBack.calls (k : Nat) (a0 : Int) (a1 : Int) (a2 : Int) (r : Bool) (w : World) (h : charabanclaw01_BitsBack.f k a0 a1 a2 = some r) :
    Calls Try.prog 6 #[.int .u16 a0, .int .i64 a1, .int .i64 a2] w fun e w' => e = .returned (.bool r) ∧ Below w.heap.size w w' := by
  have HB := Aside0.mk (Below.refl w.heap.size w)
  have H : ((charabanclaw01_awake.f).bind fun t143 => (if t143 = true then ((bits_Lo.f a0).bind fun t144 => ((bits_Turn.f t144 (Go.bits .and .i64 a1 1023)).bind fun t145 => ((bits_With.f t144 a2 true).bind fun t146 => ((bits_With.f t144 a2 false).bind fun t147 => (if a2 ≥ 0 then (if a2 ≤ 7 then ((bits_Is.f t146 a2).bind fun t148 => (if t148 = true then ((bits_Is.f t147 a2).bind fun t149 => (if t149 = true then (charabanclaw01_BitsBack.j0 k a0 t144 (Go.bits .and .i64 a1 1023) t145 true) else ((bits_With.f t146 a2 false).bind fun t150 => (if t150 = t147 then ((bits_Turn.f 1 a2).bind fun t151 => (charabanclaw01_BitsBack.j0 k a0 t144 (Go.bits .and .i64 a1 1023) t145 (((t146 - t147) % 256) != t151))) else (charabanclaw01_BitsBack.j0 k a0 t144 (Go.bits .and .i64 a1 1023) t145 true))))) else (charabanclaw01_BitsBack.j0 k a0 t144 (Go.bits .and .i64 a1 1023) t145 true))) else (charabanclaw01_BitsBack.j0 k a0 t144 (Go.bits .and .i64 a1 1023) t145 false)) else (charabanclaw01_BitsBack.j0 k a0 t144 (Go.bits .and .i64 a1 1023) t145 false)))))) else (some false))) = some r := h
  clear h
  replace H := Option.bind_eq_some_iff.mp H
  obtain ⟨t143, A40, H⟩ := H
  replace H : (if t143 = true then ((bits_Lo.f a0).bind fun t144 => ((bits_Turn.f t144 (Go.bits .and .i64 a1 1023)).bind fun t145 => ((bits_With.f t144 a2 true).bind fun t146 => ((bits_With.f t144 a2 false).bind fun t147 => (if a2 ≥ 0 then (if a2 ≤ 7 then ((bits_Is.f t146 a2).bind fun t148 => (if t148 = true then ((bits_Is.f t147 a2).bind fun t149 => (if t149 = true then (charabanclaw01_BitsBack.j0 k a0 t144 (Go.bits .and .i64 a1 1023) t145 true) else ((bits_With.f t146 a2 false).bind fun t150 => (if t150 = t147 then ((bits_Turn.f 1 a2).bind fun t151 => (charabanclaw01_BitsBack.j0 k a0 t144 (Go.bits .and .i64 a1 1023) t145 (((t146 - t147) % 256) != t151))) else (charabanclaw01_BitsBack.j0 k a0 t144 (Go.bits .and .i64 a1 1023) t145 true))))) else (charabanclaw01_BitsBack.j0 k a0 t144 (Go.bits .and .i64 a1 1023) t145 true))) else (charabanclaw01_BitsBack.j0 k a0 t144 (Go.bits .and .i64 a1 1023) t145 false)) else (charabanclaw01_BitsBack.j0 k a0 t144 (Go.bits .and .i64 a1 1023) t145 false)))))) else (some false)) = some r := H
  have A4 := Aside0.mk A40
  clear A40
  by_cases c5 : t143 = true
  · subst c5
    have H1 : ((bits_Lo.f a0).bind fun t144 => ((bits_Turn.f t144 (Go.bits .and .i64 a1 1023)).bind fun t145 => ((bits_With.f t144 a2 true).bind fun t146 => ((bits_With.f t144 a2 false).bind fun t147 => (if a2 ≥ 0 then (if a2 ≤ 7 then ((bits_Is.f t146 a2).bind fun t148 => (if t148 = true then ((bits_Is.f t147 a2).bind fun t149 => (if t149 = true then (charabanclaw01_BitsBack.j0 k a0 t144 (Go.bits .and .i64 a1 1023) t145 true) else ((bits_With.f t146 a2 false).bind fun t150 => (if t150 = t147 then ((bits_Turn.f 1 a2).bind fun t151 => (charabanclaw01_BitsBack.j0 k a0 t144 (Go.bits .and .i64 a1 1023) t145 (((t146 - t147) % 256) != t151))) else (charabanclaw01_BitsBack.j0 k a0 t144 (Go.bits .and .i64 a1 1023) t145 true))))) else (charabanclaw01_BitsBack.j0 k a0 t144 (Go.bits .and .i64 a1 1023) t145 true))) else (charabanclaw01_BitsBack.j0 k a0 t144 (Go.bits .and .i64 a1 1023) t145 false)) else (charabanclaw01_BitsBack.j0 k a0 t144 (Go.bits .and .i64 a1 1023) t145 false)))))) = some r := by rw [if_pos rfl] at H; exact H
    clear H
    have H := H1
    clear H1
    replace H := Option.bind_eq_some_iff.mp H
    obtain ⟨t144, A60, H⟩ := H
    replace H : ((bits_Turn.f t144 (Go.bits .and .i64 a1 1023)).bind fun t145 => ((bits_With.f t144 a2 true).bind fun t146 => ((bits_With.f t144 a2 false).bind fun t147 => (if a2 ≥ 0 then (if a2 ≤ 7 then ((bits_Is.f t146 a2).bind fun t148 => (if t148 = true then ((bits_Is.f t147 a2).bind fun t149 => (if t149 = true then (charabanclaw01_BitsBack.j0 k a0 t144 (Go.bits .and .i64 a1 1023) t145 true) else ((bits_With.f t146 a2 false).bind fun t150 => (if t150 = t147 then ((bits_Turn.f 1 a2).bind fun t151 => (charabanclaw01_BitsBack.j0 k a0 t144 (Go.bits .and .i64 a1 1023) t145 (((t146 - t147) % 256) != t151))) else (charabanclaw01_BitsBack.j0 k a0 t144 (Go.bits .and .i64 a1 1023) t145 true))))) else (charabanclaw01_BitsBack.j0 k a0 t144 (Go.bits .and .i64 a1 1023) t145 true))) else (charabanclaw01_BitsBack.j0 k a0 t144 (Go.bits .and .i64 a1 1023) t145 false)) else (charabanclaw01_BitsBack.j0 k a0 t144 (Go.bits .and .i64 a1 1023) t145 false))))) = some r := H
    have A6 := Aside0.mk A60
    clear A60
    replace H := Option.bind_eq_some_iff.mp H
    obtain ⟨t145, A70, H⟩ := H
    replace H : ((bits_With.f t144 a2 true).bind fun t146 => ((bits_With.f t144 a2 false).bind fun t147 => (if a2 ≥ 0 then (if a2 ≤ 7 then ((bits_Is.f t146 a2).bind fun t148 => (if t148 = true then ((bits_Is.f t147 a2).bind fun t149 => (if t149 = true then (charabanclaw01_BitsBack.j0 k a0 t144 (Go.bits .and .i64 a1 1023) t145 true) else ((bits_With.f t146 a2 false).bind fun t150 => (if t150 = t147 then ((bits_Turn.f 1 a2).bind fun t151 => (charabanclaw01_BitsBack.j0 k a0 t144 (Go.bits .and .i64 a1 1023) t145 (((t146 - t147) % 256) != t151))) else (charabanclaw01_BitsBack.j0 k a0 t144 (Go.bits .and .i64 a1 1023) t145 true))))) else (charabanclaw01_BitsBack.j0 k a0 t144 (Go.bits .and .i64 a1 1023) t145 true))) else (charabanclaw01_BitsBack.j0 k a0 t144 (Go.bits .and .i64 a1 1023) t145 false)) else (charabanclaw01_BitsBack.j0 k a0 t144 (Go.bits .and .i64 a1 1023) t145 false)))) = some r := H
    have A7 := Aside0.mk A70
    clear A70
    replace H := Option.bind_eq_some_iff.mp H
    obtain ⟨t146, A80, H⟩ := H
    replace H : ((bits_With.f t144 a2 false).bind fun t147 => (if a2 ≥ 0 then (if a2 ≤ 7 then ((bits_Is.f t146 a2).bind fun t148 => (if t148 = true then ((bits_Is.f t147 a2).bind fun t149 => (if t149 = true then (charabanclaw01_BitsBack.j0 k a0 t144 (Go.bits .and .i64 a1 1023) t145 true) else ((bits_With.f t146 a2 false).bind fun t150 => (if t150 = t147 then ((bits_Turn.f 1 a2).bind fun t151 => (charabanclaw01_BitsBack.j0 k a0 t144 (Go.bits .and .i64 a1 1023) t145 (((t146 - t147) % 256) != t151))) else (charabanclaw01_BitsBack.j0 k a0 t144 (Go.bits .and .i64 a1 1023) t145 true))))) else (charabanclaw01_BitsBack.j0 k a0 t144 (Go.bits .and .i64 a1 1023) t145 true))) else (charabanclaw01_BitsBack.j0 k a0 t144 (Go.bits .and .i64 a1 1023) t145 false)) else (charabanclaw01_BitsBack.j0 k a0 t144 (Go.bits .and .i64 a1 1023) t145 false))) = some r := H
    have A8 := Aside0.mk A80
    clear A80
    replace H := Option.bind_eq_some_iff.mp H
    obtain ⟨t147, A90, H⟩ := H
    replace H : (if a2 ≥ 0 then (if a2 ≤ 7 then ((bits_Is.f t146 a2).bind fun t148 => (if t148 = true then ((bits_Is.f t147 a2).bind fun t149 => (if t149 = true then (charabanclaw01_BitsBack.j0 k a0 t144 (Go.bits .and .i64 a1 1023) t145 true) else ((bits_With.f t146 a2 false).bind fun t150 => (if t150 = t147 then ((bits_Turn.f 1 a2).bind fun t151 => (charabanclaw01_BitsBack.j0 k a0 t144 (Go.bits .and .i64 a1 1023) t145 (((t146 - t147) % 256) != t151))) else (charabanclaw01_BitsBack.j0 k a0 t144 (Go.bits .and .i64 a1 1023) t145 true))))) else (charabanclaw01_BitsBack.j0 k a0 t144 (Go.bits .and .i64 a1 1023) t145 true))) else (charabanclaw01_BitsBack.j0 k a0 t144 (Go.bits .and .i64 a1 1023) t145 false)) else (charabanclaw01_BitsBack.j0 k a0 t144 (Go.bits .and .i64 a1 1023) t145 false)) = some r := H
    have A9 := Aside0.mk A90
    clear A90
    have HC10 := Aside0.mk H
    clear H
    go_enter Try.func6, Try.ntmps6
    go_upto_region 9 with (first | ((with_reducible refine gate_callee (f := 15) rfl ?_); refine goesL_ (some 13) rfl rfl Try.func15 (by kernel_rfl) rfl #[] rfl (by (try simp only [List.map_toArray, List.map_cons, List.map_nil]); first | done | rfl | (simp only [List.length_drop, List.length_take]; rfl)) ?_; (with_reducible refine (charabanclaw01_awake.calls  true _ A4.out).mono ?_); rintro e w11 ⟨rfl, hb⟩; refine ⟨_, rfl, ?_⟩; have n0_ := Aside0.mk (below_step (by repeat (first | (with_reducible first | exact HB.out | apply below_alloc | apply pw_below_drewN | apply below_drew1) | exact HB.out)) hb); clear HB; have HB := n0_; clear n0_; (try clear hb); (try clear hb2); (try clear hk); (try clear hi)) | ((with_reducible refine gate_callee (f := 16) rfl ?_); refine goesL_ (some 17) rfl rfl Try.func16 (by kernel_rfl) rfl #[.int .u16 a0] rfl (by (try simp only [List.map_toArray, List.map_cons, List.map_nil]); first | done | rfl | (simp only [List.length_drop, List.length_take]; rfl)) ?_; (with_reducible refine (bits_Lo.calls a0 t144 _ A6.out).mono ?_); rintro e w' ⟨rfl, ⟨nd, rfl⟩⟩; refine ⟨_, rfl, ?_⟩) | ((with_reducible refine gate_callee (f := 28) rfl ?_); refine goesL_ (some 22) rfl rfl Try.func28 (by kernel_rfl) rfl #[.int .u8 t144, .int .i64 (Go.bits .and .i64 a1 1023)] rfl (by (try simp only [List.map_toArray, List.map_cons, List.map_nil]); first | done | rfl | (simp only [List.length_drop, List.length_take]; rfl)) ?_; (with_reducible refine (bits_Turn.calls t144 (Go.bits .and .i64 a1 1023) t145 _ A7.out).mono ?_); rintro e w' ⟨rfl, ⟨nd, rfl⟩⟩; refine ⟨_, rfl, ?_⟩) | ((with_reducible refine gate_callee (f := 24) rfl ?_); refine goesL_ (some 25) rfl rfl Try.func24 (by kernel_rfl) rfl #[.int .u8 t144, .int .i64 a2, .bool true] rfl (by (try simp only [List.map_toArray, List.map_cons, List.map_nil]); first | done | rfl | (simp only [List.length_drop, List.length_take]; rfl)) ?_; (with_reducible refine (bits_With.calls t144 a2 true t146 _ A8.out).mono ?_); rintro e w' ⟨rfl, ⟨nd, rfl⟩⟩; refine ⟨_, rfl, ?_⟩) | ((with_reducible refine gate_callee (f := 24) rfl ?_); refine goesL_ (some 28) rfl rfl Try.func24 (by kernel_rfl) rfl #[.int .u8 t144, .int .i64 a2, .bool false] rfl (by (try simp only [List.map_toArray, List.map_cons, List.map_nil]); first | done | rfl | (simp only [List.length_drop, List.length_take]; rfl)) ?_; (with_reducible refine (bits_With.calls t144 a2 false t147 _ A9.out).mono ?_); rintro e w' ⟨rfl, ⟨nd, rfl⟩⟩; refine ⟨_, rfl, ?_⟩))
    (try simp only [Act.put, List.setIfInBounds_toArray, List.set_cons_zero, List.set_cons_succ])
    go_cut [60] (fun v60 wc => ∃ (kq : Nat) (x60_9 : Bool), v60 = .bool x60_9 ∧ Aside0 (charabanclaw01_BitsBack.j0 kq a0 t144 (Go.bits .and .i64 a1 1023) t145 x60_9 = some r) ∧ Aside0 (kq ≤ k) ∧ Aside0 (Below w.heap.size w wc))
    case first =>
      have H := HC10.out
      clear HC10
      by_cases c12 : a2 ≥ 0
      · rw [if_pos c12] at H
        have c12b0 : decide (0 ≤ a2) = true := decide_eq_true c12
        clear c12
        (first | rw [c12b0] | (simp only [i64_w, i32_w]; rw [c12b0]) | skip)
        by_cases c13 : a2 ≤ 7
        · rw [if_pos c13] at H
          have c13b0 : decide (a2 ≤ 7) = true := decide_eq_true c13
          clear c13
          replace H := Option.bind_eq_some_iff.mp H
          obtain ⟨t148, A140, H⟩ := H
          replace H : (if t148 = true then ((bits_Is.f t147 a2).bind fun t149 => (if t149 = true then (charabanclaw01_BitsBack.j0 k a0 t144 (Go.bits .and .i64 a1 1023) t145 true) else ((bits_With.f t146 a2 false).bind fun t150 => (if t150 = t147 then ((bits_Turn.f 1 a2).bind fun t151 => (charabanclaw01_BitsBack.j0 k a0 t144 (Go.bits .and .i64 a1 1023) t145 (((t146 - t147) % 256) != t151))) else (charabanclaw01_BitsBack.j0 k a0 t144 (Go.bits .and .i64 a1 1023) t145 true))))) else (charabanclaw01_BitsBack.j0 k a0 t144 (Go.bits .and .i64 a1 1023) t145 true)) = some r := H
          have A14 := Aside0.mk A140
          clear A140
          by_cases c15 : t148 = true
          · subst c15
            have H1 : ((bits_Is.f t147 a2).bind fun t149 => (if t149 = true then (charabanclaw01_BitsBack.j0 k a0 t144 (Go.bits .and .i64 a1 1023) t145 true) else ((bits_With.f t146 a2 false).bind fun t150 => (if t150 = t147 then ((bits_Turn.f 1 a2).bind fun t151 => (charabanclaw01_BitsBack.j0 k a0 t144 (Go.bits .and .i64 a1 1023) t145 (((t146 - t147) % 256) != t151))) else (charabanclaw01_BitsBack.j0 k a0 t144 (Go.bits .and .i64 a1 1023) t145 true))))) = some r := by rw [if_pos rfl] at H; exact H
            clear H
            have H := H1
            clear H1
            replace H := Option.bind_eq_some_iff.mp H
            obtain ⟨t149, A160, H⟩ := H
            replace H : (if t149 = true then (charabanclaw01_BitsBack.j0 k a0 t144 (Go.bits .and .i64 a1 1023) t145 true) else ((bits_With.f t146 a2 false).bind fun t150 => (if t150 = t147 then ((bits_Turn.f 1 a2).bind fun t151 => (charabanclaw01_BitsBack.j0 k a0 t144 (Go.bits .and .i64 a1 1023) t145 (((t146 - t147) % 256) != t151))) else (charabanclaw01_BitsBack.j0 k a0 t144 (Go.bits .and .i64 a1 1023) t145 true)))) = some r := H
            have A16 := Aside0.mk A160
            clear A160
            by_cases c17 : t149 = true
            · subst c17
              have H1 : (charabanclaw01_BitsBack.j0 k a0 t144 (Go.bits .and .i64 a1 1023) t145 true) = some r := by rw [if_pos rfl] at H; exact H
              clear H
              have H := H1
              clear H1
              have H' := Aside0.mk H
              clear H
              go_wp2_with (first | (go_at_call 22; (with_reducible refine (bits_Is.calls t146 a2 true _ A14.out).mono ?_); rintro e w' ⟨rfl, ⟨nd, rfl⟩⟩) | (go_at_call 22; (with_reducible refine (bits_Is.calls t147 a2 true _ A16.out).mono ?_); rintro e w' ⟨rfl, ⟨nd, rfl⟩⟩))
              go_meet
              case rel => exact ⟨_, (true), (by first | rfl | (simp; done) | (simp [*]; done)), H', ⟨by first | omega | exact Nat.le_refl _⟩, ⟨by repeat (first | (with_reducible first | exact HB.out | apply below_alloc | apply pw_below_drewN | apply below_drew1) | exact HB.out)⟩⟩
            · replace c17 := Bool.eq_false_iff.mpr c17
              subst c17
              have H1 : ((bits_With.f t146 a2 false).bind fun t150 => (if t150 = t147 then ((bits_Turn.f 1 a2).bind fun t151 => (charabanclaw01_BitsBack.j0 k a0 t144 (Go.bits .and .i64 a1 1023) t145 (((t146 - t147) % 256) != t151))) else (charabanclaw01_BitsBack.j0 k a0 t144 (Go.bits .and .i64 a1 1023) t145 true))) = some r := by rw [if_neg (show ¬ (false = true) by decide)] at H; exact H
              clear H
              have H := H1
              clear H1
              replace H := Option.bind_eq_some_iff.mp H
              obtain ⟨t150, A180, H⟩ := H
              replace H : (if t150 = t147 then ((bits_Turn.f 1 a2).bind fun t151 => (charabanclaw01_BitsBack.j0 k a0 t144 (Go.bits .and .i64 a1 1023) t145 (((t146 - t147) % 256) != t151))) else (charabanclaw01_BitsBack.j0 k a0 t144 (Go.bits .and .i64 a1 1023) t145 true)) = some r := H
              have A18 := Aside0.mk A180
              clear A180
              by_cases c19 : t150 = t147
              · rw [if_pos c19] at H
                have c19b0 : (t150 == t147) = true := beq_iff_eq.mpr c19
                have c19b1 : (t150 != t147) = false := bne_eq_false_iff_eq.mpr c19
                clear c19
                replace H := Option.bind_eq_some_iff.mp H
                obtain ⟨t151, A200, H⟩ := H
                replace H : (charabanclaw01_BitsBack.j0 k a0 t144 (Go.bits .and .i64 a1 1023) t145 (((t146 - t147) % 256) != t151)) = some r := H
                have A20 := Aside0.mk A200
                clear A200
                have H' := Aside0.mk H
                clear H
                go_wp2_with (first | (go_at_call 22; (with_reducible refine (bits_Is.calls t146 a2 true _ A14.out).mono ?_); rintro e w' ⟨rfl, ⟨nd, rfl⟩⟩) | (go_at_call 22; (with_reducible refine (bits_Is.calls t147 a2 false _ A16.out).mono ?_); rintro e w' ⟨rfl, ⟨nd, rfl⟩⟩) | (go_at_call 24; (with_reducible refine (bits_With.calls t146 a2 false t150 _ A18.out).mono ?_); rintro e w' ⟨rfl, ⟨nd, rfl⟩⟩) | (go_at_call 28; (with_reducible refine (bits_Turn.calls 1 a2 t151 _ A20.out).mono ?_); rintro e w' ⟨rfl, ⟨nd, rfl⟩⟩))
                go_meet
                case rel => exact ⟨_, ((((t146 - t147) % 256) != t151)), (by first | rfl | (simp; done) | (simp [*]; done)), H', ⟨by first | omega | exact Nat.le_refl _⟩, ⟨by repeat (first | (with_reducible first | exact HB.out | apply below_alloc | apply pw_below_drewN | apply below_drew1) | exact HB.out)⟩⟩
              · rw [if_neg c19] at H
                have c19b0 : (t150 == t147) = false := beq_eq_false_iff_ne.mpr c19
                have c19b1 : (t150 != t147) = true := bne_iff_ne.mpr c19
                have H' := Aside0.mk H
                clear H
                go_wp2_with (first | (go_at_call 22; (with_reducible refine (bits_Is.calls t146 a2 true _ A14.out).mono ?_); rintro e w' ⟨rfl, ⟨nd, rfl⟩⟩) | (go_at_call 22; (with_reducible refine (bits_Is.calls t147 a2 false _ A16.out).mono ?_); rintro e w' ⟨rfl, ⟨nd, rfl⟩⟩) | (go_at_call 24; (with_reducible refine (bits_With.calls t146 a2 false t150 _ A18.out).mono ?_); rintro e w' ⟨rfl, ⟨nd, rfl⟩⟩))
                go_meet
                case rel => exact ⟨_, (true), (by first | rfl | (simp; done) | (simp [*]; done)), H', ⟨by first | omega | exact Nat.le_refl _⟩, ⟨by repeat (first | (with_reducible first | exact HB.out | apply below_alloc | apply pw_below_drewN | apply below_drew1) | exact HB.out)⟩⟩
          · replace c15 := Bool.eq_false_iff.mpr c15
            subst c15
            have H1 : (charabanclaw01_BitsBack.j0 k a0 t144 (Go.bits .and .i64 a1 1023) t145 true) = some r := by rw [if_neg (show ¬ (false = true) by decide)] at H; exact H
            clear H
            have H := H1
            clear H1
            have H' := Aside0.mk H
            clear H
            go_wp2_with (first | (go_at_call 22; (with_reducible refine (bits_Is.calls t146 a2 false _ A14.out).mono ?_); rintro e w' ⟨rfl, ⟨nd, rfl⟩⟩))
            go_meet
            case rel => exact ⟨_, (true), (by first | rfl | (simp; done) | (simp [*]; done)), H', ⟨by first | omega | exact Nat.le_refl _⟩, ⟨by repeat (first | (with_reducible first | exact HB.out | apply below_alloc | apply pw_below_drewN | apply below_drew1) | exact HB.out)⟩⟩
        · rw [if_neg c13] at H
          have c13b0 : decide (a2 ≤ 7) = false := decide_eq_false c13
          clear c13
          have H' := Aside0.mk H
          clear H
          go_wp2
          go_meet
          case rel => exact ⟨_, (false), (by first | rfl | (simp; done) | (simp [*]; done)), H', ⟨by first | omega | exact Nat.le_refl _⟩, ⟨by repeat (first | (with_reducible first | exact HB.out | apply below_alloc | apply pw_below_drewN | apply below_drew1) | exact HB.out)⟩⟩
      · rw [if_neg c12] at H
        have c12b0 : decide (0 ≤ a2) = false := decide_eq_false c12
        clear c12
        (first | rw [c12b0] | (simp only [i64_w, i32_w]; rw [c12b0]) | skip)
        have H' := Aside0.mk H
        clear H
        go_wp2
        go_meet
        case rel => exact ⟨_, (false), (by first | rfl | (simp; done) | (simp [*]; done)), H', ⟨by first | omega | exact Nat.le_refl _⟩, ⟨by repeat (first | (with_reducible first | exact HB.out | apply below_alloc | apply pw_below_drewN | apply below_drew1) | exact HB.out)⟩⟩
    case rest =>
      clear HC10
      try clear c1
      try clear c2
      try clear p2
      try clear c5
      try clear c6
      try clear c12
      try clear c12b0
      try clear c13
      try clear c13b0
      try clear c15
      try clear c16
      try clear c17
      try clear c19
      try clear c19b0
      try clear c19b1
      obtain ⟨kq, x60_9, rfl, HA, HJ9, HB⟩ := hcut
      cases kq with
      | zero => exact absurd HA.out (by simp [charabanclaw01_BitsBack.j0])
      | succ kj9 =>
        have H := HA.out
        clear HA
        simp only [charabanclaw01_BitsBack.j0] at H
        by_cases c21 : x60_9 = true
        · subst c21
          have H1 : (some false) = some r := by rw [if_pos rfl] at H; exact H
          clear H
          have H := H1
          clear H1
          obtain rfl := Option.some.inj H
          go_wp2
          go_ret
          exact ⟨by first | rfl | (simp [errW_none, errW_some] <;> rfl) | (simp [*, errW_none, errW_some] <;> rfl), by repeat (first | (with_reducible first | exact HB.out | apply below_alloc | apply pw_below_drewN | apply below_drew1) | exact HB.out)⟩
        · replace c21 := Bool.eq_false_iff.mpr c21
          subst c21
          have H1 : ((bits_Hi.f a0).bind fun t152 => ((bits_Lo.f a0).bind fun t153 => ((bits_Word.f t152 t153).bind fun t154 => (if t154 = a0 then ((bits_Turn.f t145 (wrap64 (-(Go.bits .and .i64 a1 1023)))).bind fun t155 => (if t155 = t144 then ((bits_Turn.f t144 8).bind fun t156 => (if t156 = t144 then ((bits_Even.f t145).bind fun t157 => ((bits_Even.f t144).bind fun t158 => (if (t157 == t158) = true then ((bits_Signed.f t144).bind fun t159 => (some (((t159) % 256) == t144))) else (some false)))) else (some false))) else (some false))) else (some false))))) = some r := by rw [if_neg (show ¬ (false = true) by decide)] at H; exact H
          clear H
          have H := H1
          clear H1
          replace H := Option.bind_eq_some_iff.mp H
          obtain ⟨t152, A220, H⟩ := H
          replace H : ((bits_Lo.f a0).bind fun t153 => ((bits_Word.f t152 t153).bind fun t154 => (if t154 = a0 then ((bits_Turn.f t145 (wrap64 (-(Go.bits .and .i64 a1 1023)))).bind fun t155 => (if t155 = t144 then ((bits_Turn.f t144 8).bind fun t156 => (if t156 = t144 then ((bits_Even.f t145).bind fun t157 => ((bits_Even.f t144).bind fun t158 => (if (t157 == t158) = true then ((bits_Signed.f t144).bind fun t159 => (some (((t159) % 256) == t144))) else (some false)))) else (some false))) else (some false))) else (some false)))) = some r := H
          have A22 := Aside0.mk A220
          clear A220
          replace H := Option.bind_eq_some_iff.mp H
          obtain ⟨t153, A230, H⟩ := H
          replace H : ((bits_Word.f t152 t153).bind fun t154 => (if t154 = a0 then ((bits_Turn.f t145 (wrap64 (-(Go.bits .and .i64 a1 1023)))).bind fun t155 => (if t155 = t144 then ((bits_Turn.f t144 8).bind fun t156 => (if t156 = t144 then ((bits_Even.f t145).bind fun t157 => ((bits_Even.f t144).bind fun t158 => (if (t157 == t158) = true then ((bits_Signed.f t144).bind fun t159 => (some (((t159) % 256) == t144))) else (some false)))) else (some false))) else (some false))) else (some false))) = some r := H
          have A23 := Aside0.mk A230
          clear A230
          replace H := Option.bind_eq_some_iff.mp H
          obtain ⟨t154, A240, H⟩ := H
          replace H : (if t154 = a0 then ((bits_Turn.f t145 (wrap64 (-(Go.bits .and .i64 a1 1023)))).bind fun t155 => (if t155 = t144 then ((bits_Turn.f t144 8).bind fun t156 => (if t156 = t144 then ((bits_Even.f t145).bind fun t157 => ((bits_Even.f t144).bind fun t158 => (if (t157 == t158) = true then ((bits_Signed.f t144).bind fun t159 => (some (((t159) % 256) == t144))) else (some false)))) else (some false))) else (some false))) else (some false)) = some r := H
          have A24 := Aside0.mk A240
          clear A240
          by_cases c25 : t154 = a0
          · rw [if_pos c25] at H
            have c25b0 : (t154 == a0) = true := beq_iff_eq.mpr c25
            have c25b1 : (t154 != a0) = false := bne_eq_false_iff_eq.mpr c25
            clear c25
            replace H := Option.bind_eq_some_iff.mp H
            obtain ⟨t155, A260, H⟩ := H
            replace H : (if t155 = t144 then ((bits_Turn.f t144 8).bind fun t156 => (if t156 = t144 then ((bits_Even.f t145).bind fun t157 => ((bits_Even.f t144).bind fun t158 => (if (t157 == t158) = true then ((bits_Signed.f t144).bind fun t159 => (some (((t159) % 256) == t144))) else (some false)))) else (some false))) else (some false)) = some r := H
            have A26 := Aside0.mk A260
            clear A260
            by_cases c27 : t155 = t144
            · rw [if_pos c27] at H
              have c27b0 : (t155 == t144) = true := beq_iff_eq.mpr c27
              have c27b1 : (t155 != t144) = false := bne_eq_false_iff_eq.mpr c27
              clear c27
              replace H := Option.bind_eq_some_iff.mp H
              obtain ⟨t156, A280, H⟩ := H
              replace H : (if t156 = t144 then ((bits_Even.f t145).bind fun t157 => ((bits_Even.f t144).bind fun t158 => (if (t157 == t158) = true then ((bits_Signed.f t144).bind fun t159 => (some (((t159) % 256) == t144))) else (some false)))) else (some false)) = some r := H
              have A28 := Aside0.mk A280
              clear A280
              by_cases c29 : t156 = t144
              · rw [if_pos c29] at H
                have c29b0 : (t156 == t144) = true := beq_iff_eq.mpr c29
                have c29b1 : (t156 != t144) = false := bne_eq_false_iff_eq.mpr c29
                clear c29
                replace H := Option.bind_eq_some_iff.mp H
                obtain ⟨t157, A300, H⟩ := H
                replace H : ((bits_Even.f t144).bind fun t158 => (if (t157 == t158) = true then ((bits_Signed.f t144).bind fun t159 => (some (((t159) % 256) == t144))) else (some false))) = some r := H
                have A30 := Aside0.mk A300
                clear A300
                replace H := Option.bind_eq_some_iff.mp H
                obtain ⟨t158, A310, H⟩ := H
                replace H : (if (t157 == t158) = true then ((bits_Signed.f t144).bind fun t159 => (some (((t159) % 256) == t144))) else (some false)) = some r := H
                have A31 := Aside0.mk A310
                clear A310
                by_cases c32 : (t157 == t158) = true
                · rw [if_pos c32] at H
                  have c32b0 : (t157 == t158) = true := c32
                  (try (have c32b1 : decide (t157 = t158) = true := by simpa using c32))
                  (try (have c32b2 : (t157 == t158) = true := by simpa using c32))
                  clear c32
                  replace H := Option.bind_eq_some_iff.mp H
                  obtain ⟨t159, A330, H⟩ := H
                  replace H : (some (((t159) % 256) == t144)) = some r := H
                  have A33 := Aside0.mk A330
                  clear A330
                  obtain rfl := Option.some.inj H
                  go_wp2_with (first | ((with_reducible refine gate_callee (f := 18) rfl ?_); refine goesL_ (some 62) rfl rfl Try.func18 (by kernel_rfl) rfl #[.int .u16 a0] rfl (by (try simp only [List.map_toArray, List.map_cons, List.map_nil]); first | done | rfl | (simp only [List.length_drop, List.length_take]; rfl)) ?_; (with_reducible refine (bits_Hi.calls a0 t152 _ A22.out).mono ?_); rintro e w' ⟨rfl, ⟨nd, rfl⟩⟩; refine ⟨_, rfl, ?_⟩) | ((with_reducible refine gate_callee (f := 16) rfl ?_); refine goesL_ (some 64) rfl rfl Try.func16 (by kernel_rfl) rfl #[.int .u16 a0] rfl (by (try simp only [List.map_toArray, List.map_cons, List.map_nil]); first | done | rfl | (simp only [List.length_drop, List.length_take]; rfl)) ?_; (with_reducible refine (bits_Lo.calls a0 t153 _ A23.out).mono ?_); rintro e w' ⟨rfl, ⟨nd, rfl⟩⟩; refine ⟨_, rfl, ?_⟩) | ((with_reducible refine gate_callee (f := 20) rfl ?_); refine goesL_ (some 65) rfl rfl Try.func20 (by kernel_rfl) rfl #[.int .u8 t152, .int .u8 t153] rfl (by (try simp only [List.map_toArray, List.map_cons, List.map_nil]); first | done | rfl | (simp only [List.length_drop, List.length_take]; rfl)) ?_; (with_reducible refine (bits_Word.calls t152 t153 t154 _ A24.out).mono ?_); rintro e w' ⟨rfl, ⟨nd, rfl⟩⟩; refine ⟨_, rfl, ?_⟩) | (go_at_call 28; (with_reducible refine (bits_Turn.calls t145 (wrap64 (-(Go.bits .and .i64 a1 1023))) t155 _ A26.out).mono ?_); rintro e w' ⟨rfl, ⟨nd, rfl⟩⟩) | (go_at_call 28; (with_reducible refine (bits_Turn.calls t144 8 t156 _ A28.out).mono ?_); rintro e w' ⟨rfl, ⟨nd, rfl⟩⟩) | (go_at_call 32; (with_reducible refine (bits_Even.calls t145 t157 _ A30.out).mono ?_); rintro e w34 ⟨rfl, hb⟩; have n0_ := Aside0.mk (below_step (by repeat (first | (with_reducible first | exact HB.out | apply below_alloc | apply pw_below_drewN | apply below_drew1) | exact HB.out)) hb); clear HB; have HB := n0_; clear n0_; (try clear hb); (try clear hb2); (try clear hk); (try clear hi)) | (go_at_call 32; (with_reducible refine (bits_Even.calls t144 t158 _ A31.out).mono ?_); rintro e w35 ⟨rfl, hb⟩; have n0_ := Aside0.mk (below_step (by repeat (first | (with_reducible first | exact HB.out | apply below_alloc | apply pw_below_drewN | apply below_drew1) | exact HB.out)) hb); clear HB; have HB := n0_; clear n0_; (try clear hb); (try clear hb2); (try clear hk); (try clear hi)) | (go_at_call 30; (with_reducible refine (bits_Signed.calls t144 t159 _ A33.out).mono ?_); rintro e w' ⟨rfl, ⟨nd, rfl⟩⟩))
                  go_ret
                  exact ⟨by first | rfl | (simp [errW_none, errW_some] <;> rfl) | (simp [*, errW_none, errW_some] <;> rfl), by repeat (first | (with_reducible first | exact HB.out | apply below_alloc | apply pw_below_drewN | apply below_drew1) | exact HB.out)⟩
                · rw [if_neg c32] at H
                  have c32b0 : (t157 == t158) = false := by simpa using c32
                  (try (have c32b1 : decide (t157 = t158) = false := by simpa using c32))
                  (try (have c32b2 : (t157 == t158) = false := by simpa using c32))
                  (try (have c32b3 : ¬ (t157 = t158) := by simpa using c32))
                  clear c32
                  obtain rfl := Option.some.inj H
                  go_wp2_with (first | ((with_reducible refine gate_callee (f := 18) rfl ?_); refine goesL_ (some 62) rfl rfl Try.func18 (by kernel_rfl) rfl #[.int .u16 a0] rfl (by (try simp only [List.map_toArray, List.map_cons, List.map_nil]); first | done | rfl | (simp only [List.length_drop, List.length_take]; rfl)) ?_; (with_reducible refine (bits_Hi.calls a0 t152 _ A22.out).mono ?_); rintro e w' ⟨rfl, ⟨nd, rfl⟩⟩; refine ⟨_, rfl, ?_⟩) | ((with_reducible refine gate_callee (f := 16) rfl ?_); refine goesL_ (some 64) rfl rfl Try.func16 (by kernel_rfl) rfl #[.int .u16 a0] rfl (by (try simp only [List.map_toArray, List.map_cons, List.map_nil]); first | done | rfl | (simp only [List.length_drop, List.length_take]; rfl)) ?_; (with_reducible refine (bits_Lo.calls a0 t153 _ A23.out).mono ?_); rintro e w' ⟨rfl, ⟨nd, rfl⟩⟩; refine ⟨_, rfl, ?_⟩) | ((with_reducible refine gate_callee (f := 20) rfl ?_); refine goesL_ (some 65) rfl rfl Try.func20 (by kernel_rfl) rfl #[.int .u8 t152, .int .u8 t153] rfl (by (try simp only [List.map_toArray, List.map_cons, List.map_nil]); first | done | rfl | (simp only [List.length_drop, List.length_take]; rfl)) ?_; (with_reducible refine (bits_Word.calls t152 t153 t154 _ A24.out).mono ?_); rintro e w' ⟨rfl, ⟨nd, rfl⟩⟩; refine ⟨_, rfl, ?_⟩) | (go_at_call 28; (with_reducible refine (bits_Turn.calls t145 (wrap64 (-(Go.bits .and .i64 a1 1023))) t155 _ A26.out).mono ?_); rintro e w' ⟨rfl, ⟨nd, rfl⟩⟩) | (go_at_call 28; (with_reducible refine (bits_Turn.calls t144 8 t156 _ A28.out).mono ?_); rintro e w' ⟨rfl, ⟨nd, rfl⟩⟩) | (go_at_call 32; (with_reducible refine (bits_Even.calls t145 t157 _ A30.out).mono ?_); rintro e w36 ⟨rfl, hb⟩; have n0_ := Aside0.mk (below_step (by repeat (first | (with_reducible first | exact HB.out | apply below_alloc | apply pw_below_drewN | apply below_drew1) | exact HB.out)) hb); clear HB; have HB := n0_; clear n0_; (try clear hb); (try clear hb2); (try clear hk); (try clear hi)) | (go_at_call 32; (with_reducible refine (bits_Even.calls t144 t158 _ A31.out).mono ?_); rintro e w37 ⟨rfl, hb⟩; have n0_ := Aside0.mk (below_step (by repeat (first | (with_reducible first | exact HB.out | apply below_alloc | apply pw_below_drewN | apply below_drew1) | exact HB.out)) hb); clear HB; have HB := n0_; clear n0_; (try clear hb); (try clear hb2); (try clear hk); (try clear hi)))
                  go_ret
                  exact ⟨by first | rfl | (simp [errW_none, errW_some] <;> rfl) | (simp [*, errW_none, errW_some] <;> rfl), by repeat (first | (with_reducible first | exact HB.out | apply below_alloc | apply pw_below_drewN | apply below_drew1) | exact HB.out)⟩
              · rw [if_neg c29] at H
                have c29b0 : (t156 == t144) = false := beq_eq_false_iff_ne.mpr c29
                have c29b1 : (t156 != t144) = true := bne_iff_ne.mpr c29
                obtain rfl := Option.some.inj H
                go_wp2_with (first | ((with_reducible refine gate_callee (f := 18) rfl ?_); refine goesL_ (some 62) rfl rfl Try.func18 (by kernel_rfl) rfl #[.int .u16 a0] rfl (by (try simp only [List.map_toArray, List.map_cons, List.map_nil]); first | done | rfl | (simp only [List.length_drop, List.length_take]; rfl)) ?_; (with_reducible refine (bits_Hi.calls a0 t152 _ A22.out).mono ?_); rintro e w' ⟨rfl, ⟨nd, rfl⟩⟩; refine ⟨_, rfl, ?_⟩) | ((with_reducible refine gate_callee (f := 16) rfl ?_); refine goesL_ (some 64) rfl rfl Try.func16 (by kernel_rfl) rfl #[.int .u16 a0] rfl (by (try simp only [List.map_toArray, List.map_cons, List.map_nil]); first | done | rfl | (simp only [List.length_drop, List.length_take]; rfl)) ?_; (with_reducible refine (bits_Lo.calls a0 t153 _ A23.out).mono ?_); rintro e w' ⟨rfl, ⟨nd, rfl⟩⟩; refine ⟨_, rfl, ?_⟩) | ((with_reducible refine gate_callee (f := 20) rfl ?_); refine goesL_ (some 65) rfl rfl Try.func20 (by kernel_rfl) rfl #[.int .u8 t152, .int .u8 t153] rfl (by (try simp only [List.map_toArray, List.map_cons, List.map_nil]); first | done | rfl | (simp only [List.length_drop, List.length_take]; rfl)) ?_; (with_reducible refine (bits_Word.calls t152 t153 t154 _ A24.out).mono ?_); rintro e w' ⟨rfl, ⟨nd, rfl⟩⟩; refine ⟨_, rfl, ?_⟩) | (go_at_call 28; (with_reducible refine (bits_Turn.calls t145 (wrap64 (-(Go.bits .and .i64 a1 1023))) t155 _ A26.out).mono ?_); rintro e w' ⟨rfl, ⟨nd, rfl⟩⟩) | (go_at_call 28; (with_reducible refine (bits_Turn.calls t144 8 t156 _ A28.out).mono ?_); rintro e w' ⟨rfl, ⟨nd, rfl⟩⟩))
                go_ret
                exact ⟨by first | rfl | (simp [errW_none, errW_some] <;> rfl) | (simp [*, errW_none, errW_some] <;> rfl), by repeat (first | (with_reducible first | exact HB.out | apply below_alloc | apply pw_below_drewN | apply below_drew1) | exact HB.out)⟩
            · rw [if_neg c27] at H
              have c27b0 : (t155 == t144) = false := beq_eq_false_iff_ne.mpr c27
              have c27b1 : (t155 != t144) = true := bne_iff_ne.mpr c27
              obtain rfl := Option.some.inj H
              go_wp2_with (first | ((with_reducible refine gate_callee (f := 18) rfl ?_); refine goesL_ (some 62) rfl rfl Try.func18 (by kernel_rfl) rfl #[.int .u16 a0] rfl (by (try simp only [List.map_toArray, List.map_cons, List.map_nil]); first | done | rfl | (simp only [List.length_drop, List.length_take]; rfl)) ?_; (with_reducible refine (bits_Hi.calls a0 t152 _ A22.out).mono ?_); rintro e w' ⟨rfl, ⟨nd, rfl⟩⟩; refine ⟨_, rfl, ?_⟩) | ((with_reducible refine gate_callee (f := 16) rfl ?_); refine goesL_ (some 64) rfl rfl Try.func16 (by kernel_rfl) rfl #[.int .u16 a0] rfl (by (try simp only [List.map_toArray, List.map_cons, List.map_nil]); first | done | rfl | (simp only [List.length_drop, List.length_take]; rfl)) ?_; (with_reducible refine (bits_Lo.calls a0 t153 _ A23.out).mono ?_); rintro e w' ⟨rfl, ⟨nd, rfl⟩⟩; refine ⟨_, rfl, ?_⟩) | ((with_reducible refine gate_callee (f := 20) rfl ?_); refine goesL_ (some 65) rfl rfl Try.func20 (by kernel_rfl) rfl #[.int .u8 t152, .int .u8 t153] rfl (by (try simp only [List.map_toArray, List.map_cons, List.map_nil]); first | done | rfl | (simp only [List.length_drop, List.length_take]; rfl)) ?_; (with_reducible refine (bits_Word.calls t152 t153 t154 _ A24.out).mono ?_); rintro e w' ⟨rfl, ⟨nd, rfl⟩⟩; refine ⟨_, rfl, ?_⟩) | (go_at_call 28; (with_reducible refine (bits_Turn.calls t145 (wrap64 (-(Go.bits .and .i64 a1 1023))) t155 _ A26.out).mono ?_); rintro e w' ⟨rfl, ⟨nd, rfl⟩⟩))
              go_ret
              exact ⟨by first | rfl | (simp [errW_none, errW_some] <;> rfl) | (simp [*, errW_none, errW_some] <;> rfl), by repeat (first | (with_reducible first | exact HB.out | apply below_alloc | apply pw_below_drewN | apply below_drew1) | exact HB.out)⟩
          · rw [if_neg c25] at H
            have c25b0 : (t154 == a0) = false := beq_eq_false_iff_ne.mpr c25
            have c25b1 : (t154 != a0) = true := bne_iff_ne.mpr c25
            obtain rfl := Option.some.inj H
            go_wp2_with (first | ((with_reducible refine gate_callee (f := 18) rfl ?_); refine goesL_ (some 62) rfl rfl Try.func18 (by kernel_rfl) rfl #[.int .u16 a0] rfl (by (try simp only [List.map_toArray, List.map_cons, List.map_nil]); first | done | rfl | (simp only [List.length_drop, List.length_take]; rfl)) ?_; (with_reducible refine (bits_Hi.calls a0 t152 _ A22.out).mono ?_); rintro e w' ⟨rfl, ⟨nd, rfl⟩⟩; refine ⟨_, rfl, ?_⟩) | ((with_reducible refine gate_callee (f := 16) rfl ?_); refine goesL_ (some 64) rfl rfl Try.func16 (by kernel_rfl) rfl #[.int .u16 a0] rfl (by (try simp only [List.map_toArray, List.map_cons, List.map_nil]); first | done | rfl | (simp only [List.length_drop, List.length_take]; rfl)) ?_; (with_reducible refine (bits_Lo.calls a0 t153 _ A23.out).mono ?_); rintro e w' ⟨rfl, ⟨nd, rfl⟩⟩; refine ⟨_, rfl, ?_⟩) | ((with_reducible refine gate_callee (f := 20) rfl ?_); refine goesL_ (some 65) rfl rfl Try.func20 (by kernel_rfl) rfl #[.int .u8 t152, .int .u8 t153] rfl (by (try simp only [List.map_toArray, List.map_cons, List.map_nil]); first | done | rfl | (simp only [List.length_drop, List.length_take]; rfl)) ?_; (with_reducible refine (bits_Word.calls t152 t153 t154 _ A24.out).mono ?_); rintro e w' ⟨rfl, ⟨nd, rfl⟩⟩; refine ⟨_, rfl, ?_⟩))
            go_ret
            exact ⟨by first | rfl | (simp [errW_none, errW_some] <;> rfl) | (simp [*, errW_none, errW_some] <;> rfl), by repeat (first | (with_reducible first | exact HB.out | apply below_alloc | apply pw_below_drewN | apply below_drew1) | exact HB.out)⟩
  · replace c5 := Bool.eq_false_iff.mpr c5
    subst c5
    have H1 : (some false) = some r := by rw [if_neg (show ¬ (false = true) by decide)] at H; exact H
    clear H
    have H := H1
    clear H1
    obtain rfl := Option.some.inj H
    go_enter Try.func6, Try.ntmps6
    go_wp2_with (first | ((with_reducible refine gate_callee (f := 15) rfl ?_); refine goesL_ (some 13) rfl rfl Try.func15 (by kernel_rfl) rfl #[] rfl (by (try simp only [List.map_toArray, List.map_cons, List.map_nil]); first | done | rfl | (simp only [List.length_drop, List.length_take]; rfl)) ?_; (with_reducible refine (charabanclaw01_awake.calls  false _ A4.out).mono ?_); rintro e w38 ⟨rfl, hb⟩; refine ⟨_, rfl, ?_⟩; have n0_ := Aside0.mk (below_step (by repeat (first | (with_reducible first | exact HB.out | apply below_alloc | apply pw_below_drewN | apply below_drew1) | exact HB.out)) hb); clear HB; have HB := n0_; clear n0_; (try clear hb); (try clear hb2); (try clear hk); (try clear hi)))
    go_ret
    exact ⟨by first | rfl | (simp [errW_none, errW_some] <;> rfl) | (simp [*, errW_none, errW_some] <;> rfl), by repeat (first | (with_reducible first | exact HB.out | apply below_alloc | apply pw_below_drewN | apply below_drew1) | exact HB.out)⟩

/-- THE ONE PURE STATEMENT of charabanclaw01_BitsBack: yours. -/
def charabanclaw01_BitsBack.Pure : Prop := ∀ (a0 : Int) (a1 : Int) (a2 : Int), (Lit.int .u16 a0).wf = true → (Lit.int .i64 a1).wf = true → (Lit.int .i64 a2).wf = true → ∃ k, charabanclaw01_BitsBack.f k a0 a1 a2 = some true
theorem charabanclaw01_BitsBack.walk (P : charabanclaw01_BitsBack.Pure) (a0 : Int) (a1 : Int) (a2 : Int) (w : World) (w0 : (Lit.int .u16 a0).wf = true) (w1 : (Lit.int .i64 a1).wf = true) (w2 : (Lit.int .i64 a2).wf = true) :
    Calls Try.prog 6 #[.int .u16 a0, .int .i64 a1, .int .i64 a2] w fun e w' => e = .returned (.bool true) ∧ Below w.heap.size w w' := by
  obtain ⟨k, h⟩ := P a0 a1 a2 w0 w1 w2
  refine (charabanclaw01_BitsBack.calls k a0 a1 a2 true w h).mono ?_
  rintro e w' ⟨rfl, hd⟩
  exact ⟨rfl, hd⟩

end Go.Proofs.Ythidmlnoiginiaa.PB
