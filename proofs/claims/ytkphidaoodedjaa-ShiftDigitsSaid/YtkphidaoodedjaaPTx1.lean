/- Written by a program of this session out of the translation and the contracts proved by hand: each function's answer and its proof; each law's statement over plain numbers. -/
import Derived.Test.YtkphidaoodedjaaPTx0
namespace Go.Proofs.Ytkphidaoodedjaa.PT
open Go.RowKit Go.Proofs.YtkphidaoodedjaaW.PrintWords Go.Proofs.YtkphidaoodedjaaW.PrintLast Go.Proofs.YtkphidaoodedjaaW.PrintMore
attribute [local go_sem] max2_int min2_int max_two min_two max_three min_three max_four min_four   -- for this text's walks alone
set_option linter.unusedVariables false
set_option linter.unusedSimpArgs false

/-! ### shift_moved: function 40 -/
def shift_moved.f (a0 : Int) (a1 : Int) (a2 : Int) : Option (Int × Int × Bool) := if (0 ≤ a1 ∧ a1 ≤ 255) ∧ (0 ≤ a2 ∧ a2 ≤ 255) then some (M.turnedR a0 a1 a2, M.b01 (M.turnedO a0 a1), M.kindB a0) else none
theorem shift_moved.calls (a0 : Int) (a1 : Int) (a2 : Int) (r1 : Int) (r2 : Int) (r3 : Bool) (w : World) (h : shift_moved.f a0 a1 a2 = some (r1, r2, r3)) :
    Calls Try.prog 40 #[.int .i64 a0, .int .u8 a1, .int .u8 a2] w fun e w' => e = .returned (.tuple #[.int .u8 r1, .int .u8 r2, .bool r3]) ∧ Below w.heap.size w w' := by
  unfold shift_moved.f at h
  split at h
  · rename_i hg
    simp only [Option.some.injEq, Prod.mk.injEq] at h
    obtain ⟨rfl, rfl, rfl⟩ := h
    exact moved_any a0 a1 a2 (by omega) (by omega) (by omega) (by omega) w
  · cases h

/-! ### flags_Result: function 52 -/
def flags_Result.f (a0 : Int) : Option (Int) := if a0 = 0 then (some 64) else (some (Go.bits .and .u8 a0 168))
set_option maxHeartbeats 8000000 in
set_option maxRecDepth 100000 in
theorem flags_Result.calls (a0 : Int) (r : Int) (w : World) (h : flags_Result.f a0 = some r) :
    Calls Try.prog 52 #[.int .u8 a0] w fun e w' => e = .returned (.int .u8 r) ∧ Drawn0 w w' := by
  have H : (if a0 = 0 then (some 64) else (some (Go.bits .and .u8 a0 168))) = some r := h
  clear h
  by_cases c2 : a0 = 0
  · rw [if_pos c2] at H
    have c2b0 : (a0 == 0) = true := beq_iff_eq.mpr c2
    have c2b1 : (a0 != 0) = false := bne_eq_false_iff_eq.mpr c2
    clear c2
    obtain rfl := Option.some.inj H
    go_enter Try.func52, Try.ntmps52
    go_wp2
    go_ret
    exact ⟨by first | rfl | (simp; done) | (simp [*]; done), by repeat (first | exact Drawn0.refl _ | apply Drawn0.step)⟩
  · rw [if_neg c2] at H
    have c2b0 : (a0 == 0) = false := beq_eq_false_iff_ne.mpr c2
    have c2b1 : (a0 != 0) = true := bne_iff_ne.mpr c2
    obtain rfl := Option.some.inj H
    go_enter Try.func52, Try.ntmps52
    go_wp2
    go_ret
    exact ⟨by first | rfl | (simp; done) | (simp [*]; done), by repeat (first | exact Drawn0.refl _ | apply Drawn0.step)⟩

-- NOT PRINTED: function 71 (bits_set)

/-! ### bits_Even: function 58 -/
def bits_Even.f (a0 : Int) : Option (Bool) := if (0 ≤ a0 ∧ a0 ≤ 255) then some (M.evenB a0) else none
theorem bits_Even.calls (a0 : Int) (r : Bool) (w : World) (h : bits_Even.f a0 = some r) :
    Calls Try.prog 58 #[.int .u8 a0] w fun e w' => e = .returned (.bool r) ∧ Below w.heap.size w w' := by
  unfold bits_Even.f at h
  split at h
  · rename_i hg
    obtain rfl := Option.some.inj h
    exact even_any a0 (by omega) (by omega) w
  · cases h

/-! ### flags_Even: function 41 -/
def flags_Even.f (a0 : Int) : Option (Int) := (flags_Result.f a0).bind fun t101 => ((bits_Even.f a0).bind fun t102 => (if t102 = true then (some (Go.bits .or .u8 t101 4)) else (some t101)))
set_option maxHeartbeats 8000000 in
set_option maxRecDepth 100000 in
theorem flags_Even.calls (a0 : Int) (r : Int) (w : World) (h : flags_Even.f a0 = some r) :
    Calls Try.prog 41 #[.int .u8 a0] w fun e w' => e = .returned (.int .u8 r) ∧ Below w.heap.size w w' := by
  have HB := Aside0.mk (Below.refl w.heap.size w)
  have H : ((flags_Result.f a0).bind fun t101 => ((bits_Even.f a0).bind fun t102 => (if t102 = true then (some (Go.bits .or .u8 t101 4)) else (some t101)))) = some r := h
  clear h
  replace H := Option.bind_eq_some_iff.mp H
  obtain ⟨t101, A20, H⟩ := H
  replace H : ((bits_Even.f a0).bind fun t102 => (if t102 = true then (some (Go.bits .or .u8 t101 4)) else (some t101))) = some r := H
  have A2 := Aside0.mk A20
  clear A20
  replace H := Option.bind_eq_some_iff.mp H
  obtain ⟨t102, A30, H⟩ := H
  replace H : (if t102 = true then (some (Go.bits .or .u8 t101 4)) else (some t101)) = some r := H
  have A3 := Aside0.mk A30
  clear A30
  by_cases c4 : t102 = true
  · subst c4
    have H1 : (some (Go.bits .or .u8 t101 4)) = some r := by rw [if_pos rfl] at H; exact H
    clear H
    have H := H1
    clear H1
    obtain rfl := Option.some.inj H
    go_enter Try.func41, Try.ntmps41
    go_wp2_with (first | ((with_reducible refine gate_callee (f := 52) rfl ?_); refine goesL_ (some 5) rfl rfl Try.func52 (by kernel_rfl) rfl #[.int .u8 a0] rfl (by (try simp only [List.map_toArray, List.map_cons, List.map_nil]); first | done | rfl | (simp only [List.length_drop, List.length_take]; rfl)) ?_; (with_reducible refine (flags_Result.calls a0 t101 _ A2.out).mono ?_); rintro e w' ⟨rfl, ⟨nd, rfl⟩⟩; refine ⟨_, rfl, ?_⟩) | ((with_reducible refine gate_callee (f := 58) rfl ?_); refine goesL_ (some 7) rfl rfl Try.func58 (by kernel_rfl) rfl #[.int .u8 a0] rfl (by (try simp only [List.map_toArray, List.map_cons, List.map_nil]); first | done | rfl | (simp only [List.length_drop, List.length_take]; rfl)) ?_; (with_reducible refine (bits_Even.calls a0 true _ A3.out).mono ?_); rintro e w5 ⟨rfl, hb⟩; refine ⟨_, rfl, ?_⟩; have n0_ := Aside0.mk (below_step (by repeat (first | (with_reducible first | exact HB.out | apply below_alloc | apply pw_below_drewN | apply below_drew1) | exact HB.out)) hb); clear HB; have HB := n0_; clear n0_; (try clear hb); (try clear hb2); (try clear hk); (try clear hi)))
    go_ret
    exact ⟨by first | rfl | (simp [errW_none, errW_some] <;> rfl) | (simp [*, errW_none, errW_some] <;> rfl), by repeat (first | (with_reducible first | exact HB.out | apply below_alloc | apply pw_below_drewN | apply below_drew1) | exact HB.out)⟩
  · replace c4 := Bool.eq_false_iff.mpr c4
    subst c4
    have H1 : (some t101) = some r := by rw [if_neg (show ¬ (false = true) by decide)] at H; exact H
    clear H
    have H := H1
    clear H1
    obtain rfl := Option.some.inj H
    go_enter Try.func41, Try.ntmps41
    go_wp2_with (first | ((with_reducible refine gate_callee (f := 52) rfl ?_); refine goesL_ (some 5) rfl rfl Try.func52 (by kernel_rfl) rfl #[.int .u8 a0] rfl (by (try simp only [List.map_toArray, List.map_cons, List.map_nil]); first | done | rfl | (simp only [List.length_drop, List.length_take]; rfl)) ?_; (with_reducible refine (flags_Result.calls a0 t101 _ A2.out).mono ?_); rintro e w' ⟨rfl, ⟨nd, rfl⟩⟩; refine ⟨_, rfl, ?_⟩) | ((with_reducible refine gate_callee (f := 58) rfl ?_); refine goesL_ (some 7) rfl rfl Try.func58 (by kernel_rfl) rfl #[.int .u8 a0] rfl (by (try simp only [List.map_toArray, List.map_cons, List.map_nil]); first | done | rfl | (simp only [List.length_drop, List.length_take]; rfl)) ?_; (with_reducible refine (bits_Even.calls a0 false _ A3.out).mono ?_); rintro e w6 ⟨rfl, hb⟩; refine ⟨_, rfl, ?_⟩; have n0_ := Aside0.mk (below_step (by repeat (first | (with_reducible first | exact HB.out | apply below_alloc | apply pw_below_drewN | apply below_drew1) | exact HB.out)) hb); clear HB; have HB := n0_; clear n0_; (try clear hb); (try clear hb2); (try clear hk); (try clear hi)))
    go_ret
    exact ⟨by first | rfl | (simp [errW_none, errW_some] <;> rfl) | (simp [*, errW_none, errW_some] <;> rfl), by repeat (first | (with_reducible first | exact HB.out | apply below_alloc | apply pw_below_drewN | apply below_drew1) | exact HB.out)⟩

/-! ### shift_Do: function 23 -/
def shift_Do.f (a0 : Int) (a1 : Int) (a2 : Int) : Option (Int × Int) := (shift_moved.f a0 a1 a2).bind fun bt103 => (if bt103.2.2 = true then ((flags_Even.f bt103.1).bind fun t106 => (some (bt103.1, Go.bits .or .u8 t106 bt103.2.1))) else (some (a1, a2)))
set_option maxHeartbeats 8000000 in
set_option maxRecDepth 100000 in
theorem shift_Do.calls (a0 : Int) (a1 : Int) (a2 : Int) (r1 : Int) (r2 : Int) (w : World) (h : shift_Do.f a0 a1 a2 = some (r1, r2)) :
    Calls Try.prog 23 #[.int .i64 a0, .int .u8 a1, .int .u8 a2] w fun e w' => e = .returned (.tuple #[.int .u8 r1, .int .u8 r2]) ∧ Below w.heap.size w w' := by
  have HB := Aside0.mk (Below.refl w.heap.size w)
  have H : ((shift_moved.f a0 a1 a2).bind fun bt103 => (if bt103.2.2 = true then ((flags_Even.f bt103.1).bind fun t106 => (some (bt103.1, Go.bits .or .u8 t106 bt103.2.1))) else (some (a1, a2)))) = some (r1, r2) := h
  clear h
  replace H := Option.bind_eq_some_iff.mp H
  obtain ⟨⟨t103, t104, t105⟩, A40, H⟩ := H
  replace H : (if t105 = true then ((flags_Even.f t103).bind fun t106 => (some (t103, Go.bits .or .u8 t106 t104))) else (some (a1, a2))) = some (r1, r2) := H
  have A4 := Aside0.mk A40
  clear A40
  by_cases c5 : t105 = true
  · subst c5
    have H1 : ((flags_Even.f t103).bind fun t106 => (some (t103, Go.bits .or .u8 t106 t104))) = some (r1, r2) := by rw [if_pos rfl] at H; exact H
    clear H
    have H := H1
    clear H1
    replace H := Option.bind_eq_some_iff.mp H
    obtain ⟨t106, A60, H⟩ := H
    replace H : (some (t103, Go.bits .or .u8 t106 t104)) = some (r1, r2) := H
    have A6 := Aside0.mk A60
    clear A60
    simp only [Option.some.injEq, Prod.mk.injEq] at H
    obtain ⟨rfl, rfl⟩ := H
    go_enter Try.func23, Try.ntmps23
    go_wp2_with (first | ((with_reducible refine gate_callee (f := 40) rfl ?_); refine goesL_ (some 15) rfl rfl Try.func40 (by kernel_rfl) rfl #[.int .i64 a0, .int .u8 a1, .int .u8 a2] rfl (by (try simp only [List.map_toArray, List.map_cons, List.map_nil]); first | done | rfl | (simp only [List.length_drop, List.length_take]; rfl)) ?_; (with_reducible refine (shift_moved.calls a0 a1 a2 t103 t104 true _ A4.out).mono ?_); rintro e w7 ⟨rfl, hb⟩; refine ⟨_, rfl, ?_⟩; have n0_ := Aside0.mk (below_step (by repeat (first | (with_reducible first | exact HB.out | apply below_alloc | apply pw_below_drewN | apply below_drew1) | exact HB.out)) hb); clear HB; have HB := n0_; clear n0_; (try clear hb); (try clear hb2); (try clear hk); (try clear hi)) | ((with_reducible refine gate_callee (f := 41) rfl ?_); refine goesL_ (some 25) rfl rfl Try.func41 (by kernel_rfl) rfl #[.int .u8 t103] rfl (by (try simp only [List.map_toArray, List.map_cons, List.map_nil]); first | done | rfl | (simp only [List.length_drop, List.length_take]; rfl)) ?_; (with_reducible refine (flags_Even.calls t103 t106 _ A6.out).mono ?_); rintro e w8 ⟨rfl, hb⟩; refine ⟨_, rfl, ?_⟩; have n0_ := Aside0.mk (below_step (by repeat (first | (with_reducible first | exact HB.out | apply below_alloc | apply pw_below_drewN | apply below_drew1) | exact HB.out)) hb); clear HB; have HB := n0_; clear n0_; (try clear hb); (try clear hb2); (try clear hk); (try clear hi)))
    go_ret2
    exact ⟨by first | rfl | (simp [errW_none, errW_some] <;> rfl) | (simp [*, errW_none, errW_some] <;> rfl), by repeat (first | (with_reducible first | exact HB.out | apply below_alloc | apply pw_below_drewN | apply below_drew1) | exact HB.out)⟩
  · replace c5 := Bool.eq_false_iff.mpr c5
    subst c5
    have H1 : (some (a1, a2)) = some (r1, r2) := by rw [if_neg (show ¬ (false = true) by decide)] at H; exact H
    clear H
    have H := H1
    clear H1
    simp only [Option.some.injEq, Prod.mk.injEq] at H
    obtain ⟨rfl, rfl⟩ := H
    go_enter Try.func23, Try.ntmps23
    go_wp2_with (first | ((with_reducible refine gate_callee (f := 40) rfl ?_); refine goesL_ (some 15) rfl rfl Try.func40 (by kernel_rfl) rfl #[.int .i64 a0, .int .u8 a1, .int .u8 a2] rfl (by (try simp only [List.map_toArray, List.map_cons, List.map_nil]); first | done | rfl | (simp only [List.length_drop, List.length_take]; rfl)) ?_; (with_reducible refine (shift_moved.calls a0 a1 a2 t103 t104 false _ A4.out).mono ?_); rintro e w9 ⟨rfl, hb⟩; refine ⟨_, rfl, ?_⟩; have n0_ := Aside0.mk (below_step (by repeat (first | (with_reducible first | exact HB.out | apply below_alloc | apply pw_below_drewN | apply below_drew1) | exact HB.out)) hb); clear HB; have HB := n0_; clear n0_; (try clear hb); (try clear hb2); (try clear hk); (try clear hi)))
    go_ret2
    exact ⟨by first | rfl | (simp [errW_none, errW_some] <;> rfl) | (simp [*, errW_none, errW_some] <;> rfl), by repeat (first | (with_reducible first | exact HB.out | apply below_alloc | apply pw_below_drewN | apply below_drew1) | exact HB.out)⟩

/-! ### flags_Keep: function 45 -/
def flags_Keep.f (a0 : Int) (a1 : Int) (a2 : Int) : Option (Int) := some (Go.bits .or .u8 (Go.bits .andNot .u8 a0 a2) (Go.bits .and .u8 a1 a2))
set_option maxHeartbeats 8000000 in
set_option maxRecDepth 100000 in
theorem flags_Keep.calls (a0 : Int) (a1 : Int) (a2 : Int) (r : Int) (w : World) (h : flags_Keep.f a0 a1 a2 = some r) :
    Calls Try.prog 45 #[.int .u8 a0, .int .u8 a1, .int .u8 a2] w fun e w' => e = .returned (.int .u8 r) ∧ Drawn0 w w' := by
  have H : (some (Go.bits .or .u8 (Go.bits .andNot .u8 a0 a2) (Go.bits .and .u8 a1 a2))) = some r := h
  clear h
  obtain rfl := Option.some.inj H
  go_enter Try.func45, Try.ntmps45
  go_wp2
  go_ret
  exact ⟨by first | rfl | (simp; done) | (simp [*]; done), by repeat (first | exact Drawn0.refl _ | apply Drawn0.step)⟩

/-! ### shift_Acc: function 25 -/
def shift_Acc.f (a0 : Int) (a1 : Int) (a2 : Int) : Option (Int × Int) := (shift_moved.f a0 a1 a2).bind fun bt107 => (if bt107.2.2 = true then (if a0 > 3 then (some (a1, a2)) else ((flags_Keep.f a2 bt107.1 40).bind fun t110 => (some (bt107.1, Go.bits .or .u8 (Go.bits .andNot .u8 t110 19) bt107.2.1)))) else (some (a1, a2)))
set_option maxHeartbeats 8000000 in
set_option maxRecDepth 100000 in
theorem shift_Acc.calls (a0 : Int) (a1 : Int) (a2 : Int) (r1 : Int) (r2 : Int) (w : World) (h : shift_Acc.f a0 a1 a2 = some (r1, r2)) :
    Calls Try.prog 25 #[.int .i64 a0, .int .u8 a1, .int .u8 a2] w fun e w' => e = .returned (.tuple #[.int .u8 r1, .int .u8 r2]) ∧ Below w.heap.size w w' := by
  have HB := Aside0.mk (Below.refl w.heap.size w)
  have H : ((shift_moved.f a0 a1 a2).bind fun bt107 => (if bt107.2.2 = true then (if a0 > 3 then (some (a1, a2)) else ((flags_Keep.f a2 bt107.1 40).bind fun t110 => (some (bt107.1, Go.bits .or .u8 (Go.bits .andNot .u8 t110 19) bt107.2.1)))) else (some (a1, a2)))) = some (r1, r2) := h
  clear h
  replace H := Option.bind_eq_some_iff.mp H
  obtain ⟨⟨t107, t108, t109⟩, A40, H⟩ := H
  replace H : (if t109 = true then (if a0 > 3 then (some (a1, a2)) else ((flags_Keep.f a2 t107 40).bind fun t110 => (some (t107, Go.bits .or .u8 (Go.bits .andNot .u8 t110 19) t108)))) else (some (a1, a2))) = some (r1, r2) := H
  have A4 := Aside0.mk A40
  clear A40
  by_cases c5 : t109 = true
  · subst c5
    have H1 : (if a0 > 3 then (some (a1, a2)) else ((flags_Keep.f a2 t107 40).bind fun t110 => (some (t107, Go.bits .or .u8 (Go.bits .andNot .u8 t110 19) t108)))) = some (r1, r2) := by rw [if_pos rfl] at H; exact H
    clear H
    have H := H1
    clear H1
    by_cases c6 : a0 > 3
    · rw [if_pos c6] at H
      have c6b0 : decide (3 < a0) = true := decide_eq_true c6
      clear c6
      simp only [Option.some.injEq, Prod.mk.injEq] at H
      obtain ⟨rfl, rfl⟩ := H
      go_enter Try.func25, Try.ntmps25
      go_wp2_with (first | ((with_reducible refine gate_callee (f := 40) rfl ?_); refine goesL_ (some 15) rfl rfl Try.func40 (by kernel_rfl) rfl #[.int .i64 a0, .int .u8 a1, .int .u8 a2] rfl (by (try simp only [List.map_toArray, List.map_cons, List.map_nil]); first | done | rfl | (simp only [List.length_drop, List.length_take]; rfl)) ?_; (with_reducible refine (shift_moved.calls a0 a1 a2 t107 t108 true _ A4.out).mono ?_); rintro e w7 ⟨rfl, hb⟩; refine ⟨_, rfl, ?_⟩; have n0_ := Aside0.mk (below_step (by repeat (first | (with_reducible first | exact HB.out | apply below_alloc | apply pw_below_drewN | apply below_drew1) | exact HB.out)) hb); clear HB; have HB := n0_; clear n0_; (try clear hb); (try clear hb2); (try clear hk); (try clear hi)))
      go_ret2
      exact ⟨by first | rfl | (simp [errW_none, errW_some] <;> rfl) | (simp [*, errW_none, errW_some] <;> rfl), by repeat (first | (with_reducible first | exact HB.out | apply below_alloc | apply pw_below_drewN | apply below_drew1) | exact HB.out)⟩
    · rw [if_neg c6] at H
      have c6b0 : decide (3 < a0) = false := decide_eq_false c6
      clear c6
      replace H := Option.bind_eq_some_iff.mp H
      obtain ⟨t110, A80, H⟩ := H
      replace H : (some (t107, Go.bits .or .u8 (Go.bits .andNot .u8 t110 19) t108)) = some (r1, r2) := H
      have A8 := Aside0.mk A80
      clear A80
      simp only [Option.some.injEq, Prod.mk.injEq] at H
      obtain ⟨rfl, rfl⟩ := H
      go_enter Try.func25, Try.ntmps25
      go_wp2_with (first | ((with_reducible refine gate_callee (f := 40) rfl ?_); refine goesL_ (some 15) rfl rfl Try.func40 (by kernel_rfl) rfl #[.int .i64 a0, .int .u8 a1, .int .u8 a2] rfl (by (try simp only [List.map_toArray, List.map_cons, List.map_nil]); first | done | rfl | (simp only [List.length_drop, List.length_take]; rfl)) ?_; (with_reducible refine (shift_moved.calls a0 a1 a2 t107 t108 true _ A4.out).mono ?_); rintro e w9 ⟨rfl, hb⟩; refine ⟨_, rfl, ?_⟩; have n0_ := Aside0.mk (below_step (by repeat (first | (with_reducible first | exact HB.out | apply below_alloc | apply pw_below_drewN | apply below_drew1) | exact HB.out)) hb); clear HB; have HB := n0_; clear n0_; (try clear hb); (try clear hb2); (try clear hk); (try clear hi)) | ((with_reducible refine gate_callee (f := 45) rfl ?_); refine goesL_ (some 30) rfl rfl Try.func45 (by kernel_rfl) rfl #[.int .u8 a2, .int .u8 t107, .int .u8 40] rfl (by (try simp only [List.map_toArray, List.map_cons, List.map_nil]); first | done | rfl | (simp only [List.length_drop, List.length_take]; rfl)) ?_; (with_reducible refine (flags_Keep.calls a2 t107 40 t110 _ A8.out).mono ?_); rintro e w' ⟨rfl, ⟨nd, rfl⟩⟩; refine ⟨_, rfl, ?_⟩))
      go_ret2
      exact ⟨by first | rfl | (simp [errW_none, errW_some] <;> rfl) | (simp [*, errW_none, errW_some] <;> rfl), by repeat (first | (with_reducible first | exact HB.out | apply below_alloc | apply pw_below_drewN | apply below_drew1) | exact HB.out)⟩
  · replace c5 := Bool.eq_false_iff.mpr c5
    subst c5
    have H1 : (some (a1, a2)) = some (r1, r2) := by rw [if_neg (show ¬ (false = true) by decide)] at H; exact H
    clear H
    have H := H1
    clear H1
    simp only [Option.some.injEq, Prod.mk.injEq] at H
    obtain ⟨rfl, rfl⟩ := H
    go_enter Try.func25, Try.ntmps25
    go_wp2_with (first | ((with_reducible refine gate_callee (f := 40) rfl ?_); refine goesL_ (some 15) rfl rfl Try.func40 (by kernel_rfl) rfl #[.int .i64 a0, .int .u8 a1, .int .u8 a2] rfl (by (try simp only [List.map_toArray, List.map_cons, List.map_nil]); first | done | rfl | (simp only [List.length_drop, List.length_take]; rfl)) ?_; (with_reducible refine (shift_moved.calls a0 a1 a2 t107 t108 false _ A4.out).mono ?_); rintro e w10 ⟨rfl, hb⟩; refine ⟨_, rfl, ?_⟩; have n0_ := Aside0.mk (below_step (by repeat (first | (with_reducible first | exact HB.out | apply below_alloc | apply pw_below_drewN | apply below_drew1) | exact HB.out)) hb); clear HB; have HB := n0_; clear n0_; (try clear hb); (try clear hb2); (try clear hk); (try clear hi)))
    go_ret2
    exact ⟨by first | rfl | (simp [errW_none, errW_some] <;> rfl) | (simp [*, errW_none, errW_some] <;> rfl), by repeat (first | (with_reducible first | exact HB.out | apply below_alloc | apply pw_below_drewN | apply below_drew1) | exact HB.out)⟩

/-! ### bits_Hi: function 46 -/
def bits_Hi.f (a0 : Int) : Option (Int) := some ((a0 / 256) % 256)
set_option maxHeartbeats 8000000 in
set_option maxRecDepth 100000 in
theorem bits_Hi.calls (a0 : Int) (r : Int) (w : World) (h : bits_Hi.f a0 = some r) :
    Calls Try.prog 46 #[.int .u16 a0] w fun e w' => e = .returned (.int .u8 r) ∧ Drawn0 w w' := by
  have H : (some ((a0 / 256) % 256)) = some r := h
  clear h
  obtain rfl := Option.some.inj H
  go_enter Try.func46, Try.ntmps46
  go_wp2
  go_ret
  exact ⟨by first | rfl | (simp; done) | (simp [*]; done), by repeat (first | exact Drawn0.refl _ | apply Drawn0.step)⟩

/-! ### bits_Lo: function 47 -/
def bits_Lo.f (a0 : Int) : Option (Int) := some ((a0) % 256)
set_option maxHeartbeats 8000000 in
set_option maxRecDepth 100000 in
theorem bits_Lo.calls (a0 : Int) (r : Int) (w : World) (h : bits_Lo.f a0 = some r) :
    Calls Try.prog 47 #[.int .u16 a0] w fun e w' => e = .returned (.int .u8 r) ∧ Drawn0 w w' := by
  have H : (some ((a0) % 256)) = some r := h
  clear h
  obtain rfl := Option.some.inj H
  go_enter Try.func47, Try.ntmps47
  go_wp2
  go_ret
  exact ⟨by first | rfl | (simp; done) | (simp [*]; done), by repeat (first | exact Drawn0.refl _ | apply Drawn0.step)⟩

/-! ### shift_Digit: function 27 -/
def shift_Digit.f (a0 : Bool) (a1 : Int) (a2 : Int) (a3 : Int) : Option (Int × Int × Int) := if a0 = true then ((bits_Hi.f (Go.bits .or .u16 ((Go.bits .or .u16 (IntKind.u16.wrap ((IntKind.u16.wrap (Go.bits .and .u8 a1 15)) * 256)) (IntKind.u16.wrap (a2))) / 16) (IntKind.u16.wrap ((Go.bits .and .u16 (Go.bits .or .u16 (IntKind.u16.wrap ((IntKind.u16.wrap (Go.bits .and .u8 a1 15)) * 256)) (IntKind.u16.wrap (a2))) 15) * 256)))).bind fun t111 => ((bits_Lo.f (Go.bits .or .u16 ((Go.bits .or .u16 (IntKind.u16.wrap ((IntKind.u16.wrap (Go.bits .and .u8 a1 15)) * 256)) (IntKind.u16.wrap (a2))) / 16) (IntKind.u16.wrap ((Go.bits .and .u16 (Go.bits .or .u16 (IntKind.u16.wrap ((IntKind.u16.wrap (Go.bits .and .u8 a1 15)) * 256)) (IntKind.u16.wrap (a2))) 15) * 256)))).bind fun t112 => ((flags_Even.f (Go.bits .or .u8 (Go.bits .and .u8 a1 240) t111)).bind fun t113 => (some (Go.bits .or .u8 (Go.bits .and .u8 a1 240) t111, t112, Go.bits .or .u8 t113 (Go.bits .and .u8 a3 1)))))) else ((bits_Hi.f (Go.bits .or .u16 (Go.bits .and .u16 (IntKind.u16.wrap ((Go.bits .or .u16 (IntKind.u16.wrap ((IntKind.u16.wrap (Go.bits .and .u8 a1 15)) * 256)) (IntKind.u16.wrap (a2))) * 16)) 4095) ((Go.bits .or .u16 (IntKind.u16.wrap ((IntKind.u16.wrap (Go.bits .and .u8 a1 15)) * 256)) (IntKind.u16.wrap (a2))) / 256))).bind fun t114 => ((bits_Lo.f (Go.bits .or .u16 (Go.bits .and .u16 (IntKind.u16.wrap ((Go.bits .or .u16 (IntKind.u16.wrap ((IntKind.u16.wrap (Go.bits .and .u8 a1 15)) * 256)) (IntKind.u16.wrap (a2))) * 16)) 4095) ((Go.bits .or .u16 (IntKind.u16.wrap ((IntKind.u16.wrap (Go.bits .and .u8 a1 15)) * 256)) (IntKind.u16.wrap (a2))) / 256))).bind fun t115 => ((flags_Even.f (Go.bits .or .u8 (Go.bits .and .u8 a1 240) t114)).bind fun t116 => (some (Go.bits .or .u8 (Go.bits .and .u8 a1 240) t114, t115, Go.bits .or .u8 t116 (Go.bits .and .u8 a3 1))))))
set_option maxHeartbeats 8000000 in
set_option maxRecDepth 100000 in
theorem shift_Digit.calls (a0 : Bool) (a1 : Int) (a2 : Int) (a3 : Int) (r1 : Int) (r2 : Int) (r3 : Int) (w : World) (h : shift_Digit.f a0 a1 a2 a3 = some (r1, r2, r3)) :
    Calls Try.prog 27 #[.bool a0, .int .u8 a1, .int .u8 a2, .int .u8 a3] w fun e w' => e = .returned (.tuple #[.int .u8 r1, .int .u8 r2, .int .u8 r3]) ∧ Below w.heap.size w w' := by
  have HB := Aside0.mk (Below.refl w.heap.size w)
  have H : (if a0 = true then ((bits_Hi.f (Go.bits .or .u16 ((Go.bits .or .u16 (IntKind.u16.wrap ((IntKind.u16.wrap (Go.bits .and .u8 a1 15)) * 256)) (IntKind.u16.wrap (a2))) / 16) (IntKind.u16.wrap ((Go.bits .and .u16 (Go.bits .or .u16 (IntKind.u16.wrap ((IntKind.u16.wrap (Go.bits .and .u8 a1 15)) * 256)) (IntKind.u16.wrap (a2))) 15) * 256)))).bind fun t111 => ((bits_Lo.f (Go.bits .or .u16 ((Go.bits .or .u16 (IntKind.u16.wrap ((IntKind.u16.wrap (Go.bits .and .u8 a1 15)) * 256)) (IntKind.u16.wrap (a2))) / 16) (IntKind.u16.wrap ((Go.bits .and .u16 (Go.bits .or .u16 (IntKind.u16.wrap ((IntKind.u16.wrap (Go.bits .and .u8 a1 15)) * 256)) (IntKind.u16.wrap (a2))) 15) * 256)))).bind fun t112 => ((flags_Even.f (Go.bits .or .u8 (Go.bits .and .u8 a1 240) t111)).bind fun t113 => (some (Go.bits .or .u8 (Go.bits .and .u8 a1 240) t111, t112, Go.bits .or .u8 t113 (Go.bits .and .u8 a3 1)))))) else ((bits_Hi.f (Go.bits .or .u16 (Go.bits .and .u16 (IntKind.u16.wrap ((Go.bits .or .u16 (IntKind.u16.wrap ((IntKind.u16.wrap (Go.bits .and .u8 a1 15)) * 256)) (IntKind.u16.wrap (a2))) * 16)) 4095) ((Go.bits .or .u16 (IntKind.u16.wrap ((IntKind.u16.wrap (Go.bits .and .u8 a1 15)) * 256)) (IntKind.u16.wrap (a2))) / 256))).bind fun t114 => ((bits_Lo.f (Go.bits .or .u16 (Go.bits .and .u16 (IntKind.u16.wrap ((Go.bits .or .u16 (IntKind.u16.wrap ((IntKind.u16.wrap (Go.bits .and .u8 a1 15)) * 256)) (IntKind.u16.wrap (a2))) * 16)) 4095) ((Go.bits .or .u16 (IntKind.u16.wrap ((IntKind.u16.wrap (Go.bits .and .u8 a1 15)) * 256)) (IntKind.u16.wrap (a2))) / 256))).bind fun t115 => ((flags_Even.f (Go.bits .or .u8 (Go.bits .and .u8 a1 240) t114)).bind fun t116 => (some (Go.bits .or .u8 (Go.bits .and .u8 a1 240) t114, t115, Go.bits .or .u8 t116 (Go.bits .and .u8 a3 1))))))) = some (r1, r2, r3) := h
  clear h
  by_cases c5 : a0 = true
  · subst c5
    have H1 : ((bits_Hi.f (Go.bits .or .u16 ((Go.bits .or .u16 (IntKind.u16.wrap ((IntKind.u16.wrap (Go.bits .and .u8 a1 15)) * 256)) (IntKind.u16.wrap (a2))) / 16) (IntKind.u16.wrap ((Go.bits .and .u16 (Go.bits .or .u16 (IntKind.u16.wrap ((IntKind.u16.wrap (Go.bits .and .u8 a1 15)) * 256)) (IntKind.u16.wrap (a2))) 15) * 256)))).bind fun t111 => ((bits_Lo.f (Go.bits .or .u16 ((Go.bits .or .u16 (IntKind.u16.wrap ((IntKind.u16.wrap (Go.bits .and .u8 a1 15)) * 256)) (IntKind.u16.wrap (a2))) / 16) (IntKind.u16.wrap ((Go.bits .and .u16 (Go.bits .or .u16 (IntKind.u16.wrap ((IntKind.u16.wrap (Go.bits .and .u8 a1 15)) * 256)) (IntKind.u16.wrap (a2))) 15) * 256)))).bind fun t112 => ((flags_Even.f (Go.bits .or .u8 (Go.bits .and .u8 a1 240) t111)).bind fun t113 => (some (Go.bits .or .u8 (Go.bits .and .u8 a1 240) t111, t112, Go.bits .or .u8 t113 (Go.bits .and .u8 a3 1)))))) = some (r1, r2, r3) := by rw [if_pos rfl] at H; exact H
    clear H
    have H := H1
    clear H1
    replace H := Option.bind_eq_some_iff.mp H
    obtain ⟨t111, A60, H⟩ := H
    replace H : ((bits_Lo.f (Go.bits .or .u16 ((Go.bits .or .u16 (IntKind.u16.wrap ((IntKind.u16.wrap (Go.bits .and .u8 a1 15)) * 256)) (IntKind.u16.wrap (a2))) / 16) (IntKind.u16.wrap ((Go.bits .and .u16 (Go.bits .or .u16 (IntKind.u16.wrap ((IntKind.u16.wrap (Go.bits .and .u8 a1 15)) * 256)) (IntKind.u16.wrap (a2))) 15) * 256)))).bind fun t112 => ((flags_Even.f (Go.bits .or .u8 (Go.bits .and .u8 a1 240) t111)).bind fun t113 => (some (Go.bits .or .u8 (Go.bits .and .u8 a1 240) t111, t112, Go.bits .or .u8 t113 (Go.bits .and .u8 a3 1))))) = some (r1, r2, r3) := H
    have A6 := Aside0.mk A60
    clear A60
    replace H := Option.bind_eq_some_iff.mp H
    obtain ⟨t112, A70, H⟩ := H
    replace H : ((flags_Even.f (Go.bits .or .u8 (Go.bits .and .u8 a1 240) t111)).bind fun t113 => (some (Go.bits .or .u8 (Go.bits .and .u8 a1 240) t111, t112, Go.bits .or .u8 t113 (Go.bits .and .u8 a3 1)))) = some (r1, r2, r3) := H
    have A7 := Aside0.mk A70
    clear A70
    replace H := Option.bind_eq_some_iff.mp H
    obtain ⟨t113, A80, H⟩ := H
    replace H : (some (Go.bits .or .u8 (Go.bits .and .u8 a1 240) t111, t112, Go.bits .or .u8 t113 (Go.bits .and .u8 a3 1))) = some (r1, r2, r3) := H
    have A8 := Aside0.mk A80
    clear A80
    simp only [Option.some.injEq, Prod.mk.injEq] at H
    obtain ⟨rfl, rfl, rfl⟩ := H
    go_enter Try.func27, Try.ntmps27
    go_wp2_with (first | ((with_reducible refine gate_callee (f := 46) rfl ?_); refine goesL_ (some 35) rfl rfl Try.func46 (by kernel_rfl) rfl #[.int .u16 (Go.bits .or .u16 ((Go.bits .or .u16 (IntKind.u16.wrap ((IntKind.u16.wrap (Go.bits .and .u8 a1 15)) * 256)) (IntKind.u16.wrap (a2))) / 16) (IntKind.u16.wrap ((Go.bits .and .u16 (Go.bits .or .u16 (IntKind.u16.wrap ((IntKind.u16.wrap (Go.bits .and .u8 a1 15)) * 256)) (IntKind.u16.wrap (a2))) 15) * 256)))] rfl (by (try simp only [List.map_toArray, List.map_cons, List.map_nil]); first | done | rfl | (simp only [List.length_drop, List.length_take]; rfl)) ?_; (with_reducible refine (bits_Hi.calls (Go.bits .or .u16 ((Go.bits .or .u16 (IntKind.u16.wrap ((IntKind.u16.wrap (Go.bits .and .u8 a1 15)) * 256)) (IntKind.u16.wrap (a2))) / 16) (IntKind.u16.wrap ((Go.bits .and .u16 (Go.bits .or .u16 (IntKind.u16.wrap ((IntKind.u16.wrap (Go.bits .and .u8 a1 15)) * 256)) (IntKind.u16.wrap (a2))) 15) * 256))) t111 _ A6.out).mono ?_); rintro e w' ⟨rfl, ⟨nd, rfl⟩⟩; refine ⟨_, rfl, ?_⟩) | ((with_reducible refine gate_callee (f := 47) rfl ?_); refine goesL_ (some 39) rfl rfl Try.func47 (by kernel_rfl) rfl #[.int .u16 (Go.bits .or .u16 ((Go.bits .or .u16 (IntKind.u16.wrap ((IntKind.u16.wrap (Go.bits .and .u8 a1 15)) * 256)) (IntKind.u16.wrap (a2))) / 16) (IntKind.u16.wrap ((Go.bits .and .u16 (Go.bits .or .u16 (IntKind.u16.wrap ((IntKind.u16.wrap (Go.bits .and .u8 a1 15)) * 256)) (IntKind.u16.wrap (a2))) 15) * 256)))] rfl (by (try simp only [List.map_toArray, List.map_cons, List.map_nil]); first | done | rfl | (simp only [List.length_drop, List.length_take]; rfl)) ?_; (with_reducible refine (bits_Lo.calls (Go.bits .or .u16 ((Go.bits .or .u16 (IntKind.u16.wrap ((IntKind.u16.wrap (Go.bits .and .u8 a1 15)) * 256)) (IntKind.u16.wrap (a2))) / 16) (IntKind.u16.wrap ((Go.bits .and .u16 (Go.bits .or .u16 (IntKind.u16.wrap ((IntKind.u16.wrap (Go.bits .and .u8 a1 15)) * 256)) (IntKind.u16.wrap (a2))) 15) * 256))) t112 _ A7.out).mono ?_); rintro e w' ⟨rfl, ⟨nd, rfl⟩⟩; refine ⟨_, rfl, ?_⟩) | ((with_reducible refine gate_callee (f := 41) rfl ?_); refine goesL_ (some 41) rfl rfl Try.func41 (by kernel_rfl) rfl #[.int .u8 (Go.bits .or .u8 (Go.bits .and .u8 a1 240) t111)] rfl (by (try simp only [List.map_toArray, List.map_cons, List.map_nil]); first | done | rfl | (simp only [List.length_drop, List.length_take]; rfl)) ?_; (with_reducible refine (flags_Even.calls (Go.bits .or .u8 (Go.bits .and .u8 a1 240) t111) t113 _ A8.out).mono ?_); rintro e w9 ⟨rfl, hb⟩; refine ⟨_, rfl, ?_⟩; have n0_ := Aside0.mk (below_step (by repeat (first | (with_reducible first | exact HB.out | apply below_alloc | apply pw_below_drewN | apply below_drew1) | exact HB.out)) hb); clear HB; have HB := n0_; clear n0_; (try clear hb); (try clear hb2); (try clear hk); (try clear hi)))
    go_ret3
    exact ⟨by first | rfl | (simp [errW_none, errW_some] <;> rfl) | (simp [*, errW_none, errW_some] <;> rfl), by repeat (first | (with_reducible first | exact HB.out | apply below_alloc | apply pw_below_drewN | apply below_drew1) | exact HB.out)⟩
  · replace c5 := Bool.eq_false_iff.mpr c5
    subst c5
    have H1 : ((bits_Hi.f (Go.bits .or .u16 (Go.bits .and .u16 (IntKind.u16.wrap ((Go.bits .or .u16 (IntKind.u16.wrap ((IntKind.u16.wrap (Go.bits .and .u8 a1 15)) * 256)) (IntKind.u16.wrap (a2))) * 16)) 4095) ((Go.bits .or .u16 (IntKind.u16.wrap ((IntKind.u16.wrap (Go.bits .and .u8 a1 15)) * 256)) (IntKind.u16.wrap (a2))) / 256))).bind fun t114 => ((bits_Lo.f (Go.bits .or .u16 (Go.bits .and .u16 (IntKind.u16.wrap ((Go.bits .or .u16 (IntKind.u16.wrap ((IntKind.u16.wrap (Go.bits .and .u8 a1 15)) * 256)) (IntKind.u16.wrap (a2))) * 16)) 4095) ((Go.bits .or .u16 (IntKind.u16.wrap ((IntKind.u16.wrap (Go.bits .and .u8 a1 15)) * 256)) (IntKind.u16.wrap (a2))) / 256))).bind fun t115 => ((flags_Even.f (Go.bits .or .u8 (Go.bits .and .u8 a1 240) t114)).bind fun t116 => (some (Go.bits .or .u8 (Go.bits .and .u8 a1 240) t114, t115, Go.bits .or .u8 t116 (Go.bits .and .u8 a3 1)))))) = some (r1, r2, r3) := by rw [if_neg (show ¬ (false = true) by decide)] at H; exact H
    clear H
    have H := H1
    clear H1
    replace H := Option.bind_eq_some_iff.mp H
    obtain ⟨t114, A100, H⟩ := H
    replace H : ((bits_Lo.f (Go.bits .or .u16 (Go.bits .and .u16 (IntKind.u16.wrap ((Go.bits .or .u16 (IntKind.u16.wrap ((IntKind.u16.wrap (Go.bits .and .u8 a1 15)) * 256)) (IntKind.u16.wrap (a2))) * 16)) 4095) ((Go.bits .or .u16 (IntKind.u16.wrap ((IntKind.u16.wrap (Go.bits .and .u8 a1 15)) * 256)) (IntKind.u16.wrap (a2))) / 256))).bind fun t115 => ((flags_Even.f (Go.bits .or .u8 (Go.bits .and .u8 a1 240) t114)).bind fun t116 => (some (Go.bits .or .u8 (Go.bits .and .u8 a1 240) t114, t115, Go.bits .or .u8 t116 (Go.bits .and .u8 a3 1))))) = some (r1, r2, r3) := H
    have A10 := Aside0.mk A100
    clear A100
    replace H := Option.bind_eq_some_iff.mp H
    obtain ⟨t115, A110, H⟩ := H
    replace H : ((flags_Even.f (Go.bits .or .u8 (Go.bits .and .u8 a1 240) t114)).bind fun t116 => (some (Go.bits .or .u8 (Go.bits .and .u8 a1 240) t114, t115, Go.bits .or .u8 t116 (Go.bits .and .u8 a3 1)))) = some (r1, r2, r3) := H
    have A11 := Aside0.mk A110
    clear A110
    replace H := Option.bind_eq_some_iff.mp H
    obtain ⟨t116, A120, H⟩ := H
    replace H : (some (Go.bits .or .u8 (Go.bits .and .u8 a1 240) t114, t115, Go.bits .or .u8 t116 (Go.bits .and .u8 a3 1))) = some (r1, r2, r3) := H
    have A12 := Aside0.mk A120
    clear A120
    simp only [Option.some.injEq, Prod.mk.injEq] at H
    obtain ⟨rfl, rfl, rfl⟩ := H
    go_enter Try.func27, Try.ntmps27
    go_wp2_with (first | ((with_reducible refine gate_callee (f := 46) rfl ?_); refine goesL_ (some 35) rfl rfl Try.func46 (by kernel_rfl) rfl #[.int .u16 (Go.bits .or .u16 (Go.bits .and .u16 (IntKind.u16.wrap ((Go.bits .or .u16 (IntKind.u16.wrap ((IntKind.u16.wrap (Go.bits .and .u8 a1 15)) * 256)) (IntKind.u16.wrap (a2))) * 16)) 4095) ((Go.bits .or .u16 (IntKind.u16.wrap ((IntKind.u16.wrap (Go.bits .and .u8 a1 15)) * 256)) (IntKind.u16.wrap (a2))) / 256))] rfl (by (try simp only [List.map_toArray, List.map_cons, List.map_nil]); first | done | rfl | (simp only [List.length_drop, List.length_take]; rfl)) ?_; (with_reducible refine (bits_Hi.calls (Go.bits .or .u16 (Go.bits .and .u16 (IntKind.u16.wrap ((Go.bits .or .u16 (IntKind.u16.wrap ((IntKind.u16.wrap (Go.bits .and .u8 a1 15)) * 256)) (IntKind.u16.wrap (a2))) * 16)) 4095) ((Go.bits .or .u16 (IntKind.u16.wrap ((IntKind.u16.wrap (Go.bits .and .u8 a1 15)) * 256)) (IntKind.u16.wrap (a2))) / 256)) t114 _ A10.out).mono ?_); rintro e w' ⟨rfl, ⟨nd, rfl⟩⟩; refine ⟨_, rfl, ?_⟩) | ((with_reducible refine gate_callee (f := 47) rfl ?_); refine goesL_ (some 39) rfl rfl Try.func47 (by kernel_rfl) rfl #[.int .u16 (Go.bits .or .u16 (Go.bits .and .u16 (IntKind.u16.wrap ((Go.bits .or .u16 (IntKind.u16.wrap ((IntKind.u16.wrap (Go.bits .and .u8 a1 15)) * 256)) (IntKind.u16.wrap (a2))) * 16)) 4095) ((Go.bits .or .u16 (IntKind.u16.wrap ((IntKind.u16.wrap (Go.bits .and .u8 a1 15)) * 256)) (IntKind.u16.wrap (a2))) / 256))] rfl (by (try simp only [List.map_toArray, List.map_cons, List.map_nil]); first | done | rfl | (simp only [List.length_drop, List.length_take]; rfl)) ?_; (with_reducible refine (bits_Lo.calls (Go.bits .or .u16 (Go.bits .and .u16 (IntKind.u16.wrap ((Go.bits .or .u16 (IntKind.u16.wrap ((IntKind.u16.wrap (Go.bits .and .u8 a1 15)) * 256)) (IntKind.u16.wrap (a2))) * 16)) 4095) ((Go.bits .or .u16 (IntKind.u16.wrap ((IntKind.u16.wrap (Go.bits .and .u8 a1 15)) * 256)) (IntKind.u16.wrap (a2))) / 256)) t115 _ A11.out).mono ?_); rintro e w' ⟨rfl, ⟨nd, rfl⟩⟩; refine ⟨_, rfl, ?_⟩) | ((with_reducible refine gate_callee (f := 41) rfl ?_); refine goesL_ (some 41) rfl rfl Try.func41 (by kernel_rfl) rfl #[.int .u8 (Go.bits .or .u8 (Go.bits .and .u8 a1 240) t114)] rfl (by (try simp only [List.map_toArray, List.map_cons, List.map_nil]); first | done | rfl | (simp only [List.length_drop, List.length_take]; rfl)) ?_; (with_reducible refine (flags_Even.calls (Go.bits .or .u8 (Go.bits .and .u8 a1 240) t114) t116 _ A12.out).mono ?_); rintro e w13 ⟨rfl, hb⟩; refine ⟨_, rfl, ?_⟩; have n0_ := Aside0.mk (below_step (by repeat (first | (with_reducible first | exact HB.out | apply below_alloc | apply pw_below_drewN | apply below_drew1) | exact HB.out)) hb); clear HB; have HB := n0_; clear n0_; (try clear hb); (try clear hb2); (try clear hk); (try clear hi)))
    go_ret3
    exact ⟨by first | rfl | (simp [errW_none, errW_some] <;> rfl) | (simp [*, errW_none, errW_some] <;> rfl), by repeat (first | (with_reducible first | exact HB.out | apply below_alloc | apply pw_below_drewN | apply below_drew1) | exact HB.out)⟩

/-! ### bits_may: function 69 -/
def bits_may.f (a0 : Int) : Option (Bool) := if a0 ≥ 0 then (some (decide (a0 < 8))) else (some false)
set_option maxHeartbeats 8000000 in
set_option maxRecDepth 100000 in
theorem bits_may.calls (a0 : Int) (r : Bool) (w : World) (h : bits_may.f a0 = some r) :
    Calls Try.prog 69 #[.int .i64 a0] w fun e w' => e = .returned (.bool r) ∧ Drawn0 w w' := by
  have H : (if a0 ≥ 0 then (some (decide (a0 < 8))) else (some false)) = some r := h
  clear h
  by_cases c2 : a0 ≥ 0
  · rw [if_pos c2] at H
    have c2b0 : decide (0 ≤ a0) = true := decide_eq_true c2
    clear c2
    obtain rfl := Option.some.inj H
    go_enter Try.func69, Try.ntmps69
    go_wp2
    go_ret
    exact ⟨by first | rfl | (simp; done) | (simp [*]; done), by repeat (first | exact Drawn0.refl _ | apply Drawn0.step)⟩
  · rw [if_neg c2] at H
    have c2b0 : decide (0 ≤ a0) = false := decide_eq_false c2
    clear c2
    obtain rfl := Option.some.inj H
    go_enter Try.func69, Try.ntmps69
    go_wp2
    go_ret
    exact ⟨by first | rfl | (simp; done) | (simp [*]; done), by repeat (first | exact Drawn0.refl _ | apply Drawn0.step)⟩

/-! ### bits_Is: function 48 -/
def bits_Is.f (a0 : Int) (a1 : Int) : Option (Bool) := (bits_may.f a1).bind fun t117 => (if t117 = true then (if 0 ≤ a1 then (some ((Go.bits .and .u8 (shr .u8 a0 a1) 1) == 1)) else (none)) else (some false))
set_option maxHeartbeats 8000000 in
set_option maxRecDepth 100000 in
theorem bits_Is.calls (a0 : Int) (a1 : Int) (r : Bool) (w : World) (h : bits_Is.f a0 a1 = some r) :
    Calls Try.prog 48 #[.int .u8 a0, .int .i64 a1] w fun e w' => e = .returned (.bool r) ∧ Drawn0 w w' := by
  have H : ((bits_may.f a1).bind fun t117 => (if t117 = true then (if 0 ≤ a1 then (some ((Go.bits .and .u8 (shr .u8 a0 a1) 1) == 1)) else (none)) else (some false))) = some r := h
  clear h
  replace H := Option.bind_eq_some_iff.mp H
  obtain ⟨t117, A30, H⟩ := H
  replace H : (if t117 = true then (if 0 ≤ a1 then (some ((Go.bits .and .u8 (shr .u8 a0 a1) 1) == 1)) else (none)) else (some false)) = some r := H
  have A3 := Aside0.mk A30
  clear A30
  by_cases c4 : t117 = true
  · subst c4
    have H1 : (if 0 ≤ a1 then (some ((Go.bits .and .u8 (shr .u8 a0 a1) 1) == 1)) else (none)) = some r := by rw [if_pos rfl] at H; exact H
    clear H
    have H := H1
    clear H1
    by_cases c5 : 0 ≤ a1
    · rw [if_pos c5] at H
      have c5b0 := eq_true c5
      have c5b1 : decide (0 ≤ a1) = true := decide_eq_true c5
      clear c5
      obtain ⟨ji6, hji6⟩ : ∃ j_ : Int, (shr .u8 a0 a1) = j_ := ⟨_, rfl⟩
      replace H : (some ((Go.bits .and .u8 (ji6) 1) == 1)) = some r := by first | (rw [hji6] at H; exact H) | (simp only [hji6] at H ⊢; exact H)
      (try rw [hji6] at A3)
      have hji6_ : (a0 / 2 ^ min a1.toNat 8) = ji6 := hji6
      have hji6z : a1 ≤ 8 → (a0 / 2 ^ a1.toNat) = ji6 := shr_small hji6
      obtain rfl := Option.some.inj H
      go_enter Try.func48, Try.ntmps48
      go_wp2_with (first | ((with_reducible refine gate_callee (f := 69) rfl ?_); refine goesL_ (some 6) rfl rfl Try.func69 (by kernel_rfl) rfl #[.int .i64 a1] rfl (by (try simp only [List.map_toArray, List.map_cons, List.map_nil]); first | done | rfl | (simp only [List.length_drop, List.length_take]; rfl)) ?_; (with_reducible refine (bits_may.calls a1 true _ A3.out).mono ?_); rintro e w' ⟨rfl, ⟨nd, rfl⟩⟩; refine ⟨_, rfl, ?_⟩))
      go_ret
      exact ⟨by first | rfl | (simp; done) | (simp only [← hji6] <;> (first | rfl | simp)) | (simp [*]; done), by repeat (first | exact Drawn0.refl _ | apply Drawn0.step)⟩
    · rw [if_neg c5] at H
      exact absurd H (by simp)
  · replace c4 := Bool.eq_false_iff.mpr c4
    subst c4
    have H1 : (some false) = some r := by rw [if_neg (show ¬ (false = true) by decide)] at H; exact H
    clear H
    have H := H1
    clear H1
    obtain rfl := Option.some.inj H
    go_enter Try.func48, Try.ntmps48
    go_wp2_with (first | ((with_reducible refine gate_callee (f := 69) rfl ?_); refine goesL_ (some 6) rfl rfl Try.func69 (by kernel_rfl) rfl #[.int .i64 a1] rfl (by (try simp only [List.map_toArray, List.map_cons, List.map_nil]); first | done | rfl | (simp only [List.length_drop, List.length_take]; rfl)) ?_; (with_reducible refine (bits_may.calls a1 false _ A3.out).mono ?_); rintro e w' ⟨rfl, ⟨nd, rfl⟩⟩; refine ⟨_, rfl, ?_⟩))
    go_ret
    exact ⟨by first | rfl | (simp; done) | (simp [*]; done), by repeat (first | exact Drawn0.refl _ | apply Drawn0.step)⟩

/-! ### shift_Bit: function 29 -/
def shift_Bit.f (a0 : Int) (a1 : Int) (a2 : Int) (a3 : Int) : Option (Int) := (bits_Is.f a1 a0).bind fun t118 => (if t118 = true then (if a0 = 7 then (some (Go.bits .or .u8 (Go.bits .or .u8 (Go.bits .or .u8 (Go.bits .and .u8 a3 1) 16) (Go.bits .and .u8 a2 40)) 128)) else (some (Go.bits .or .u8 (Go.bits .or .u8 (Go.bits .and .u8 a3 1) 16) (Go.bits .and .u8 a2 40)))) else (some (Go.bits .or .u8 (Go.bits .or .u8 (Go.bits .or .u8 (Go.bits .or .u8 (Go.bits .and .u8 a3 1) 16) (Go.bits .and .u8 a2 40)) 64) 4)))
set_option maxHeartbeats 8000000 in
set_option maxRecDepth 100000 in
theorem shift_Bit.calls (a0 : Int) (a1 : Int) (a2 : Int) (a3 : Int) (r : Int) (w : World) (h : shift_Bit.f a0 a1 a2 a3 = some r) :
    Calls Try.prog 29 #[.int .i64 a0, .int .u8 a1, .int .u8 a2, .int .u8 a3] w fun e w' => e = .returned (.int .u8 r) ∧ Drawn0 w w' := by
  have H : ((bits_Is.f a1 a0).bind fun t118 => (if t118 = true then (if a0 = 7 then (some (Go.bits .or .u8 (Go.bits .or .u8 (Go.bits .or .u8 (Go.bits .and .u8 a3 1) 16) (Go.bits .and .u8 a2 40)) 128)) else (some (Go.bits .or .u8 (Go.bits .or .u8 (Go.bits .and .u8 a3 1) 16) (Go.bits .and .u8 a2 40)))) else (some (Go.bits .or .u8 (Go.bits .or .u8 (Go.bits .or .u8 (Go.bits .or .u8 (Go.bits .and .u8 a3 1) 16) (Go.bits .and .u8 a2 40)) 64) 4)))) = some r := h
  clear h
  replace H := Option.bind_eq_some_iff.mp H
  obtain ⟨t118, A50, H⟩ := H
  replace H : (if t118 = true then (if a0 = 7 then (some (Go.bits .or .u8 (Go.bits .or .u8 (Go.bits .or .u8 (Go.bits .and .u8 a3 1) 16) (Go.bits .and .u8 a2 40)) 128)) else (some (Go.bits .or .u8 (Go.bits .or .u8 (Go.bits .and .u8 a3 1) 16) (Go.bits .and .u8 a2 40)))) else (some (Go.bits .or .u8 (Go.bits .or .u8 (Go.bits .or .u8 (Go.bits .or .u8 (Go.bits .and .u8 a3 1) 16) (Go.bits .and .u8 a2 40)) 64) 4))) = some r := H
  have A5 := Aside0.mk A50
  clear A50
  by_cases c6 : t118 = true
  · subst c6
    have H1 : (if a0 = 7 then (some (Go.bits .or .u8 (Go.bits .or .u8 (Go.bits .or .u8 (Go.bits .and .u8 a3 1) 16) (Go.bits .and .u8 a2 40)) 128)) else (some (Go.bits .or .u8 (Go.bits .or .u8 (Go.bits .and .u8 a3 1) 16) (Go.bits .and .u8 a2 40)))) = some r := by rw [if_pos rfl] at H; exact H
    clear H
    have H := H1
    clear H1
    by_cases c7 : a0 = 7
    · rw [if_pos c7] at H
      have c7b0 : (a0 == 7) = true := beq_iff_eq.mpr c7
      have c7b1 : (a0 != 7) = false := bne_eq_false_iff_eq.mpr c7
      clear c7
      obtain rfl := Option.some.inj H
      go_enter Try.func29, Try.ntmps29
      go_wp2_with (first | ((with_reducible refine gate_callee (f := 48) rfl ?_); refine goesL_ (some 19) rfl rfl Try.func48 (by kernel_rfl) rfl #[.int .u8 a1, .int .i64 a0] rfl (by (try simp only [List.map_toArray, List.map_cons, List.map_nil]); first | done | rfl | (simp only [List.length_drop, List.length_take]; rfl)) ?_; (with_reducible refine (bits_Is.calls a1 a0 true _ A5.out).mono ?_); rintro e w' ⟨rfl, ⟨nd, rfl⟩⟩; refine ⟨_, rfl, ?_⟩))
      go_ret
      exact ⟨by first | rfl | (simp; done) | (simp [*]; done), by repeat (first | exact Drawn0.refl _ | apply Drawn0.step)⟩
    · rw [if_neg c7] at H
      have c7b0 : (a0 == 7) = false := beq_eq_false_iff_ne.mpr c7
      have c7b1 : (a0 != 7) = true := bne_iff_ne.mpr c7
      obtain rfl := Option.some.inj H
      go_enter Try.func29, Try.ntmps29
      go_wp2_with (first | ((with_reducible refine gate_callee (f := 48) rfl ?_); refine goesL_ (some 19) rfl rfl Try.func48 (by kernel_rfl) rfl #[.int .u8 a1, .int .i64 a0] rfl (by (try simp only [List.map_toArray, List.map_cons, List.map_nil]); first | done | rfl | (simp only [List.length_drop, List.length_take]; rfl)) ?_; (with_reducible refine (bits_Is.calls a1 a0 true _ A5.out).mono ?_); rintro e w' ⟨rfl, ⟨nd, rfl⟩⟩; refine ⟨_, rfl, ?_⟩))
      go_ret
      exact ⟨by first | rfl | (simp; done) | (simp [*]; done), by repeat (first | exact Drawn0.refl _ | apply Drawn0.step)⟩
  · replace c6 := Bool.eq_false_iff.mpr c6
    subst c6
    have H1 : (some (Go.bits .or .u8 (Go.bits .or .u8 (Go.bits .or .u8 (Go.bits .or .u8 (Go.bits .and .u8 a3 1) 16) (Go.bits .and .u8 a2 40)) 64) 4)) = some r := by rw [if_neg (show ¬ (false = true) by decide)] at H; exact H
    clear H
    have H := H1
    clear H1
    obtain rfl := Option.some.inj H
    go_enter Try.func29, Try.ntmps29
    go_wp2_with (first | ((with_reducible refine gate_callee (f := 48) rfl ?_); refine goesL_ (some 19) rfl rfl Try.func48 (by kernel_rfl) rfl #[.int .u8 a1, .int .i64 a0] rfl (by (try simp only [List.map_toArray, List.map_cons, List.map_nil]); first | done | rfl | (simp only [List.length_drop, List.length_take]; rfl)) ?_; (with_reducible refine (bits_Is.calls a1 a0 false _ A5.out).mono ?_); rintro e w' ⟨rfl, ⟨nd, rfl⟩⟩; refine ⟨_, rfl, ?_⟩))
    go_ret
    exact ⟨by first | rfl | (simp; done) | (simp [*]; done), by repeat (first | exact Drawn0.refl _ | apply Drawn0.step)⟩

/-! ### charabanclaw06_awake: function 22 -/
def charabanclaw06_awake.f  : Option (Bool) := (shift_Do.f 0 129 0).bind fun bt119 => ((shift_Digit.f false 18 52 1).bind fun bt121 => ((shift_Acc.f 1 1 64).bind fun bt124 => (if bt119.1 = 3 then (if bt119.2 = 5 then (if bt121.1 = 19 then (if bt121.2.1 = 66 then (if bt121.2.2 = 1 then (if bt124.1 = 128 then (if bt124.2 = 65 then ((shift_Bit.f 7 128 0 1).bind fun t126 => (some (t126 == 145))) else (some false)) else (some false)) else (some false)) else (some false)) else (some false)) else (some false)) else (some false))))
set_option maxHeartbeats 8000000 in
set_option maxRecDepth 100000 in
theorem charabanclaw06_awake.calls  (r : Bool) (w : World) (h : charabanclaw06_awake.f  = some r) :
    Calls Try.prog 22 #[] w fun e w' => e = .returned (.bool r) ∧ Below w.heap.size w w' := by
  have HB := Aside0.mk (Below.refl w.heap.size w)
  have H : ((shift_Do.f 0 129 0).bind fun bt119 => ((shift_Digit.f false 18 52 1).bind fun bt121 => ((shift_Acc.f 1 1 64).bind fun bt124 => (if bt119.1 = 3 then (if bt119.2 = 5 then (if bt121.1 = 19 then (if bt121.2.1 = 66 then (if bt121.2.2 = 1 then (if bt124.1 = 128 then (if bt124.2 = 65 then ((shift_Bit.f 7 128 0 1).bind fun t126 => (some (t126 == 145))) else (some false)) else (some false)) else (some false)) else (some false)) else (some false)) else (some false)) else (some false))))) = some r := h
  clear h
  replace H := Option.bind_eq_some_iff.mp H
  obtain ⟨⟨t119, t120⟩, A10, H⟩ := H
  replace H : ((shift_Digit.f false 18 52 1).bind fun bt121 => ((shift_Acc.f 1 1 64).bind fun bt124 => (if t119 = 3 then (if t120 = 5 then (if bt121.1 = 19 then (if bt121.2.1 = 66 then (if bt121.2.2 = 1 then (if bt124.1 = 128 then (if bt124.2 = 65 then ((shift_Bit.f 7 128 0 1).bind fun t126 => (some (t126 == 145))) else (some false)) else (some false)) else (some false)) else (some false)) else (some false)) else (some false)) else (some false)))) = some r := H
  have A1 := Aside0.mk A10
  clear A10
  replace H := Option.bind_eq_some_iff.mp H
  obtain ⟨⟨t121, t122, t123⟩, A20, H⟩ := H
  replace H : ((shift_Acc.f 1 1 64).bind fun bt124 => (if t119 = 3 then (if t120 = 5 then (if t121 = 19 then (if t122 = 66 then (if t123 = 1 then (if bt124.1 = 128 then (if bt124.2 = 65 then ((shift_Bit.f 7 128 0 1).bind fun t126 => (some (t126 == 145))) else (some false)) else (some false)) else (some false)) else (some false)) else (some false)) else (some false)) else (some false))) = some r := H
  have A2 := Aside0.mk A20
  clear A20
  replace H := Option.bind_eq_some_iff.mp H
  obtain ⟨⟨t124, t125⟩, A30, H⟩ := H
  replace H : (if t119 = 3 then (if t120 = 5 then (if t121 = 19 then (if t122 = 66 then (if t123 = 1 then (if t124 = 128 then (if t125 = 65 then ((shift_Bit.f 7 128 0 1).bind fun t126 => (some (t126 == 145))) else (some false)) else (some false)) else (some false)) else (some false)) else (some false)) else (some false)) else (some false)) = some r := H
  have A3 := Aside0.mk A30
  clear A30
  by_cases c4 : t119 = 3
  · rw [if_pos c4] at H
    have c4b0 : (t119 == 3) = true := beq_iff_eq.mpr c4
    have c4b1 : (t119 != 3) = false := bne_eq_false_iff_eq.mpr c4
    clear c4
    by_cases c5 : t120 = 5
    · rw [if_pos c5] at H
      have c5b0 : (t120 == 5) = true := beq_iff_eq.mpr c5
      have c5b1 : (t120 != 5) = false := bne_eq_false_iff_eq.mpr c5
      clear c5
      by_cases c6 : t121 = 19
      · rw [if_pos c6] at H
        have c6b0 : (t121 == 19) = true := beq_iff_eq.mpr c6
        have c6b1 : (t121 != 19) = false := bne_eq_false_iff_eq.mpr c6
        clear c6
        by_cases c7 : t122 = 66
        · rw [if_pos c7] at H
          have c7b0 : (t122 == 66) = true := beq_iff_eq.mpr c7
          have c7b1 : (t122 != 66) = false := bne_eq_false_iff_eq.mpr c7
          clear c7
          by_cases c8 : t123 = 1
          · rw [if_pos c8] at H
            have c8b0 : (t123 == 1) = true := beq_iff_eq.mpr c8
            have c8b1 : (t123 != 1) = false := bne_eq_false_iff_eq.mpr c8
            clear c8
            by_cases c9 : t124 = 128
            · rw [if_pos c9] at H
              have c9b0 : (t124 == 128) = true := beq_iff_eq.mpr c9
              have c9b1 : (t124 != 128) = false := bne_eq_false_iff_eq.mpr c9
              clear c9
              by_cases c10 : t125 = 65
              · rw [if_pos c10] at H
                have c10b0 : (t125 == 65) = true := beq_iff_eq.mpr c10
                have c10b1 : (t125 != 65) = false := bne_eq_false_iff_eq.mpr c10
                clear c10
                replace H := Option.bind_eq_some_iff.mp H
                obtain ⟨t126, A110, H⟩ := H
                replace H : (some (t126 == 145)) = some r := H
                have A11 := Aside0.mk A110
                clear A110
                obtain rfl := Option.some.inj H
                go_enter Try.func22, Try.ntmps22
                go_wp2_with (first | ((with_reducible refine gate_callee (f := 23) rfl ?_); refine goesL_ (some 9) rfl rfl Try.func23 (by kernel_rfl) rfl #[.int .i64 0, .int .u8 129, .int .u8 0] rfl (by (try simp only [List.map_toArray, List.map_cons, List.map_nil]); first | done | rfl | (simp only [List.length_drop, List.length_take]; rfl)) ?_; (with_reducible refine (shift_Do.calls 0 129 0 t119 t120 _ A1.out).mono ?_); rintro e w12 ⟨rfl, hb⟩; refine ⟨_, rfl, ?_⟩; have n0_ := Aside0.mk (below_step (by repeat (first | (with_reducible first | exact HB.out | apply below_alloc | apply pw_below_drewN | apply below_drew1) | exact HB.out)) hb); clear HB; have HB := n0_; clear n0_; (try clear hb); (try clear hb2); (try clear hk); (try clear hi)) | ((with_reducible refine gate_callee (f := 27) rfl ?_); refine goesL_ (some 13) rfl rfl Try.func27 (by kernel_rfl) rfl #[.bool false, .int .u8 18, .int .u8 52, .int .u8 1] rfl (by (try simp only [List.map_toArray, List.map_cons, List.map_nil]); first | done | rfl | (simp only [List.length_drop, List.length_take]; rfl)) ?_; (with_reducible refine (shift_Digit.calls false 18 52 1 t121 t122 t123 _ A2.out).mono ?_); rintro e w13 ⟨rfl, hb⟩; refine ⟨_, rfl, ?_⟩; have n0_ := Aside0.mk (below_step (by repeat (first | (with_reducible first | exact HB.out | apply below_alloc | apply pw_below_drewN | apply below_drew1) | exact HB.out)) hb); clear HB; have HB := n0_; clear n0_; (try clear hb); (try clear hb2); (try clear hk); (try clear hi)) | ((with_reducible refine gate_callee (f := 25) rfl ?_); refine goesL_ (some 18) rfl rfl Try.func25 (by kernel_rfl) rfl #[.int .i64 1, .int .u8 1, .int .u8 64] rfl (by (try simp only [List.map_toArray, List.map_cons, List.map_nil]); first | done | rfl | (simp only [List.length_drop, List.length_take]; rfl)) ?_; (with_reducible refine (shift_Acc.calls 1 1 64 t124 t125 _ A3.out).mono ?_); rintro e w14 ⟨rfl, hb⟩; refine ⟨_, rfl, ?_⟩; have n0_ := Aside0.mk (below_step (by repeat (first | (with_reducible first | exact HB.out | apply below_alloc | apply pw_below_drewN | apply below_drew1) | exact HB.out)) hb); clear HB; have HB := n0_; clear n0_; (try clear hb); (try clear hb2); (try clear hk); (try clear hi)) | (go_at_call 29; (with_reducible refine (shift_Bit.calls 7 128 0 1 t126 _ A11.out).mono ?_); rintro e w' ⟨rfl, ⟨nd, rfl⟩⟩))
                go_ret
                exact ⟨by first | rfl | (simp [errW_none, errW_some] <;> rfl) | (simp [*, errW_none, errW_some] <;> rfl), by repeat (first | (with_reducible first | exact HB.out | apply below_alloc | apply pw_below_drewN | apply below_drew1) | exact HB.out)⟩
              · rw [if_neg c10] at H
                have c10b0 : (t125 == 65) = false := beq_eq_false_iff_ne.mpr c10
                have c10b1 : (t125 != 65) = true := bne_iff_ne.mpr c10
                obtain rfl := Option.some.inj H
                go_enter Try.func22, Try.ntmps22
                go_wp2_with (first | ((with_reducible refine gate_callee (f := 23) rfl ?_); refine goesL_ (some 9) rfl rfl Try.func23 (by kernel_rfl) rfl #[.int .i64 0, .int .u8 129, .int .u8 0] rfl (by (try simp only [List.map_toArray, List.map_cons, List.map_nil]); first | done | rfl | (simp only [List.length_drop, List.length_take]; rfl)) ?_; (with_reducible refine (shift_Do.calls 0 129 0 t119 t120 _ A1.out).mono ?_); rintro e w15 ⟨rfl, hb⟩; refine ⟨_, rfl, ?_⟩; have n0_ := Aside0.mk (below_step (by repeat (first | (with_reducible first | exact HB.out | apply below_alloc | apply pw_below_drewN | apply below_drew1) | exact HB.out)) hb); clear HB; have HB := n0_; clear n0_; (try clear hb); (try clear hb2); (try clear hk); (try clear hi)) | ((with_reducible refine gate_callee (f := 27) rfl ?_); refine goesL_ (some 13) rfl rfl Try.func27 (by kernel_rfl) rfl #[.bool false, .int .u8 18, .int .u8 52, .int .u8 1] rfl (by (try simp only [List.map_toArray, List.map_cons, List.map_nil]); first | done | rfl | (simp only [List.length_drop, List.length_take]; rfl)) ?_; (with_reducible refine (shift_Digit.calls false 18 52 1 t121 t122 t123 _ A2.out).mono ?_); rintro e w16 ⟨rfl, hb⟩; refine ⟨_, rfl, ?_⟩; have n0_ := Aside0.mk (below_step (by repeat (first | (with_reducible first | exact HB.out | apply below_alloc | apply pw_below_drewN | apply below_drew1) | exact HB.out)) hb); clear HB; have HB := n0_; clear n0_; (try clear hb); (try clear hb2); (try clear hk); (try clear hi)) | ((with_reducible refine gate_callee (f := 25) rfl ?_); refine goesL_ (some 18) rfl rfl Try.func25 (by kernel_rfl) rfl #[.int .i64 1, .int .u8 1, .int .u8 64] rfl (by (try simp only [List.map_toArray, List.map_cons, List.map_nil]); first | done | rfl | (simp only [List.length_drop, List.length_take]; rfl)) ?_; (with_reducible refine (shift_Acc.calls 1 1 64 t124 t125 _ A3.out).mono ?_); rintro e w17 ⟨rfl, hb⟩; refine ⟨_, rfl, ?_⟩; have n0_ := Aside0.mk (below_step (by repeat (first | (with_reducible first | exact HB.out | apply below_alloc | apply pw_below_drewN | apply below_drew1) | exact HB.out)) hb); clear HB; have HB := n0_; clear n0_; (try clear hb); (try clear hb2); (try clear hk); (try clear hi)))
                go_ret
                exact ⟨by first | rfl | (simp [errW_none, errW_some] <;> rfl) | (simp [*, errW_none, errW_some] <;> rfl), by repeat (first | (with_reducible first | exact HB.out | apply below_alloc | apply pw_below_drewN | apply below_drew1) | exact HB.out)⟩
            · rw [if_neg c9] at H
              have c9b0 : (t124 == 128) = false := beq_eq_false_iff_ne.mpr c9
              have c9b1 : (t124 != 128) = true := bne_iff_ne.mpr c9
              obtain rfl := Option.some.inj H
              go_enter Try.func22, Try.ntmps22
              go_wp2_with (first | ((with_reducible refine gate_callee (f := 23) rfl ?_); refine goesL_ (some 9) rfl rfl Try.func23 (by kernel_rfl) rfl #[.int .i64 0, .int .u8 129, .int .u8 0] rfl (by (try simp only [List.map_toArray, List.map_cons, List.map_nil]); first | done | rfl | (simp only [List.length_drop, List.length_take]; rfl)) ?_; (with_reducible refine (shift_Do.calls 0 129 0 t119 t120 _ A1.out).mono ?_); rintro e w18 ⟨rfl, hb⟩; refine ⟨_, rfl, ?_⟩; have n0_ := Aside0.mk (below_step (by repeat (first | (with_reducible first | exact HB.out | apply below_alloc | apply pw_below_drewN | apply below_drew1) | exact HB.out)) hb); clear HB; have HB := n0_; clear n0_; (try clear hb); (try clear hb2); (try clear hk); (try clear hi)) | ((with_reducible refine gate_callee (f := 27) rfl ?_); refine goesL_ (some 13) rfl rfl Try.func27 (by kernel_rfl) rfl #[.bool false, .int .u8 18, .int .u8 52, .int .u8 1] rfl (by (try simp only [List.map_toArray, List.map_cons, List.map_nil]); first | done | rfl | (simp only [List.length_drop, List.length_take]; rfl)) ?_; (with_reducible refine (shift_Digit.calls false 18 52 1 t121 t122 t123 _ A2.out).mono ?_); rintro e w19 ⟨rfl, hb⟩; refine ⟨_, rfl, ?_⟩; have n0_ := Aside0.mk (below_step (by repeat (first | (with_reducible first | exact HB.out | apply below_alloc | apply pw_below_drewN | apply below_drew1) | exact HB.out)) hb); clear HB; have HB := n0_; clear n0_; (try clear hb); (try clear hb2); (try clear hk); (try clear hi)) | ((with_reducible refine gate_callee (f := 25) rfl ?_); refine goesL_ (some 18) rfl rfl Try.func25 (by kernel_rfl) rfl #[.int .i64 1, .int .u8 1, .int .u8 64] rfl (by (try simp only [List.map_toArray, List.map_cons, List.map_nil]); first | done | rfl | (simp only [List.length_drop, List.length_take]; rfl)) ?_; (with_reducible refine (shift_Acc.calls 1 1 64 t124 t125 _ A3.out).mono ?_); rintro e w20 ⟨rfl, hb⟩; refine ⟨_, rfl, ?_⟩; have n0_ := Aside0.mk (below_step (by repeat (first | (with_reducible first | exact HB.out | apply below_alloc | apply pw_below_drewN | apply below_drew1) | exact HB.out)) hb); clear HB; have HB := n0_; clear n0_; (try clear hb); (try clear hb2); (try clear hk); (try clear hi)))
              go_ret
              exact ⟨by first | rfl | (simp [errW_none, errW_some] <;> rfl) | (simp [*, errW_none, errW_some] <;> rfl), by repeat (first | (with_reducible first | exact HB.out | apply below_alloc | apply pw_below_drewN | apply below_drew1) | exact HB.out)⟩
          · rw [if_neg c8] at H
            have c8b0 : (t123 == 1) = false := beq_eq_false_iff_ne.mpr c8
            have c8b1 : (t123 != 1) = true := bne_iff_ne.mpr c8
            obtain rfl := Option.some.inj H
            go_enter Try.func22, Try.ntmps22
            go_wp2_with (first | ((with_reducible refine gate_callee (f := 23) rfl ?_); refine goesL_ (some 9) rfl rfl Try.func23 (by kernel_rfl) rfl #[.int .i64 0, .int .u8 129, .int .u8 0] rfl (by (try simp only [List.map_toArray, List.map_cons, List.map_nil]); first | done | rfl | (simp only [List.length_drop, List.length_take]; rfl)) ?_; (with_reducible refine (shift_Do.calls 0 129 0 t119 t120 _ A1.out).mono ?_); rintro e w21 ⟨rfl, hb⟩; refine ⟨_, rfl, ?_⟩; have n0_ := Aside0.mk (below_step (by repeat (first | (with_reducible first | exact HB.out | apply below_alloc | apply pw_below_drewN | apply below_drew1) | exact HB.out)) hb); clear HB; have HB := n0_; clear n0_; (try clear hb); (try clear hb2); (try clear hk); (try clear hi)) | ((with_reducible refine gate_callee (f := 27) rfl ?_); refine goesL_ (some 13) rfl rfl Try.func27 (by kernel_rfl) rfl #[.bool false, .int .u8 18, .int .u8 52, .int .u8 1] rfl (by (try simp only [List.map_toArray, List.map_cons, List.map_nil]); first | done | rfl | (simp only [List.length_drop, List.length_take]; rfl)) ?_; (with_reducible refine (shift_Digit.calls false 18 52 1 t121 t122 t123 _ A2.out).mono ?_); rintro e w22 ⟨rfl, hb⟩; refine ⟨_, rfl, ?_⟩; have n0_ := Aside0.mk (below_step (by repeat (first | (with_reducible first | exact HB.out | apply below_alloc | apply pw_below_drewN | apply below_drew1) | exact HB.out)) hb); clear HB; have HB := n0_; clear n0_; (try clear hb); (try clear hb2); (try clear hk); (try clear hi)) | ((with_reducible refine gate_callee (f := 25) rfl ?_); refine goesL_ (some 18) rfl rfl Try.func25 (by kernel_rfl) rfl #[.int .i64 1, .int .u8 1, .int .u8 64] rfl (by (try simp only [List.map_toArray, List.map_cons, List.map_nil]); first | done | rfl | (simp only [List.length_drop, List.length_take]; rfl)) ?_; (with_reducible refine (shift_Acc.calls 1 1 64 t124 t125 _ A3.out).mono ?_); rintro e w23 ⟨rfl, hb⟩; refine ⟨_, rfl, ?_⟩; have n0_ := Aside0.mk (below_step (by repeat (first | (with_reducible first | exact HB.out | apply below_alloc | apply pw_below_drewN | apply below_drew1) | exact HB.out)) hb); clear HB; have HB := n0_; clear n0_; (try clear hb); (try clear hb2); (try clear hk); (try clear hi)))
            go_ret
            exact ⟨by first | rfl | (simp [errW_none, errW_some] <;> rfl) | (simp [*, errW_none, errW_some] <;> rfl), by repeat (first | (with_reducible first | exact HB.out | apply below_alloc | apply pw_below_drewN | apply below_drew1) | exact HB.out)⟩
        · rw [if_neg c7] at H
          have c7b0 : (t122 == 66) = false := beq_eq_false_iff_ne.mpr c7
          have c7b1 : (t122 != 66) = true := bne_iff_ne.mpr c7
          obtain rfl := Option.some.inj H
          go_enter Try.func22, Try.ntmps22
          go_wp2_with (first | ((with_reducible refine gate_callee (f := 23) rfl ?_); refine goesL_ (some 9) rfl rfl Try.func23 (by kernel_rfl) rfl #[.int .i64 0, .int .u8 129, .int .u8 0] rfl (by (try simp only [List.map_toArray, List.map_cons, List.map_nil]); first | done | rfl | (simp only [List.length_drop, List.length_take]; rfl)) ?_; (with_reducible refine (shift_Do.calls 0 129 0 t119 t120 _ A1.out).mono ?_); rintro e w24 ⟨rfl, hb⟩; refine ⟨_, rfl, ?_⟩; have n0_ := Aside0.mk (below_step (by repeat (first | (with_reducible first | exact HB.out | apply below_alloc | apply pw_below_drewN | apply below_drew1) | exact HB.out)) hb); clear HB; have HB := n0_; clear n0_; (try clear hb); (try clear hb2); (try clear hk); (try clear hi)) | ((with_reducible refine gate_callee (f := 27) rfl ?_); refine goesL_ (some 13) rfl rfl Try.func27 (by kernel_rfl) rfl #[.bool false, .int .u8 18, .int .u8 52, .int .u8 1] rfl (by (try simp only [List.map_toArray, List.map_cons, List.map_nil]); first | done | rfl | (simp only [List.length_drop, List.length_take]; rfl)) ?_; (with_reducible refine (shift_Digit.calls false 18 52 1 t121 t122 t123 _ A2.out).mono ?_); rintro e w25 ⟨rfl, hb⟩; refine ⟨_, rfl, ?_⟩; have n0_ := Aside0.mk (below_step (by repeat (first | (with_reducible first | exact HB.out | apply below_alloc | apply pw_below_drewN | apply below_drew1) | exact HB.out)) hb); clear HB; have HB := n0_; clear n0_; (try clear hb); (try clear hb2); (try clear hk); (try clear hi)) | ((with_reducible refine gate_callee (f := 25) rfl ?_); refine goesL_ (some 18) rfl rfl Try.func25 (by kernel_rfl) rfl #[.int .i64 1, .int .u8 1, .int .u8 64] rfl (by (try simp only [List.map_toArray, List.map_cons, List.map_nil]); first | done | rfl | (simp only [List.length_drop, List.length_take]; rfl)) ?_; (with_reducible refine (shift_Acc.calls 1 1 64 t124 t125 _ A3.out).mono ?_); rintro e w26 ⟨rfl, hb⟩; refine ⟨_, rfl, ?_⟩; have n0_ := Aside0.mk (below_step (by repeat (first | (with_reducible first | exact HB.out | apply below_alloc | apply pw_below_drewN | apply below_drew1) | exact HB.out)) hb); clear HB; have HB := n0_; clear n0_; (try clear hb); (try clear hb2); (try clear hk); (try clear hi)))
          go_ret
          exact ⟨by first | rfl | (simp [errW_none, errW_some] <;> rfl) | (simp [*, errW_none, errW_some] <;> rfl), by repeat (first | (with_reducible first | exact HB.out | apply below_alloc | apply pw_below_drewN | apply below_drew1) | exact HB.out)⟩
      · rw [if_neg c6] at H
        have c6b0 : (t121 == 19) = false := beq_eq_false_iff_ne.mpr c6
        have c6b1 : (t121 != 19) = true := bne_iff_ne.mpr c6
        obtain rfl := Option.some.inj H
        go_enter Try.func22, Try.ntmps22
        go_wp2_with (first | ((with_reducible refine gate_callee (f := 23) rfl ?_); refine goesL_ (some 9) rfl rfl Try.func23 (by kernel_rfl) rfl #[.int .i64 0, .int .u8 129, .int .u8 0] rfl (by (try simp only [List.map_toArray, List.map_cons, List.map_nil]); first | done | rfl | (simp only [List.length_drop, List.length_take]; rfl)) ?_; (with_reducible refine (shift_Do.calls 0 129 0 t119 t120 _ A1.out).mono ?_); rintro e w27 ⟨rfl, hb⟩; refine ⟨_, rfl, ?_⟩; have n0_ := Aside0.mk (below_step (by repeat (first | (with_reducible first | exact HB.out | apply below_alloc | apply pw_below_drewN | apply below_drew1) | exact HB.out)) hb); clear HB; have HB := n0_; clear n0_; (try clear hb); (try clear hb2); (try clear hk); (try clear hi)) | ((with_reducible refine gate_callee (f := 27) rfl ?_); refine goesL_ (some 13) rfl rfl Try.func27 (by kernel_rfl) rfl #[.bool false, .int .u8 18, .int .u8 52, .int .u8 1] rfl (by (try simp only [List.map_toArray, List.map_cons, List.map_nil]); first | done | rfl | (simp only [List.length_drop, List.length_take]; rfl)) ?_; (with_reducible refine (shift_Digit.calls false 18 52 1 t121 t122 t123 _ A2.out).mono ?_); rintro e w28 ⟨rfl, hb⟩; refine ⟨_, rfl, ?_⟩; have n0_ := Aside0.mk (below_step (by repeat (first | (with_reducible first | exact HB.out | apply below_alloc | apply pw_below_drewN | apply below_drew1) | exact HB.out)) hb); clear HB; have HB := n0_; clear n0_; (try clear hb); (try clear hb2); (try clear hk); (try clear hi)) | ((with_reducible refine gate_callee (f := 25) rfl ?_); refine goesL_ (some 18) rfl rfl Try.func25 (by kernel_rfl) rfl #[.int .i64 1, .int .u8 1, .int .u8 64] rfl (by (try simp only [List.map_toArray, List.map_cons, List.map_nil]); first | done | rfl | (simp only [List.length_drop, List.length_take]; rfl)) ?_; (with_reducible refine (shift_Acc.calls 1 1 64 t124 t125 _ A3.out).mono ?_); rintro e w29 ⟨rfl, hb⟩; refine ⟨_, rfl, ?_⟩; have n0_ := Aside0.mk (below_step (by repeat (first | (with_reducible first | exact HB.out | apply below_alloc | apply pw_below_drewN | apply below_drew1) | exact HB.out)) hb); clear HB; have HB := n0_; clear n0_; (try clear hb); (try clear hb2); (try clear hk); (try clear hi)))
        go_ret
        exact ⟨by first | rfl | (simp [errW_none, errW_some] <;> rfl) | (simp [*, errW_none, errW_some] <;> rfl), by repeat (first | (with_reducible first | exact HB.out | apply below_alloc | apply pw_below_drewN | apply below_drew1) | exact HB.out)⟩
    · rw [if_neg c5] at H
      have c5b0 : (t120 == 5) = false := beq_eq_false_iff_ne.mpr c5
      have c5b1 : (t120 != 5) = true := bne_iff_ne.mpr c5
      obtain rfl := Option.some.inj H
      go_enter Try.func22, Try.ntmps22
      go_wp2_with (first | ((with_reducible refine gate_callee (f := 23) rfl ?_); refine goesL_ (some 9) rfl rfl Try.func23 (by kernel_rfl) rfl #[.int .i64 0, .int .u8 129, .int .u8 0] rfl (by (try simp only [List.map_toArray, List.map_cons, List.map_nil]); first | done | rfl | (simp only [List.length_drop, List.length_take]; rfl)) ?_; (with_reducible refine (shift_Do.calls 0 129 0 t119 t120 _ A1.out).mono ?_); rintro e w30 ⟨rfl, hb⟩; refine ⟨_, rfl, ?_⟩; have n0_ := Aside0.mk (below_step (by repeat (first | (with_reducible first | exact HB.out | apply below_alloc | apply pw_below_drewN | apply below_drew1) | exact HB.out)) hb); clear HB; have HB := n0_; clear n0_; (try clear hb); (try clear hb2); (try clear hk); (try clear hi)) | ((with_reducible refine gate_callee (f := 27) rfl ?_); refine goesL_ (some 13) rfl rfl Try.func27 (by kernel_rfl) rfl #[.bool false, .int .u8 18, .int .u8 52, .int .u8 1] rfl (by (try simp only [List.map_toArray, List.map_cons, List.map_nil]); first | done | rfl | (simp only [List.length_drop, List.length_take]; rfl)) ?_; (with_reducible refine (shift_Digit.calls false 18 52 1 t121 t122 t123 _ A2.out).mono ?_); rintro e w31 ⟨rfl, hb⟩; refine ⟨_, rfl, ?_⟩; have n0_ := Aside0.mk (below_step (by repeat (first | (with_reducible first | exact HB.out | apply below_alloc | apply pw_below_drewN | apply below_drew1) | exact HB.out)) hb); clear HB; have HB := n0_; clear n0_; (try clear hb); (try clear hb2); (try clear hk); (try clear hi)) | ((with_reducible refine gate_callee (f := 25) rfl ?_); refine goesL_ (some 18) rfl rfl Try.func25 (by kernel_rfl) rfl #[.int .i64 1, .int .u8 1, .int .u8 64] rfl (by (try simp only [List.map_toArray, List.map_cons, List.map_nil]); first | done | rfl | (simp only [List.length_drop, List.length_take]; rfl)) ?_; (with_reducible refine (shift_Acc.calls 1 1 64 t124 t125 _ A3.out).mono ?_); rintro e w32 ⟨rfl, hb⟩; refine ⟨_, rfl, ?_⟩; have n0_ := Aside0.mk (below_step (by repeat (first | (with_reducible first | exact HB.out | apply below_alloc | apply pw_below_drewN | apply below_drew1) | exact HB.out)) hb); clear HB; have HB := n0_; clear n0_; (try clear hb); (try clear hb2); (try clear hk); (try clear hi)))
      go_ret
      exact ⟨by first | rfl | (simp [errW_none, errW_some] <;> rfl) | (simp [*, errW_none, errW_some] <;> rfl), by repeat (first | (with_reducible first | exact HB.out | apply below_alloc | apply pw_below_drewN | apply below_drew1) | exact HB.out)⟩
  · rw [if_neg c4] at H
    have c4b0 : (t119 == 3) = false := beq_eq_false_iff_ne.mpr c4
    have c4b1 : (t119 != 3) = true := bne_iff_ne.mpr c4
    obtain rfl := Option.some.inj H
    go_enter Try.func22, Try.ntmps22
    go_wp2_with (first | ((with_reducible refine gate_callee (f := 23) rfl ?_); refine goesL_ (some 9) rfl rfl Try.func23 (by kernel_rfl) rfl #[.int .i64 0, .int .u8 129, .int .u8 0] rfl (by (try simp only [List.map_toArray, List.map_cons, List.map_nil]); first | done | rfl | (simp only [List.length_drop, List.length_take]; rfl)) ?_; (with_reducible refine (shift_Do.calls 0 129 0 t119 t120 _ A1.out).mono ?_); rintro e w33 ⟨rfl, hb⟩; refine ⟨_, rfl, ?_⟩; have n0_ := Aside0.mk (below_step (by repeat (first | (with_reducible first | exact HB.out | apply below_alloc | apply pw_below_drewN | apply below_drew1) | exact HB.out)) hb); clear HB; have HB := n0_; clear n0_; (try clear hb); (try clear hb2); (try clear hk); (try clear hi)) | ((with_reducible refine gate_callee (f := 27) rfl ?_); refine goesL_ (some 13) rfl rfl Try.func27 (by kernel_rfl) rfl #[.bool false, .int .u8 18, .int .u8 52, .int .u8 1] rfl (by (try simp only [List.map_toArray, List.map_cons, List.map_nil]); first | done | rfl | (simp only [List.length_drop, List.length_take]; rfl)) ?_; (with_reducible refine (shift_Digit.calls false 18 52 1 t121 t122 t123 _ A2.out).mono ?_); rintro e w34 ⟨rfl, hb⟩; refine ⟨_, rfl, ?_⟩; have n0_ := Aside0.mk (below_step (by repeat (first | (with_reducible first | exact HB.out | apply below_alloc | apply pw_below_drewN | apply below_drew1) | exact HB.out)) hb); clear HB; have HB := n0_; clear n0_; (try clear hb); (try clear hb2); (try clear hk); (try clear hi)) | ((with_reducible refine gate_callee (f := 25) rfl ?_); refine goesL_ (some 18) rfl rfl Try.func25 (by kernel_rfl) rfl #[.int .i64 1, .int .u8 1, .int .u8 64] rfl (by (try simp only [List.map_toArray, List.map_cons, List.map_nil]); first | done | rfl | (simp only [List.length_drop, List.length_take]; rfl)) ?_; (with_reducible refine (shift_Acc.calls 1 1 64 t124 t125 _ A3.out).mono ?_); rintro e w35 ⟨rfl, hb⟩; refine ⟨_, rfl, ?_⟩; have n0_ := Aside0.mk (below_step (by repeat (first | (with_reducible first | exact HB.out | apply below_alloc | apply pw_below_drewN | apply below_drew1) | exact HB.out)) hb); clear HB; have HB := n0_; clear n0_; (try clear hb); (try clear hb2); (try clear hk); (try clear hi)))
    go_ret
    exact ⟨by first | rfl | (simp [errW_none, errW_some] <;> rfl) | (simp [*, errW_none, errW_some] <;> rfl), by repeat (first | (with_reducible first | exact HB.out | apply below_alloc | apply pw_below_drewN | apply below_drew1) | exact HB.out)⟩

/-! ### charabancref01_Power: function 49 -/
def charabancref01_Power.l0 : Nat → Int → Int → Int → Option (Int)
  | 0, _, _, _ => none
  | k + 1, x0, x3, x4 => if x4 < x0 then (charabancref01_Power.l0 k x0 (wrap64 (x3 * 2)) (wrap64 (x4 + 1))) else (some x3)
def charabancref01_Power.f (k : Nat) (a0 : Int) : Option (Int) := charabancref01_Power.l0 k a0 1 0
theorem charabancref01_Power.mono_l : ∀ k, (∀ y0 y1 y2, LeO (charabancref01_Power.l0 k y0 y1 y2) (charabancref01_Power.l0 (k + 1) y0 y1 y2))
  | 0 => fun _ _ _ r h => by simp [charabancref01_Power.l0] at h
  | k + 1 => by
    have ih0 := charabancref01_Power.mono_l k
    · intro y0 y1 y2
      unfold charabancref01_Power.l0
      repeat' first
      | (with_reducible exact ih0 _ _ _)
      | (with_reducible exact LeO.refl _)
      | (with_reducible exact LeO.none _)
      | (with_reducible refine LeO.ite ?_ ?_)
      | (with_reducible refine LeO.bind ?_ (fun _ => ?_))
      | exact ih0 _ _ _
      | exact LeO.none _
      | refine LeO.ite ?_ ?_
      | refine LeO.bind ?_ (fun _ => ?_)
theorem charabancref01_Power.mono : ∀ a0 k, LeO (charabancref01_Power.f k a0) (charabancref01_Power.f (k + 1) a0) := by
  intro a0 k
  have ih0 := charabancref01_Power.mono_l k
  unfold charabancref01_Power.f
  repeat' first
      | (with_reducible exact ih0 _ _ _)
      | (with_reducible exact LeO.refl _)
      | (with_reducible exact LeO.none _)
      | (with_reducible refine LeO.ite ?_ ?_)
      | (with_reducible refine LeO.bind ?_ (fun _ => ?_))
      | exact ih0 _ _ _
      | exact LeO.none _
      | refine LeO.ite ?_ ?_
      | refine LeO.bind ?_ (fun _ => ?_)
set_option maxHeartbeats 8000000 in
set_option maxRecDepth 100000 in
theorem charabancref01_Power.calls (k : Nat) (a0 : Int) (r : Int) (w : World) (h : charabancref01_Power.f k a0 = some r) :
    Calls Try.prog 49 #[.int .i64 a0] w fun e w' => e = .returned (.int .i64 r) ∧ Drawn0 w w' := by
  have H : (charabancref01_Power.l0 k a0 1 0) = some r := h
  clear h
  have H' := Aside0.mk H
  clear H
  go_enter Try.func49, Try.ntmps49
  go_wp2
  go_loopg [3, 4] k (fun kq v3 v4 w' => ∃ (x3_1 : Int) (x4_1 : Int), v3 = .int .i64 x3_1 ∧ v4 = .int .i64 x4_1 ∧ Aside0 (charabancref01_Power.l0 kq a0 x3_1 x4_1 = some r) ∧ Aside0 (kq ≤ k) ∧ Drawn0 w w')
  case atStart => exact ⟨(1), (0), (by first | rfl | (simp; done) | (simp [*]; done)), (by first | rfl | (simp; done) | (simp [*]; done)), H', ⟨Nat.le_refl _⟩, by repeat (first | exact Drawn0.refl _ | apply Drawn0.step)⟩
  case round =>
    clear H'
    obtain ⟨x3_1, x4_1, rfl, rfl, HA, HK1, ⟨m1, rfl⟩⟩ := hrel
    cases gk with
    | zero => exact absurd HA.out (by simp [charabancref01_Power.l0])
    | succ k1 =>
      have H := HA.out
      clear HA
      simp only [charabancref01_Power.l0] at H
      by_cases c2 : x4_1 < a0
      · rw [if_pos c2] at H
        have c2b0 : decide (x4_1 < a0) = true := decide_eq_true c2
        clear c2
        have H' := Aside0.mk H
        clear H
        go_wp2
        go_roundg k1
        case measure => have := HK1.out; omega
        case rel => exact ⟨(wrap64 (x3_1 * 2)), (wrap64 (x4_1 + 1)), (by first | rfl | (simp; done) | (simp [*]; done)), (by first | rfl | (simp; done) | (simp [*]; done)), H', ⟨by have := HK1.out; omega⟩, by repeat (first | exact Drawn0.refl _ | apply Drawn0.step)⟩
      · rw [if_neg c2] at H
        have c2b0 : decide (x4_1 < a0) = false := decide_eq_false c2
        clear c2
        obtain rfl := Option.some.inj H
        go_wp2
        go_ret
        exact ⟨by first | rfl | (simp; done) | (simp [*]; done), by repeat (first | exact Drawn0.refl _ | apply Drawn0.step)⟩

/-! ### charabancref01_Is: function 34 -/
def charabancref01_Is.f (k : Nat) (a0 : Int) (a1 : Int) : Option (Bool) := if a1 < 0 then (some false) else (if a1 > 7 then (some false) else ((charabancref01_Power.f k a1).bind fun t127 => (if t127 = 0 then (none) else (some ((Int.tmod (wrap64 (Int.tdiv (wrap64 (a0)) t127)) 2) == 1)))))
theorem charabancref01_Is.mono : ∀ a0 a1 k, LeO (charabancref01_Is.f k a0 a1) (charabancref01_Is.f (k + 1) a0 a1) := by
  intro a0 a1 k
  unfold charabancref01_Is.f
  repeat' first
      | (with_reducible exact charabancref01_Power.mono _ _)
      | (with_reducible exact LeO.refl _)
      | (with_reducible exact LeO.none _)
      | (with_reducible refine LeO.ite ?_ ?_)
      | (with_reducible refine LeO.bind ?_ (fun _ => ?_))
      | exact charabancref01_Power.mono _ _
      | exact LeO.none _
      | refine LeO.ite ?_ ?_
      | refine LeO.bind ?_ (fun _ => ?_)
set_option maxHeartbeats 8000000 in
set_option maxRecDepth 100000 in
theorem charabancref01_Is.calls (k : Nat) (a0 : Int) (a1 : Int) (r : Bool) (w : World) (h : charabancref01_Is.f k a0 a1 = some r) :
    Calls Try.prog 34 #[.int .u8 a0, .int .i64 a1] w fun e w' => e = .returned (.bool r) ∧ Drawn0 w w' := by
  have H : (if a1 < 0 then (some false) else (if a1 > 7 then (some false) else ((charabancref01_Power.f k a1).bind fun t127 => (if t127 = 0 then (none) else (some ((Int.tmod (wrap64 (Int.tdiv (wrap64 (a0)) t127)) 2) == 1)))))) = some r := h
  clear h
  by_cases c3 : a1 < 0
  · rw [if_pos c3] at H
    have c3b0 : decide (a1 < 0) = true := decide_eq_true c3
    clear c3
    obtain rfl := Option.some.inj H
    go_enter Try.func34, Try.ntmps34
    go_wp2
    go_ret
    exact ⟨by first | rfl | (simp; done) | (simp [*]; done), by repeat (first | exact Drawn0.refl _ | apply Drawn0.step)⟩
  · rw [if_neg c3] at H
    have c3b0 : decide (a1 < 0) = false := decide_eq_false c3
    clear c3
    by_cases c4 : a1 > 7
    · rw [if_pos c4] at H
      have c4b0 : decide (7 < a1) = true := decide_eq_true c4
      clear c4
      obtain rfl := Option.some.inj H
      go_enter Try.func34, Try.ntmps34
      go_wp2
      go_ret
      exact ⟨by first | rfl | (simp; done) | (simp [*]; done), by repeat (first | exact Drawn0.refl _ | apply Drawn0.step)⟩
    · rw [if_neg c4] at H
      have c4b0 : decide (7 < a1) = false := decide_eq_false c4
      clear c4
      replace H := Option.bind_eq_some_iff.mp H
      obtain ⟨t127, A50, H⟩ := H
      replace H : (if t127 = 0 then (none) else (some ((Int.tmod (wrap64 (Int.tdiv (wrap64 (a0)) t127)) 2) == 1))) = some r := H
      have A5 := Aside0.mk A50
      clear A50
      by_cases c6 : t127 = 0
      · rw [if_pos c6] at H
        exact absurd H (by simp)
      · rw [if_neg c6] at H
        have c6b0 : (t127 == 0) = false := beq_eq_false_iff_ne.mpr c6
        have c6b1 : (t127 != 0) = true := bne_iff_ne.mpr c6
        obtain rfl := Option.some.inj H
        go_enter Try.func34, Try.ntmps34
        go_wp2_with (first | ((with_reducible refine gate_callee (f := 49) rfl ?_); refine goesL_ (some 14) rfl rfl Try.func49 (by kernel_rfl) rfl #[.int .i64 a1] rfl (by (try simp only [List.map_toArray, List.map_cons, List.map_nil]); first | done | rfl | (simp only [List.length_drop, List.length_take]; rfl)) ?_; (with_reducible refine (charabancref01_Power.calls k a1 t127 _ A5.out).mono ?_); rintro e w' ⟨rfl, ⟨nd, rfl⟩⟩; refine ⟨_, rfl, ?_⟩))
        go_ret
        exact ⟨by first | rfl | (simp; done) | (simp [*]; done), by repeat (first | exact Drawn0.refl _ | apply Drawn0.step)⟩

end Go.Proofs.Ytkphidaoodedjaa.PT
