/- Written by a program of this session out of the translation and the contracts proved by hand: each function's answer and its proof; each law's statement over plain numbers. -/
import Derived.Test.YthidmlnoiginiaaPSx0
namespace Go.Proofs.Ythidmlnoiginiaa.PS
open Go.RowKit Go.Proofs.YthidmlnoiginiaaW.PrintWords Go.Proofs.YthidmlnoiginiaaW.PrintLast Go.Proofs.YthidmlnoiginiaaW.PrintMore
attribute [local go_sem] max2_int min2_int max_two min_two max_three min_three max_four min_four   -- for this text's walks alone
set_option linter.unusedVariables false
set_option linter.unusedSimpArgs false

/-! ### sum_one_uint16: function 62 -/
def sum_one_uint16.f (a0 : Bool) : Option (Int) := if a0 = true then (some 1) else (some 0)
set_option maxHeartbeats 8000000 in
set_option maxRecDepth 100000 in
theorem sum_one_uint16.calls (a0 : Bool) (r : Int) (w : World) (h : sum_one_uint16.f a0 = some r) :
    Calls Try.prog 62 #[.bool a0] w fun e w' => e = .returned (.int .u16 r) ∧ Drawn0 w w' := by
  have H : (if a0 = true then (some 1) else (some 0)) = some r := h
  clear h
  by_cases c2 : a0 = true
  · subst c2
    have H1 : (some 1) = some r := by rw [if_pos rfl] at H; exact H
    clear H
    have H := H1
    clear H1
    obtain rfl := Option.some.inj H
    go_enter Try.func62, Try.ntmps62
    go_wp2
    go_ret
    exact ⟨by first | rfl | (simp; done) | (simp [*]; done), by repeat (first | exact Drawn0.refl _ | apply Drawn0.step)⟩
  · replace c2 := Bool.eq_false_iff.mpr c2
    subst c2
    have H1 : (some 0) = some r := by rw [if_neg (show ¬ (false = true) by decide)] at H; exact H
    clear H
    have H := H1
    clear H1
    obtain rfl := Option.some.inj H
    go_enter Try.func62, Try.ntmps62
    go_wp2
    go_ret
    exact ⟨by first | rfl | (simp; done) | (simp [*]; done), by repeat (first | exact Drawn0.refl _ | apply Drawn0.step)⟩

/-! ### sum_all: function 63 -/
def sum_all.l0 : Nat → Int → List Int → Int → Int → Option (Int)
  | 0, _, _, _, _ => none
  | k + 1, x3, x6, x7, x8 => if x8 < x7 then (if 0 ≤ x8 then (if x8 < (x6.length : Int) then (sum_all.l0 k (Go.bits .or .u8 x3 (rd x6 x8)) x6 x7 (wrap64 (x8 + 1))) else (none)) else (none)) else (some x3)
def sum_all.f (k : Nat) (l0 : List Int) : Option (Int) := sum_all.l0 k 0 l0 (l0.length : Int) 0
theorem sum_all.mono_l : ∀ k, (∀ y0 y1 y2 y3, LeO (sum_all.l0 k y0 y1 y2 y3) (sum_all.l0 (k + 1) y0 y1 y2 y3))
  | 0 => fun _ _ _ _ r h => by simp [sum_all.l0] at h
  | k + 1 => by
    have ih0 := sum_all.mono_l k
    · intro y0 y1 y2 y3
      unfold sum_all.l0
      repeat' first
      | (with_reducible exact ih0 _ _ _ _)
      | (with_reducible exact LeO.refl _)
      | (with_reducible exact LeO.none _)
      | (with_reducible refine LeO.ite ?_ ?_)
      | (with_reducible refine LeO.bind ?_ (fun _ => ?_))
      | exact ih0 _ _ _ _
      | exact LeO.none _
      | refine LeO.ite ?_ ?_
      | refine LeO.bind ?_ (fun _ => ?_)
theorem sum_all.mono : ∀ a0 k, LeO (sum_all.f k a0) (sum_all.f (k + 1) a0) := by
  intro a0 k
  have ih0 := sum_all.mono_l k
  unfold sum_all.f
  repeat' first
      | (with_reducible exact ih0 _ _ _ _)
      | (with_reducible exact LeO.refl _)
      | (with_reducible exact LeO.none _)
      | (with_reducible refine LeO.ite ?_ ?_)
      | (with_reducible refine LeO.bind ?_ (fun _ => ?_))
      | exact ih0 _ _ _ _
      | exact LeO.none _
      | refine LeO.ite ?_ ?_
      | refine LeO.bind ?_ (fun _ => ?_)
set_option maxHeartbeats 8000000 in
set_option maxRecDepth 100000 in
theorem sum_all.calls (k : Nat) (A0 : Option Addr) (c0 : Nat) (l0 : List Int) (r : Int) (w : World) (hr0 : Kd.C (Kd.int .u8) w A0 l0.length l0) (hc0 : l0.length ≤ c0) (h : sum_all.f k l0 = some r) :
    Calls Try.prog 63 #[.slice A0 l0.length c0] w fun e w' => e = .returned (.int .u8 r) ∧ Drawn0 w w' := by
  have HR0 := Aside0.mk hr0
  have HC0 := Aside0.mk hc0
  clear hr0 hc0
  have H : (sum_all.l0 k 0 l0 (l0.length : Int) 0) = some r := h
  clear h
  have H' := Aside0.mk H
  clear H
  go_enter Try.func63, Try.ntmps63
  go_wp2
  go_loopg [3, 8] k (fun kq v3 v8 w' => ∃ (x3_1 : Int) (x8_1 : Int), v3 = .int .u8 x3_1 ∧ v8 = .int .i64 x8_1 ∧ Aside0 (sum_all.l0 kq x3_1 l0 (l0.length : Int) x8_1 = some r) ∧ Aside0 (kq ≤ k) ∧ Drawn0 w w')
  case atStart => exact ⟨(0), (0), (by first | rfl | (simp; done) | (simp [*]; done)), (by first | rfl | (simp; done) | (simp [*]; done)), H', ⟨Nat.le_refl _⟩, by repeat (first | exact Drawn0.refl _ | apply Drawn0.step)⟩
  case round =>
    clear H'
    obtain ⟨x3_1, x8_1, rfl, rfl, HA, HK1, ⟨m1, rfl⟩⟩ := hrel
    cases gk with
    | zero => exact absurd HA.out (by simp [sum_all.l0])
    | succ k1 =>
      have H := HA.out
      clear HA
      simp only [sum_all.l0] at H
      by_cases c2 : x8_1 < (l0.length : Int)
      · rw [if_pos c2] at H
        have c2b0 : decide (x8_1 < (l0.length : Int)) = true := decide_eq_true c2
        clear c2
        by_cases c3 : 0 ≤ x8_1
        · rw [if_pos c3] at H
          have c3b0 : decide (0 ≤ x8_1) = true := decide_eq_true c3
          clear c3
          by_cases c4 : x8_1 < (l0.length : Int)
          · rw [if_pos c4] at H
            have c4b0 : decide (x8_1 < (l0.length : Int)) = true := decide_eq_true c4
            clear c4
            have H' := Aside0.mk H
            clear H
            have p101 : 0 ≤ (x8_1 : Int) := of_decide_eq_true (by first | (with_reducible assumption) | assumption)
            have q101 : x8_1 < (l0.length : Int) := of_decide_eq_true (by first | (with_reducible assumption) | assumption)
            obtain ⟨ad101, e101, hx101_0⟩ := Kd.at_int HR0.out x8_1 p101 q101
            cases e101
            replace p101 := eq_true p101
            replace q101 := eq_true q101
            go_wp2
            go_roundg k1
            case measure => have := HK1.out; omega
            case rel => exact ⟨(Go.bits .or .u8 x3_1 (rd l0 x8_1)), (wrap64 (x8_1 + 1)), (by first | rfl | (simp; done) | (simp [*]; done)), (by first | rfl | (simp; done) | (simp [*]; done)), H', ⟨by have := HK1.out; omega⟩, by repeat (first | exact Drawn0.refl _ | apply Drawn0.step)⟩
          · rw [if_neg c4] at H
            exact absurd H (by simp)
        · rw [if_neg c3] at H
          exact absurd H (by simp)
      · rw [if_neg c2] at H
        have c2b0 : decide (x8_1 < (l0.length : Int)) = false := decide_eq_false c2
        clear c2
        obtain rfl := Option.some.inj H
        go_wp2
        go_ret
        exact ⟨by first | rfl | (simp; done) | (simp [*]; done), by repeat (first | exact Drawn0.refl _ | apply Drawn0.step)⟩

/-! ### flags_Result: function 64 -/
def flags_Result.f (a0 : Int) : Option (Int) := if a0 = 0 then (some 64) else (some (Go.bits .and .u8 a0 168))
set_option maxHeartbeats 8000000 in
set_option maxRecDepth 100000 in
theorem flags_Result.calls (a0 : Int) (r : Int) (w : World) (h : flags_Result.f a0 = some r) :
    Calls Try.prog 64 #[.int .u8 a0] w fun e w' => e = .returned (.int .u8 r) ∧ Drawn0 w w' := by
  have H : (if a0 = 0 then (some 64) else (some (Go.bits .and .u8 a0 168))) = some r := h
  clear h
  by_cases c2 : a0 = 0
  · rw [if_pos c2] at H
    have c2b0 : (a0 == 0) = true := beq_iff_eq.mpr c2
    have c2b1 : (a0 != 0) = false := bne_eq_false_iff_eq.mpr c2
    clear c2
    obtain rfl := Option.some.inj H
    go_enter Try.func64, Try.ntmps64
    go_wp2
    go_ret
    exact ⟨by first | rfl | (simp; done) | (simp [*]; done), by repeat (first | exact Drawn0.refl _ | apply Drawn0.step)⟩
  · rw [if_neg c2] at H
    have c2b0 : (a0 == 0) = false := beq_eq_false_iff_ne.mpr c2
    have c2b1 : (a0 != 0) = true := bne_iff_ne.mpr c2
    obtain rfl := Option.some.inj H
    go_enter Try.func64, Try.ntmps64
    go_wp2
    go_ret
    exact ⟨by first | rfl | (simp; done) | (simp [*]; done), by repeat (first | exact Drawn0.refl _ | apply Drawn0.step)⟩

/-! ### sum_one_uint8: function 78 -/
def sum_one_uint8.f (a0 : Bool) : Option (Int) := if a0 = true then (some 1) else (some 0)
set_option maxHeartbeats 8000000 in
set_option maxRecDepth 100000 in
theorem sum_one_uint8.calls (a0 : Bool) (r : Int) (w : World) (h : sum_one_uint8.f a0 = some r) :
    Calls Try.prog 78 #[.bool a0] w fun e w' => e = .returned (.int .u8 r) ∧ Drawn0 w w' := by
  have H : (if a0 = true then (some 1) else (some 0)) = some r := h
  clear h
  by_cases c2 : a0 = true
  · subst c2
    have H1 : (some 1) = some r := by rw [if_pos rfl] at H; exact H
    clear H
    have H := H1
    clear H1
    obtain rfl := Option.some.inj H
    go_enter Try.func78, Try.ntmps78
    go_wp2
    go_ret
    exact ⟨by first | rfl | (simp; done) | (simp [*]; done), by repeat (first | exact Drawn0.refl _ | apply Drawn0.step)⟩
  · replace c2 := Bool.eq_false_iff.mpr c2
    subst c2
    have H1 : (some 0) = some r := by rw [if_neg (show ¬ (false = true) by decide)] at H; exact H
    clear H
    have H := H1
    clear H1
    obtain rfl := Option.some.inj H
    go_enter Try.func78, Try.ntmps78
    go_wp2
    go_ret
    exact ⟨by first | rfl | (simp; done) | (simp [*]; done), by repeat (first | exact Drawn0.refl _ | apply Drawn0.step)⟩

/-! ### sum_when: function 65 -/
def sum_when.f (a0 : Bool) (a1 : Int) : Option (Int) := (sum_one_uint8.f a0).bind fun t102 => (some ((a1 * t102) % 256))
set_option maxHeartbeats 8000000 in
set_option maxRecDepth 100000 in
theorem sum_when.calls (a0 : Bool) (a1 : Int) (r : Int) (w : World) (h : sum_when.f a0 a1 = some r) :
    Calls Try.prog 65 #[.bool a0, .int .u8 a1] w fun e w' => e = .returned (.int .u8 r) ∧ Drawn0 w w' := by
  have H : ((sum_one_uint8.f a0).bind fun t102 => (some ((a1 * t102) % 256))) = some r := h
  clear h
  replace H := Option.bind_eq_some_iff.mp H
  obtain ⟨t102, A30, H⟩ := H
  replace H : (some ((a1 * t102) % 256)) = some r := H
  have A3 := Aside0.mk A30
  clear A30
  obtain rfl := Option.some.inj H
  go_enter Try.func65, Try.ntmps65
  go_wp2_with (first | ((with_reducible refine gate_callee (f := 78) rfl ?_); refine goesL_ (some 7) rfl rfl Try.func78 (by kernel_rfl) rfl #[.bool a0] rfl (by (try simp only [List.map_toArray, List.map_cons, List.map_nil]); first | done | rfl | (simp only [List.length_drop, List.length_take]; rfl)) ?_; (with_reducible refine (sum_one_uint8.calls a0 t102 _ A3.out).mono ?_); rintro e w' ⟨rfl, ⟨nd, rfl⟩⟩; refine ⟨_, rfl, ?_⟩))
  go_ret
  exact ⟨by first | rfl | (simp; done) | (simp [*]; done), by repeat (first | exact Drawn0.refl _ | apply Drawn0.step)⟩

/-! ### sum_Add: function 35 -/
def sum_Add.f (k : Nat) (a0 : Int) (a1 : Int) (a2 : Bool) : Option (Int × Int) := (sum_one_uint16.f a2).bind fun t103 => ((flags_Result.f ((IntKind.u16.wrap ((IntKind.u16.wrap ((IntKind.u16.wrap (a0)) + (IntKind.u16.wrap (a1)))) + t103)) % 256)).bind fun t104 => ((sum_when.f ((Go.bits .and .u8 (Go.bits .and .u8 (Go.bits .xor .u8 a0 ((IntKind.u16.wrap ((IntKind.u16.wrap ((IntKind.u16.wrap (a0)) + (IntKind.u16.wrap (a1)))) + t103)) % 256)) (Go.bits .xor .u8 a1 ((IntKind.u16.wrap ((IntKind.u16.wrap ((IntKind.u16.wrap (a0)) + (IntKind.u16.wrap (a1)))) + t103)) % 256))) 128) != 0) 4).bind fun t105 => ((sum_when.f (decide ((IntKind.u16.wrap ((IntKind.u16.wrap ((IntKind.u16.wrap (a0)) + (IntKind.u16.wrap (a1)))) + t103)) > 255)) 1).bind fun t106 => ((sum_all.f k (([t104, Go.bits .and .u8 (Go.bits .xor .u8 (Go.bits .xor .u8 a0 a1) ((IntKind.u16.wrap ((IntKind.u16.wrap ((IntKind.u16.wrap (a0)) + (IntKind.u16.wrap (a1)))) + t103)) % 256)) 16, t105, t106] : List Int))).bind fun t110 => (some ((IntKind.u16.wrap ((IntKind.u16.wrap ((IntKind.u16.wrap (a0)) + (IntKind.u16.wrap (a1)))) + t103)) % 256, t110))))))
theorem sum_Add.mono : ∀ a0 a1 a2 k, LeO (sum_Add.f k a0 a1 a2) (sum_Add.f (k + 1) a0 a1 a2) := by
  intro a0 a1 a2 k
  unfold sum_Add.f
  repeat' first
      | (with_reducible exact sum_all.mono _ _)
      | (with_reducible exact LeO.refl _)
      | (with_reducible exact LeO.none _)
      | (with_reducible refine LeO.ite ?_ ?_)
      | (with_reducible refine LeO.bind ?_ (fun _ => ?_))
      | exact sum_all.mono _ _
      | exact LeO.none _
      | refine LeO.ite ?_ ?_
      | refine LeO.bind ?_ (fun _ => ?_)
set_option maxHeartbeats 8000000 in
set_option maxRecDepth 100000 in
theorem sum_Add.calls (k : Nat) (a0 : Int) (a1 : Int) (a2 : Bool) (r1 : Int) (r2 : Int) (w : World) (h : sum_Add.f k a0 a1 a2 = some (r1, r2)) :
    Calls Try.prog 35 #[.int .u8 a0, .int .u8 a1, .bool a2] w fun e w' => e = .returned (.tuple #[.int .u8 r1, .int .u8 r2]) ∧ Below w.heap.size w w' := by
  have HB := Aside0.mk (Below.refl w.heap.size w)
  have H : ((sum_one_uint16.f a2).bind fun t103 => ((flags_Result.f ((IntKind.u16.wrap ((IntKind.u16.wrap ((IntKind.u16.wrap (a0)) + (IntKind.u16.wrap (a1)))) + t103)) % 256)).bind fun t104 => ((sum_when.f ((Go.bits .and .u8 (Go.bits .and .u8 (Go.bits .xor .u8 a0 ((IntKind.u16.wrap ((IntKind.u16.wrap ((IntKind.u16.wrap (a0)) + (IntKind.u16.wrap (a1)))) + t103)) % 256)) (Go.bits .xor .u8 a1 ((IntKind.u16.wrap ((IntKind.u16.wrap ((IntKind.u16.wrap (a0)) + (IntKind.u16.wrap (a1)))) + t103)) % 256))) 128) != 0) 4).bind fun t105 => ((sum_when.f (decide ((IntKind.u16.wrap ((IntKind.u16.wrap ((IntKind.u16.wrap (a0)) + (IntKind.u16.wrap (a1)))) + t103)) > 255)) 1).bind fun t106 => ((sum_all.f k (([t104, Go.bits .and .u8 (Go.bits .xor .u8 (Go.bits .xor .u8 a0 a1) ((IntKind.u16.wrap ((IntKind.u16.wrap ((IntKind.u16.wrap (a0)) + (IntKind.u16.wrap (a1)))) + t103)) % 256)) 16, t105, t106] : List Int))).bind fun t110 => (some ((IntKind.u16.wrap ((IntKind.u16.wrap ((IntKind.u16.wrap (a0)) + (IntKind.u16.wrap (a1)))) + t103)) % 256, t110))))))) = some (r1, r2) := h
  clear h
  replace H := Option.bind_eq_some_iff.mp H
  obtain ⟨t103, A40, H⟩ := H
  replace H : ((flags_Result.f ((IntKind.u16.wrap ((IntKind.u16.wrap ((IntKind.u16.wrap (a0)) + (IntKind.u16.wrap (a1)))) + t103)) % 256)).bind fun t104 => ((sum_when.f ((Go.bits .and .u8 (Go.bits .and .u8 (Go.bits .xor .u8 a0 ((IntKind.u16.wrap ((IntKind.u16.wrap ((IntKind.u16.wrap (a0)) + (IntKind.u16.wrap (a1)))) + t103)) % 256)) (Go.bits .xor .u8 a1 ((IntKind.u16.wrap ((IntKind.u16.wrap ((IntKind.u16.wrap (a0)) + (IntKind.u16.wrap (a1)))) + t103)) % 256))) 128) != 0) 4).bind fun t105 => ((sum_when.f (decide ((IntKind.u16.wrap ((IntKind.u16.wrap ((IntKind.u16.wrap (a0)) + (IntKind.u16.wrap (a1)))) + t103)) > 255)) 1).bind fun t106 => ((sum_all.f k (([t104, Go.bits .and .u8 (Go.bits .xor .u8 (Go.bits .xor .u8 a0 a1) ((IntKind.u16.wrap ((IntKind.u16.wrap ((IntKind.u16.wrap (a0)) + (IntKind.u16.wrap (a1)))) + t103)) % 256)) 16, t105, t106] : List Int))).bind fun t110 => (some ((IntKind.u16.wrap ((IntKind.u16.wrap ((IntKind.u16.wrap (a0)) + (IntKind.u16.wrap (a1)))) + t103)) % 256, t110)))))) = some (r1, r2) := H
  have A4 := Aside0.mk A40
  clear A40
  replace H := Option.bind_eq_some_iff.mp H
  obtain ⟨t104, A50, H⟩ := H
  replace H : ((sum_when.f ((Go.bits .and .u8 (Go.bits .and .u8 (Go.bits .xor .u8 a0 ((IntKind.u16.wrap ((IntKind.u16.wrap ((IntKind.u16.wrap (a0)) + (IntKind.u16.wrap (a1)))) + t103)) % 256)) (Go.bits .xor .u8 a1 ((IntKind.u16.wrap ((IntKind.u16.wrap ((IntKind.u16.wrap (a0)) + (IntKind.u16.wrap (a1)))) + t103)) % 256))) 128) != 0) 4).bind fun t105 => ((sum_when.f (decide ((IntKind.u16.wrap ((IntKind.u16.wrap ((IntKind.u16.wrap (a0)) + (IntKind.u16.wrap (a1)))) + t103)) > 255)) 1).bind fun t106 => ((sum_all.f k (([t104, Go.bits .and .u8 (Go.bits .xor .u8 (Go.bits .xor .u8 a0 a1) ((IntKind.u16.wrap ((IntKind.u16.wrap ((IntKind.u16.wrap (a0)) + (IntKind.u16.wrap (a1)))) + t103)) % 256)) 16, t105, t106] : List Int))).bind fun t110 => (some ((IntKind.u16.wrap ((IntKind.u16.wrap ((IntKind.u16.wrap (a0)) + (IntKind.u16.wrap (a1)))) + t103)) % 256, t110))))) = some (r1, r2) := H
  have A5 := Aside0.mk A50
  clear A50
  replace H := Option.bind_eq_some_iff.mp H
  obtain ⟨t105, A60, H⟩ := H
  replace H : ((sum_when.f (decide ((IntKind.u16.wrap ((IntKind.u16.wrap ((IntKind.u16.wrap (a0)) + (IntKind.u16.wrap (a1)))) + t103)) > 255)) 1).bind fun t106 => ((sum_all.f k (([t104, Go.bits .and .u8 (Go.bits .xor .u8 (Go.bits .xor .u8 a0 a1) ((IntKind.u16.wrap ((IntKind.u16.wrap ((IntKind.u16.wrap (a0)) + (IntKind.u16.wrap (a1)))) + t103)) % 256)) 16, t105, t106] : List Int))).bind fun t110 => (some ((IntKind.u16.wrap ((IntKind.u16.wrap ((IntKind.u16.wrap (a0)) + (IntKind.u16.wrap (a1)))) + t103)) % 256, t110)))) = some (r1, r2) := H
  have A6 := Aside0.mk A60
  clear A60
  replace H := Option.bind_eq_some_iff.mp H
  obtain ⟨t106, A70, H⟩ := H
  replace H : ((sum_all.f k (([t104, Go.bits .and .u8 (Go.bits .xor .u8 (Go.bits .xor .u8 a0 a1) ((IntKind.u16.wrap ((IntKind.u16.wrap ((IntKind.u16.wrap (a0)) + (IntKind.u16.wrap (a1)))) + t103)) % 256)) 16, t105, t106] : List Int))).bind fun t110 => (some ((IntKind.u16.wrap ((IntKind.u16.wrap ((IntKind.u16.wrap (a0)) + (IntKind.u16.wrap (a1)))) + t103)) % 256, t110))) = some (r1, r2) := H
  have A7 := Aside0.mk A70
  clear A70
  obtain ⟨y107, hy107⟩ : ∃ y_ : List Int, y_ = (([t104, Go.bits .and .u8 (Go.bits .xor .u8 (Go.bits .xor .u8 a0 a1) ((IntKind.u16.wrap ((IntKind.u16.wrap ((IntKind.u16.wrap (a0)) + (IntKind.u16.wrap (a1)))) + t103)) % 256)) 16, t105, t106] : List Int)) := ⟨_, rfl⟩
  replace H : ((sum_all.f k y107).bind fun t110 => (some ((IntKind.u16.wrap ((IntKind.u16.wrap ((IntKind.u16.wrap (a0)) + (IntKind.u16.wrap (a1)))) + t103)) % 256, t110))) = some (r1, r2) := by first | (rw [hy107]; with_reducible exact H) | (have H2_ := (Option.bind_some _ _).symm.trans H; rw [hy107]; with_reducible exact H2_) | (have H2_ := (Option.bind_some _ _).symm.trans H; with_reducible exact H2_) | with_reducible exact H | (rw [hy107]; exact H) | exact H
  have Ny107 := Aside0.mk hy107
  clear hy107
  replace H := Option.bind_eq_some_iff.mp H
  obtain ⟨t110, A80, H⟩ := H
  replace H : (some ((IntKind.u16.wrap ((IntKind.u16.wrap ((IntKind.u16.wrap (a0)) + (IntKind.u16.wrap (a1)))) + t103)) % 256, t110)) = some (r1, r2) := H
  have A8 := Aside0.mk A80
  clear A80
  simp only [Option.some.injEq, Prod.mk.injEq] at H
  obtain ⟨rfl, rfl⟩ := H
  go_enter Try.func35, Try.ntmps35
  go_wp2_with (first | ((with_reducible refine gate_callee (f := 62) rfl ?_); refine goesL_ (some 17) rfl rfl Try.func62 (by kernel_rfl) rfl #[.bool a2] rfl (by (try simp only [List.map_toArray, List.map_cons, List.map_nil]); first | done | rfl | (simp only [List.length_drop, List.length_take]; rfl)) ?_; (with_reducible refine (sum_one_uint16.calls a2 t103 _ A4.out).mono ?_); rintro e w' ⟨rfl, ⟨nd, rfl⟩⟩; refine ⟨_, rfl, ?_⟩) | ((with_reducible refine gate_callee (f := 64) rfl ?_); refine goesL_ (some 28) rfl rfl Try.func64 (by kernel_rfl) rfl #[.int .u8 ((IntKind.u16.wrap ((IntKind.u16.wrap ((IntKind.u16.wrap (a0)) + (IntKind.u16.wrap (a1)))) + t103)) % 256)] rfl (by (try simp only [List.map_toArray, List.map_cons, List.map_nil]); first | done | rfl | (simp only [List.length_drop, List.length_take]; rfl)) ?_; (with_reducible refine (flags_Result.calls ((IntKind.u16.wrap ((IntKind.u16.wrap ((IntKind.u16.wrap (a0)) + (IntKind.u16.wrap (a1)))) + t103)) % 256) t104 _ A5.out).mono ?_); rintro e w' ⟨rfl, ⟨nd, rfl⟩⟩; refine ⟨_, rfl, ?_⟩) | ((with_reducible refine gate_callee (f := 65) rfl ?_); refine goesL_ (some 40) rfl rfl Try.func65 (by kernel_rfl) rfl #[.bool ((Go.bits .and .u8 (Go.bits .and .u8 (Go.bits .xor .u8 a0 ((IntKind.u16.wrap ((IntKind.u16.wrap ((IntKind.u16.wrap (a0)) + (IntKind.u16.wrap (a1)))) + t103)) % 256)) (Go.bits .xor .u8 a1 ((IntKind.u16.wrap ((IntKind.u16.wrap ((IntKind.u16.wrap (a0)) + (IntKind.u16.wrap (a1)))) + t103)) % 256))) 128) != 0), .int .u8 4] rfl (by (try simp only [List.map_toArray, List.map_cons, List.map_nil]); first | done | rfl | (simp only [List.length_drop, List.length_take]; rfl)) ?_; (with_reducible refine (sum_when.calls ((Go.bits .and .u8 (Go.bits .and .u8 (Go.bits .xor .u8 a0 ((IntKind.u16.wrap ((IntKind.u16.wrap ((IntKind.u16.wrap (a0)) + (IntKind.u16.wrap (a1)))) + t103)) % 256)) (Go.bits .xor .u8 a1 ((IntKind.u16.wrap ((IntKind.u16.wrap ((IntKind.u16.wrap (a0)) + (IntKind.u16.wrap (a1)))) + t103)) % 256))) 128) != 0) 4 t105 _ A6.out).mono ?_); rintro e w' ⟨rfl, ⟨nd, rfl⟩⟩; refine ⟨_, rfl, ?_⟩) | ((with_reducible refine gate_callee (f := 65) rfl ?_); refine goesL_ (some 43) rfl rfl Try.func65 (by kernel_rfl) rfl #[.bool (decide ((IntKind.u16.wrap ((IntKind.u16.wrap ((IntKind.u16.wrap (a0)) + (IntKind.u16.wrap (a1)))) + t103)) > 255)), .int .u8 1] rfl (by (try simp only [List.map_toArray, List.map_cons, List.map_nil]); first | done | rfl | (simp only [List.length_drop, List.length_take]; rfl)) ?_; (with_reducible refine (sum_when.calls (decide ((IntKind.u16.wrap ((IntKind.u16.wrap ((IntKind.u16.wrap (a0)) + (IntKind.u16.wrap (a1)))) + t103)) > 255)) 1 t106 _ A7.out).mono ?_); rintro e w' ⟨rfl, ⟨nd, rfl⟩⟩; refine ⟨_, rfl, ?_⟩) | ((with_reducible refine gate_dst (N := 44) rfl ?_); refine Kd.R_lit (Kd.int .u8) _ 5 ?hg (N := 44) ?hd (xs := ([t104, Go.bits .and .u8 (Go.bits .xor .u8 (Go.bits .xor .u8 a0 a1) ((IntKind.u16.wrap ((IntKind.u16.wrap ((IntKind.u16.wrap (a0)) + (IntKind.u16.wrap (a1)))) + t103)) % 256)) 16, t105, t106] : List Int)) (inner := [.int .u8 t104, .int .u8 (Go.bits .and .u8 (Go.bits .xor .u8 (Go.bits .xor .u8 a0 a1) ((IntKind.u16.wrap ((IntKind.u16.wrap ((IntKind.u16.wrap (a0)) + (IntKind.u16.wrap (a1)))) + t103)) % 256)) 16), .int .u8 t105, .int .u8 t106]) (ok := fun _ => True) (okp := fun _ => True) ?hr ?hp (fun _ hk => hk) trivial (Below.refl _ _) (Nat.le_refl _) (by simp) ?_; (case hd => rfl); (case hg => rfl); (case hr => first | (go_simp; done) | (go_simp; rfl)); (case hp => exact (Reps.one (show Kd.M (Kd.int .u8) _ _ _ t104 [.int .u8 t104] from rfl) (Reps.one (show Kd.M (Kd.int .u8) _ _ _ (Go.bits .and .u8 (Go.bits .xor .u8 (Go.bits .xor .u8 a0 a1) ((IntKind.u16.wrap ((IntKind.u16.wrap ((IntKind.u16.wrap (a0)) + (IntKind.u16.wrap (a1)))) + t103)) % 256)) 16) [.int .u8 (Go.bits .and .u8 (Go.bits .xor .u8 (Go.bits .xor .u8 a0 a1) ((IntKind.u16.wrap ((IntKind.u16.wrap ((IntKind.u16.wrap (a0)) + (IntKind.u16.wrap (a1)))) + t103)) % 256)) 16)] from rfl) (Reps.one (show Kd.M (Kd.int .u8) _ _ _ t105 [.int .u8 t105] from rfl) (Reps.one (show Kd.M (Kd.int .u8) _ _ _ t106 [.int .u8 t106] from rfl) (Reps.none _ _)))))); intro v108 w9 ho10 hb hg_ hnew_; clear hg_ hnew_; (first | rw [← Ny107.out] at ho10 | (simp only [Int.reduceToNat] at ho10; rw [← Ny107.out] at ho10)); have n0_ := Aside0.mk (Kd.R_lower ho10 (below_size (by repeat (first | (with_reducible first | exact HB.out | apply below_alloc | apply pw_below_drewN | apply below_drew1) | exact HB.out)))); have n1_ := Aside0.mk (below_step (by repeat (first | (with_reducible first | exact HB.out | apply below_alloc | apply pw_below_drewN | apply below_drew1) | exact HB.out)) hb); clear HB; have HO109 := n0_; have HB := n1_; clear n0_ n1_; clear hb ho10; obtain ⟨Ao11, co11, eo11⟩ := Kd.R_slice HO109.out; subst eo11) | ((with_reducible refine gate_callee (f := 63) rfl ?_); refine goesL_ (some 45) rfl rfl Try.func63 (by kernel_rfl) rfl #[.slice Ao11 y107.length co11] rfl (by (try simp only [List.map_toArray, List.map_cons, List.map_nil]); first | done | rfl | (simp only [List.length_drop, List.length_take]; rfl)) ?_; (with_reducible refine (sum_all.calls k _ _ y107 t110 _ ?side1 ?side2 A8.out).mono ?_); (case side1 => repeat (first | exact (Kd.R_reads' HO109.out).2.2 | (with_reducible refine Kd.C_alloc ?_ _) | (with_reducible refine Kd.C_drewN ?_ _) | (with_reducible refine Kd.C_drew ?_))); (case side2 => exact (Kd.R_reads' HO109.out).2.1); rintro e w' ⟨rfl, ⟨nd, rfl⟩⟩; refine ⟨_, rfl, ?_⟩))
  go_ret2
  exact ⟨by first | rfl | (simp [errW_none, errW_some] <;> rfl) | (simp [*, errW_none, errW_some] <;> rfl), by repeat (first | (with_reducible first | exact HB.out | apply below_alloc | apply pw_below_drewN | apply below_drew1) | exact HB.out)⟩

/-! ### sum_Sub: function 37 -/
def sum_Sub.f (k : Nat) (a0 : Int) (a1 : Int) (a2 : Bool) : Option (Int × Int) := (sum_one_uint16.f a2).bind fun t111 => ((flags_Result.f ((IntKind.u16.wrap ((IntKind.u16.wrap ((IntKind.u16.wrap (a0)) - (IntKind.u16.wrap (a1)))) - t111)) % 256)).bind fun t112 => ((sum_when.f ((Go.bits .and .u8 (Go.bits .and .u8 (Go.bits .xor .u8 a0 a1) (Go.bits .xor .u8 a0 ((IntKind.u16.wrap ((IntKind.u16.wrap ((IntKind.u16.wrap (a0)) - (IntKind.u16.wrap (a1)))) - t111)) % 256))) 128) != 0) 4).bind fun t113 => ((sum_when.f (decide ((IntKind.u16.wrap ((IntKind.u16.wrap ((IntKind.u16.wrap (a0)) - (IntKind.u16.wrap (a1)))) - t111)) > 255)) 1).bind fun t114 => ((sum_all.f k (([t112, Go.bits .and .u8 (Go.bits .xor .u8 (Go.bits .xor .u8 a0 a1) ((IntKind.u16.wrap ((IntKind.u16.wrap ((IntKind.u16.wrap (a0)) - (IntKind.u16.wrap (a1)))) - t111)) % 256)) 16, t113, 2, t114] : List Int))).bind fun t118 => (some ((IntKind.u16.wrap ((IntKind.u16.wrap ((IntKind.u16.wrap (a0)) - (IntKind.u16.wrap (a1)))) - t111)) % 256, t118))))))
theorem sum_Sub.mono : ∀ a0 a1 a2 k, LeO (sum_Sub.f k a0 a1 a2) (sum_Sub.f (k + 1) a0 a1 a2) := by
  intro a0 a1 a2 k
  unfold sum_Sub.f
  repeat' first
      | (with_reducible exact sum_all.mono _ _)
      | (with_reducible exact LeO.refl _)
      | (with_reducible exact LeO.none _)
      | (with_reducible refine LeO.ite ?_ ?_)
      | (with_reducible refine LeO.bind ?_ (fun _ => ?_))
      | exact sum_all.mono _ _
      | exact LeO.none _
      | refine LeO.ite ?_ ?_
      | refine LeO.bind ?_ (fun _ => ?_)
set_option maxHeartbeats 8000000 in
set_option maxRecDepth 100000 in
theorem sum_Sub.calls (k : Nat) (a0 : Int) (a1 : Int) (a2 : Bool) (r1 : Int) (r2 : Int) (w : World) (h : sum_Sub.f k a0 a1 a2 = some (r1, r2)) :
    Calls Try.prog 37 #[.int .u8 a0, .int .u8 a1, .bool a2] w fun e w' => e = .returned (.tuple #[.int .u8 r1, .int .u8 r2]) ∧ Below w.heap.size w w' := by
  have HB := Aside0.mk (Below.refl w.heap.size w)
  have H : ((sum_one_uint16.f a2).bind fun t111 => ((flags_Result.f ((IntKind.u16.wrap ((IntKind.u16.wrap ((IntKind.u16.wrap (a0)) - (IntKind.u16.wrap (a1)))) - t111)) % 256)).bind fun t112 => ((sum_when.f ((Go.bits .and .u8 (Go.bits .and .u8 (Go.bits .xor .u8 a0 a1) (Go.bits .xor .u8 a0 ((IntKind.u16.wrap ((IntKind.u16.wrap ((IntKind.u16.wrap (a0)) - (IntKind.u16.wrap (a1)))) - t111)) % 256))) 128) != 0) 4).bind fun t113 => ((sum_when.f (decide ((IntKind.u16.wrap ((IntKind.u16.wrap ((IntKind.u16.wrap (a0)) - (IntKind.u16.wrap (a1)))) - t111)) > 255)) 1).bind fun t114 => ((sum_all.f k (([t112, Go.bits .and .u8 (Go.bits .xor .u8 (Go.bits .xor .u8 a0 a1) ((IntKind.u16.wrap ((IntKind.u16.wrap ((IntKind.u16.wrap (a0)) - (IntKind.u16.wrap (a1)))) - t111)) % 256)) 16, t113, 2, t114] : List Int))).bind fun t118 => (some ((IntKind.u16.wrap ((IntKind.u16.wrap ((IntKind.u16.wrap (a0)) - (IntKind.u16.wrap (a1)))) - t111)) % 256, t118))))))) = some (r1, r2) := h
  clear h
  replace H := Option.bind_eq_some_iff.mp H
  obtain ⟨t111, A40, H⟩ := H
  replace H : ((flags_Result.f ((IntKind.u16.wrap ((IntKind.u16.wrap ((IntKind.u16.wrap (a0)) - (IntKind.u16.wrap (a1)))) - t111)) % 256)).bind fun t112 => ((sum_when.f ((Go.bits .and .u8 (Go.bits .and .u8 (Go.bits .xor .u8 a0 a1) (Go.bits .xor .u8 a0 ((IntKind.u16.wrap ((IntKind.u16.wrap ((IntKind.u16.wrap (a0)) - (IntKind.u16.wrap (a1)))) - t111)) % 256))) 128) != 0) 4).bind fun t113 => ((sum_when.f (decide ((IntKind.u16.wrap ((IntKind.u16.wrap ((IntKind.u16.wrap (a0)) - (IntKind.u16.wrap (a1)))) - t111)) > 255)) 1).bind fun t114 => ((sum_all.f k (([t112, Go.bits .and .u8 (Go.bits .xor .u8 (Go.bits .xor .u8 a0 a1) ((IntKind.u16.wrap ((IntKind.u16.wrap ((IntKind.u16.wrap (a0)) - (IntKind.u16.wrap (a1)))) - t111)) % 256)) 16, t113, 2, t114] : List Int))).bind fun t118 => (some ((IntKind.u16.wrap ((IntKind.u16.wrap ((IntKind.u16.wrap (a0)) - (IntKind.u16.wrap (a1)))) - t111)) % 256, t118)))))) = some (r1, r2) := H
  have A4 := Aside0.mk A40
  clear A40
  replace H := Option.bind_eq_some_iff.mp H
  obtain ⟨t112, A50, H⟩ := H
  replace H : ((sum_when.f ((Go.bits .and .u8 (Go.bits .and .u8 (Go.bits .xor .u8 a0 a1) (Go.bits .xor .u8 a0 ((IntKind.u16.wrap ((IntKind.u16.wrap ((IntKind.u16.wrap (a0)) - (IntKind.u16.wrap (a1)))) - t111)) % 256))) 128) != 0) 4).bind fun t113 => ((sum_when.f (decide ((IntKind.u16.wrap ((IntKind.u16.wrap ((IntKind.u16.wrap (a0)) - (IntKind.u16.wrap (a1)))) - t111)) > 255)) 1).bind fun t114 => ((sum_all.f k (([t112, Go.bits .and .u8 (Go.bits .xor .u8 (Go.bits .xor .u8 a0 a1) ((IntKind.u16.wrap ((IntKind.u16.wrap ((IntKind.u16.wrap (a0)) - (IntKind.u16.wrap (a1)))) - t111)) % 256)) 16, t113, 2, t114] : List Int))).bind fun t118 => (some ((IntKind.u16.wrap ((IntKind.u16.wrap ((IntKind.u16.wrap (a0)) - (IntKind.u16.wrap (a1)))) - t111)) % 256, t118))))) = some (r1, r2) := H
  have A5 := Aside0.mk A50
  clear A50
  replace H := Option.bind_eq_some_iff.mp H
  obtain ⟨t113, A60, H⟩ := H
  replace H : ((sum_when.f (decide ((IntKind.u16.wrap ((IntKind.u16.wrap ((IntKind.u16.wrap (a0)) - (IntKind.u16.wrap (a1)))) - t111)) > 255)) 1).bind fun t114 => ((sum_all.f k (([t112, Go.bits .and .u8 (Go.bits .xor .u8 (Go.bits .xor .u8 a0 a1) ((IntKind.u16.wrap ((IntKind.u16.wrap ((IntKind.u16.wrap (a0)) - (IntKind.u16.wrap (a1)))) - t111)) % 256)) 16, t113, 2, t114] : List Int))).bind fun t118 => (some ((IntKind.u16.wrap ((IntKind.u16.wrap ((IntKind.u16.wrap (a0)) - (IntKind.u16.wrap (a1)))) - t111)) % 256, t118)))) = some (r1, r2) := H
  have A6 := Aside0.mk A60
  clear A60
  replace H := Option.bind_eq_some_iff.mp H
  obtain ⟨t114, A70, H⟩ := H
  replace H : ((sum_all.f k (([t112, Go.bits .and .u8 (Go.bits .xor .u8 (Go.bits .xor .u8 a0 a1) ((IntKind.u16.wrap ((IntKind.u16.wrap ((IntKind.u16.wrap (a0)) - (IntKind.u16.wrap (a1)))) - t111)) % 256)) 16, t113, 2, t114] : List Int))).bind fun t118 => (some ((IntKind.u16.wrap ((IntKind.u16.wrap ((IntKind.u16.wrap (a0)) - (IntKind.u16.wrap (a1)))) - t111)) % 256, t118))) = some (r1, r2) := H
  have A7 := Aside0.mk A70
  clear A70
  obtain ⟨y115, hy115⟩ : ∃ y_ : List Int, y_ = (([t112, Go.bits .and .u8 (Go.bits .xor .u8 (Go.bits .xor .u8 a0 a1) ((IntKind.u16.wrap ((IntKind.u16.wrap ((IntKind.u16.wrap (a0)) - (IntKind.u16.wrap (a1)))) - t111)) % 256)) 16, t113, 2, t114] : List Int)) := ⟨_, rfl⟩
  replace H : ((sum_all.f k y115).bind fun t118 => (some ((IntKind.u16.wrap ((IntKind.u16.wrap ((IntKind.u16.wrap (a0)) - (IntKind.u16.wrap (a1)))) - t111)) % 256, t118))) = some (r1, r2) := by first | (rw [hy115]; with_reducible exact H) | (have H2_ := (Option.bind_some _ _).symm.trans H; rw [hy115]; with_reducible exact H2_) | (have H2_ := (Option.bind_some _ _).symm.trans H; with_reducible exact H2_) | with_reducible exact H | (rw [hy115]; exact H) | exact H
  have Ny115 := Aside0.mk hy115
  clear hy115
  replace H := Option.bind_eq_some_iff.mp H
  obtain ⟨t118, A80, H⟩ := H
  replace H : (some ((IntKind.u16.wrap ((IntKind.u16.wrap ((IntKind.u16.wrap (a0)) - (IntKind.u16.wrap (a1)))) - t111)) % 256, t118)) = some (r1, r2) := H
  have A8 := Aside0.mk A80
  clear A80
  simp only [Option.some.injEq, Prod.mk.injEq] at H
  obtain ⟨rfl, rfl⟩ := H
  go_enter Try.func37, Try.ntmps37
  go_wp2_with (first | ((with_reducible refine gate_callee (f := 62) rfl ?_); refine goesL_ (some 17) rfl rfl Try.func62 (by kernel_rfl) rfl #[.bool a2] rfl (by (try simp only [List.map_toArray, List.map_cons, List.map_nil]); first | done | rfl | (simp only [List.length_drop, List.length_take]; rfl)) ?_; (with_reducible refine (sum_one_uint16.calls a2 t111 _ A4.out).mono ?_); rintro e w' ⟨rfl, ⟨nd, rfl⟩⟩; refine ⟨_, rfl, ?_⟩) | ((with_reducible refine gate_callee (f := 64) rfl ?_); refine goesL_ (some 28) rfl rfl Try.func64 (by kernel_rfl) rfl #[.int .u8 ((IntKind.u16.wrap ((IntKind.u16.wrap ((IntKind.u16.wrap (a0)) - (IntKind.u16.wrap (a1)))) - t111)) % 256)] rfl (by (try simp only [List.map_toArray, List.map_cons, List.map_nil]); first | done | rfl | (simp only [List.length_drop, List.length_take]; rfl)) ?_; (with_reducible refine (flags_Result.calls ((IntKind.u16.wrap ((IntKind.u16.wrap ((IntKind.u16.wrap (a0)) - (IntKind.u16.wrap (a1)))) - t111)) % 256) t112 _ A5.out).mono ?_); rintro e w' ⟨rfl, ⟨nd, rfl⟩⟩; refine ⟨_, rfl, ?_⟩) | ((with_reducible refine gate_callee (f := 65) rfl ?_); refine goesL_ (some 40) rfl rfl Try.func65 (by kernel_rfl) rfl #[.bool ((Go.bits .and .u8 (Go.bits .and .u8 (Go.bits .xor .u8 a0 a1) (Go.bits .xor .u8 a0 ((IntKind.u16.wrap ((IntKind.u16.wrap ((IntKind.u16.wrap (a0)) - (IntKind.u16.wrap (a1)))) - t111)) % 256))) 128) != 0), .int .u8 4] rfl (by (try simp only [List.map_toArray, List.map_cons, List.map_nil]); first | done | rfl | (simp only [List.length_drop, List.length_take]; rfl)) ?_; (with_reducible refine (sum_when.calls ((Go.bits .and .u8 (Go.bits .and .u8 (Go.bits .xor .u8 a0 a1) (Go.bits .xor .u8 a0 ((IntKind.u16.wrap ((IntKind.u16.wrap ((IntKind.u16.wrap (a0)) - (IntKind.u16.wrap (a1)))) - t111)) % 256))) 128) != 0) 4 t113 _ A6.out).mono ?_); rintro e w' ⟨rfl, ⟨nd, rfl⟩⟩; refine ⟨_, rfl, ?_⟩) | ((with_reducible refine gate_callee (f := 65) rfl ?_); refine goesL_ (some 43) rfl rfl Try.func65 (by kernel_rfl) rfl #[.bool (decide ((IntKind.u16.wrap ((IntKind.u16.wrap ((IntKind.u16.wrap (a0)) - (IntKind.u16.wrap (a1)))) - t111)) > 255)), .int .u8 1] rfl (by (try simp only [List.map_toArray, List.map_cons, List.map_nil]); first | done | rfl | (simp only [List.length_drop, List.length_take]; rfl)) ?_; (with_reducible refine (sum_when.calls (decide ((IntKind.u16.wrap ((IntKind.u16.wrap ((IntKind.u16.wrap (a0)) - (IntKind.u16.wrap (a1)))) - t111)) > 255)) 1 t114 _ A7.out).mono ?_); rintro e w' ⟨rfl, ⟨nd, rfl⟩⟩; refine ⟨_, rfl, ?_⟩) | ((with_reducible refine gate_dst (N := 44) rfl ?_); refine Kd.R_lit (Kd.int .u8) _ 5 ?hg (N := 44) ?hd (xs := ([t112, Go.bits .and .u8 (Go.bits .xor .u8 (Go.bits .xor .u8 a0 a1) ((IntKind.u16.wrap ((IntKind.u16.wrap ((IntKind.u16.wrap (a0)) - (IntKind.u16.wrap (a1)))) - t111)) % 256)) 16, t113, 2, t114] : List Int)) (inner := [.int .u8 t112, .int .u8 (Go.bits .and .u8 (Go.bits .xor .u8 (Go.bits .xor .u8 a0 a1) ((IntKind.u16.wrap ((IntKind.u16.wrap ((IntKind.u16.wrap (a0)) - (IntKind.u16.wrap (a1)))) - t111)) % 256)) 16), .int .u8 t113, .int .u8 2, .int .u8 t114]) (ok := fun _ => True) (okp := fun _ => True) ?hr ?hp (fun _ hk => hk) trivial (Below.refl _ _) (Nat.le_refl _) (by simp) ?_; (case hd => rfl); (case hg => rfl); (case hr => first | (go_simp; done) | (go_simp; rfl)); (case hp => exact (Reps.one (show Kd.M (Kd.int .u8) _ _ _ t112 [.int .u8 t112] from rfl) (Reps.one (show Kd.M (Kd.int .u8) _ _ _ (Go.bits .and .u8 (Go.bits .xor .u8 (Go.bits .xor .u8 a0 a1) ((IntKind.u16.wrap ((IntKind.u16.wrap ((IntKind.u16.wrap (a0)) - (IntKind.u16.wrap (a1)))) - t111)) % 256)) 16) [.int .u8 (Go.bits .and .u8 (Go.bits .xor .u8 (Go.bits .xor .u8 a0 a1) ((IntKind.u16.wrap ((IntKind.u16.wrap ((IntKind.u16.wrap (a0)) - (IntKind.u16.wrap (a1)))) - t111)) % 256)) 16)] from rfl) (Reps.one (show Kd.M (Kd.int .u8) _ _ _ t113 [.int .u8 t113] from rfl) (Reps.one (show Kd.M (Kd.int .u8) _ _ _ 2 [.int .u8 2] from rfl) (Reps.one (show Kd.M (Kd.int .u8) _ _ _ t114 [.int .u8 t114] from rfl) (Reps.none _ _))))))); intro v116 w9 ho10 hb hg_ hnew_; clear hg_ hnew_; (first | rw [← Ny115.out] at ho10 | (simp only [Int.reduceToNat] at ho10; rw [← Ny115.out] at ho10)); have n0_ := Aside0.mk (Kd.R_lower ho10 (below_size (by repeat (first | (with_reducible first | exact HB.out | apply below_alloc | apply pw_below_drewN | apply below_drew1) | exact HB.out)))); have n1_ := Aside0.mk (below_step (by repeat (first | (with_reducible first | exact HB.out | apply below_alloc | apply pw_below_drewN | apply below_drew1) | exact HB.out)) hb); clear HB; have HO117 := n0_; have HB := n1_; clear n0_ n1_; clear hb ho10; obtain ⟨Ao11, co11, eo11⟩ := Kd.R_slice HO117.out; subst eo11) | ((with_reducible refine gate_callee (f := 63) rfl ?_); refine goesL_ (some 45) rfl rfl Try.func63 (by kernel_rfl) rfl #[.slice Ao11 y115.length co11] rfl (by (try simp only [List.map_toArray, List.map_cons, List.map_nil]); first | done | rfl | (simp only [List.length_drop, List.length_take]; rfl)) ?_; (with_reducible refine (sum_all.calls k _ _ y115 t118 _ ?side1 ?side2 A8.out).mono ?_); (case side1 => repeat (first | exact (Kd.R_reads' HO117.out).2.2 | (with_reducible refine Kd.C_alloc ?_ _) | (with_reducible refine Kd.C_drewN ?_ _) | (with_reducible refine Kd.C_drew ?_))); (case side2 => exact (Kd.R_reads' HO117.out).2.1); rintro e w' ⟨rfl, ⟨nd, rfl⟩⟩; refine ⟨_, rfl, ?_⟩))
  go_ret2
  exact ⟨by first | rfl | (simp [errW_none, errW_some] <;> rfl) | (simp [*, errW_none, errW_some] <;> rfl), by repeat (first | (with_reducible first | exact HB.out | apply below_alloc | apply pw_below_drewN | apply below_drew1) | exact HB.out)⟩

/-! ### sum_Neg: function 39 -/
def sum_Neg.f (k : Nat) (a0 : Int) : Option (Int × Int) := (sum_Sub.f k 0 a0 false).bind fun bt119 => (some (bt119.1, bt119.2))
theorem sum_Neg.mono : ∀ a0 k, LeO (sum_Neg.f k a0) (sum_Neg.f (k + 1) a0) := by
  intro a0 k
  unfold sum_Neg.f
  repeat' first
      | (with_reducible exact sum_Sub.mono _ _ _ _)
      | (with_reducible exact LeO.refl _)
      | (with_reducible exact LeO.none _)
      | (with_reducible refine LeO.ite ?_ ?_)
      | (with_reducible refine LeO.bind ?_ (fun _ => ?_))
      | exact sum_Sub.mono _ _ _ _
      | exact LeO.none _
      | refine LeO.ite ?_ ?_
      | refine LeO.bind ?_ (fun _ => ?_)
set_option maxHeartbeats 8000000 in
set_option maxRecDepth 100000 in
theorem sum_Neg.calls (k : Nat) (a0 : Int) (r1 : Int) (r2 : Int) (w : World) (h : sum_Neg.f k a0 = some (r1, r2)) :
    Calls Try.prog 39 #[.int .u8 a0] w fun e w' => e = .returned (.tuple #[.int .u8 r1, .int .u8 r2]) ∧ Below w.heap.size w w' := by
  have HB := Aside0.mk (Below.refl w.heap.size w)
  have H : ((sum_Sub.f k 0 a0 false).bind fun bt119 => (some (bt119.1, bt119.2))) = some (r1, r2) := h
  clear h
  replace H := Option.bind_eq_some_iff.mp H
  obtain ⟨⟨t119, t120⟩, A20, H⟩ := H
  replace H : (some (t119, t120)) = some (r1, r2) := H
  have A2 := Aside0.mk A20
  clear A20
  simp only [Option.some.injEq, Prod.mk.injEq] at H
  obtain ⟨rfl, rfl⟩ := H
  go_enter Try.func39, Try.ntmps39
  go_wp2_with (first | ((with_reducible refine gate_callee (f := 37) rfl ?_); refine goesL_ (some 5) rfl rfl Try.func37 (by kernel_rfl) rfl #[.int .u8 0, .int .u8 a0, .bool false] rfl (by (try simp only [List.map_toArray, List.map_cons, List.map_nil]); first | done | rfl | (simp only [List.length_drop, List.length_take]; rfl)) ?_; (with_reducible refine (sum_Sub.calls k 0 a0 false t119 t120 _ A2.out).mono ?_); rintro e w3 ⟨rfl, hb⟩; refine ⟨_, rfl, ?_⟩; have n0_ := Aside0.mk (below_step (by repeat (first | (with_reducible first | exact HB.out | apply below_alloc | apply pw_below_drewN | apply below_drew1) | exact HB.out)) hb); clear HB; have HB := n0_; clear n0_; (try clear hb); (try clear hb2); (try clear hk); (try clear hi)))
  go_ret2
  exact ⟨by first | rfl | (simp [errW_none, errW_some] <;> rfl) | (simp [*, errW_none, errW_some] <;> rfl), by repeat (first | (with_reducible first | exact HB.out | apply below_alloc | apply pw_below_drewN | apply below_drew1) | exact HB.out)⟩

/-! ### flags_Keep: function 71 -/
def flags_Keep.f (a0 : Int) (a1 : Int) (a2 : Int) : Option (Int) := some (Go.bits .or .u8 (Go.bits .andNot .u8 a0 a2) (Go.bits .and .u8 a1 a2))
set_option maxHeartbeats 8000000 in
set_option maxRecDepth 100000 in
theorem flags_Keep.calls (a0 : Int) (a1 : Int) (a2 : Int) (r : Int) (w : World) (h : flags_Keep.f a0 a1 a2 = some r) :
    Calls Try.prog 71 #[.int .u8 a0, .int .u8 a1, .int .u8 a2] w fun e w' => e = .returned (.int .u8 r) ∧ Drawn0 w w' := by
  have H : (some (Go.bits .or .u8 (Go.bits .andNot .u8 a0 a2) (Go.bits .and .u8 a1 a2))) = some r := h
  clear h
  obtain rfl := Option.some.inj H
  go_enter Try.func71, Try.ntmps71
  go_wp2
  go_ret
  exact ⟨by first | rfl | (simp; done) | (simp [*]; done), by repeat (first | exact Drawn0.refl _ | apply Drawn0.step)⟩

/-! ### sum_Cmp: function 41 -/
def sum_Cmp.f (k : Nat) (a0 : Int) (a1 : Int) : Option (Int) := (sum_Sub.f k a0 a1 false).bind fun bt121 => ((flags_Keep.f bt121.2 a1 40).bind fun t123 => (some t123))
theorem sum_Cmp.mono : ∀ a0 a1 k, LeO (sum_Cmp.f k a0 a1) (sum_Cmp.f (k + 1) a0 a1) := by
  intro a0 a1 k
  unfold sum_Cmp.f
  repeat' first
      | (with_reducible exact sum_Sub.mono _ _ _ _)
      | (with_reducible exact LeO.refl _)
      | (with_reducible exact LeO.none _)
      | (with_reducible refine LeO.ite ?_ ?_)
      | (with_reducible refine LeO.bind ?_ (fun _ => ?_))
      | exact sum_Sub.mono _ _ _ _
      | exact LeO.none _
      | refine LeO.ite ?_ ?_
      | refine LeO.bind ?_ (fun _ => ?_)
set_option maxHeartbeats 8000000 in
set_option maxRecDepth 100000 in
theorem sum_Cmp.calls (k : Nat) (a0 : Int) (a1 : Int) (r : Int) (w : World) (h : sum_Cmp.f k a0 a1 = some r) :
    Calls Try.prog 41 #[.int .u8 a0, .int .u8 a1] w fun e w' => e = .returned (.int .u8 r) ∧ Below w.heap.size w w' := by
  have HB := Aside0.mk (Below.refl w.heap.size w)
  have H : ((sum_Sub.f k a0 a1 false).bind fun bt121 => ((flags_Keep.f bt121.2 a1 40).bind fun t123 => (some t123))) = some r := h
  clear h
  replace H := Option.bind_eq_some_iff.mp H
  obtain ⟨⟨t121, t122⟩, A30, H⟩ := H
  replace H : ((flags_Keep.f t122 a1 40).bind fun t123 => (some t123)) = some r := H
  have A3 := Aside0.mk A30
  clear A30
  replace H := Option.bind_eq_some_iff.mp H
  obtain ⟨t123, A40, H⟩ := H
  replace H : (some t123) = some r := H
  have A4 := Aside0.mk A40
  clear A40
  obtain rfl := Option.some.inj H
  go_enter Try.func41, Try.ntmps41
  go_wp2_with (first | ((with_reducible refine gate_callee (f := 37) rfl ?_); refine goesL_ (some 10) rfl rfl Try.func37 (by kernel_rfl) rfl #[.int .u8 a0, .int .u8 a1, .bool false] rfl (by (try simp only [List.map_toArray, List.map_cons, List.map_nil]); first | done | rfl | (simp only [List.length_drop, List.length_take]; rfl)) ?_; (with_reducible refine (sum_Sub.calls k a0 a1 false t121 t122 _ A3.out).mono ?_); rintro e w5 ⟨rfl, hb⟩; refine ⟨_, rfl, ?_⟩; have n0_ := Aside0.mk (below_step (by repeat (first | (with_reducible first | exact HB.out | apply below_alloc | apply pw_below_drewN | apply below_drew1) | exact HB.out)) hb); clear HB; have HB := n0_; clear n0_; (try clear hb); (try clear hb2); (try clear hk); (try clear hi)) | ((with_reducible refine gate_callee (f := 71) rfl ?_); refine goesL_ (some 15) rfl rfl Try.func71 (by kernel_rfl) rfl #[.int .u8 t122, .int .u8 a1, .int .u8 40] rfl (by (try simp only [List.map_toArray, List.map_cons, List.map_nil]); first | done | rfl | (simp only [List.length_drop, List.length_take]; rfl)) ?_; (with_reducible refine (flags_Keep.calls t122 a1 40 t123 _ A4.out).mono ?_); rintro e w' ⟨rfl, ⟨nd, rfl⟩⟩; refine ⟨_, rfl, ?_⟩))
  go_ret
  exact ⟨by first | rfl | (simp [errW_none, errW_some] <;> rfl) | (simp [*, errW_none, errW_some] <;> rfl), by repeat (first | (with_reducible first | exact HB.out | apply below_alloc | apply pw_below_drewN | apply below_drew1) | exact HB.out)⟩

/-! ### sum_Inc: function 43 -/
def sum_Inc.f (k : Nat) (a0 : Int) (a1 : Int) : Option (Int × Int) := (sum_Add.f k a0 1 false).bind fun bt124 => ((flags_Keep.f bt124.2 a1 1).bind fun t126 => (some (bt124.1, t126)))
theorem sum_Inc.mono : ∀ a0 a1 k, LeO (sum_Inc.f k a0 a1) (sum_Inc.f (k + 1) a0 a1) := by
  intro a0 a1 k
  unfold sum_Inc.f
  repeat' first
      | (with_reducible exact sum_Add.mono _ _ _ _)
      | (with_reducible exact LeO.refl _)
      | (with_reducible exact LeO.none _)
      | (with_reducible refine LeO.ite ?_ ?_)
      | (with_reducible refine LeO.bind ?_ (fun _ => ?_))
      | exact sum_Add.mono _ _ _ _
      | exact LeO.none _
      | refine LeO.ite ?_ ?_
      | refine LeO.bind ?_ (fun _ => ?_)
set_option maxHeartbeats 8000000 in
set_option maxRecDepth 100000 in
theorem sum_Inc.calls (k : Nat) (a0 : Int) (a1 : Int) (r1 : Int) (r2 : Int) (w : World) (h : sum_Inc.f k a0 a1 = some (r1, r2)) :
    Calls Try.prog 43 #[.int .u8 a0, .int .u8 a1] w fun e w' => e = .returned (.tuple #[.int .u8 r1, .int .u8 r2]) ∧ Below w.heap.size w w' := by
  have HB := Aside0.mk (Below.refl w.heap.size w)
  have H : ((sum_Add.f k a0 1 false).bind fun bt124 => ((flags_Keep.f bt124.2 a1 1).bind fun t126 => (some (bt124.1, t126)))) = some (r1, r2) := h
  clear h
  replace H := Option.bind_eq_some_iff.mp H
  obtain ⟨⟨t124, t125⟩, A30, H⟩ := H
  replace H : ((flags_Keep.f t125 a1 1).bind fun t126 => (some (t124, t126))) = some (r1, r2) := H
  have A3 := Aside0.mk A30
  clear A30
  replace H := Option.bind_eq_some_iff.mp H
  obtain ⟨t126, A40, H⟩ := H
  replace H : (some (t124, t126)) = some (r1, r2) := H
  have A4 := Aside0.mk A40
  clear A40
  simp only [Option.some.injEq, Prod.mk.injEq] at H
  obtain ⟨rfl, rfl⟩ := H
  go_enter Try.func43, Try.ntmps43
  go_wp2_with (first | ((with_reducible refine gate_callee (f := 35) rfl ?_); refine goesL_ (some 10) rfl rfl Try.func35 (by kernel_rfl) rfl #[.int .u8 a0, .int .u8 1, .bool false] rfl (by (try simp only [List.map_toArray, List.map_cons, List.map_nil]); first | done | rfl | (simp only [List.length_drop, List.length_take]; rfl)) ?_; (with_reducible refine (sum_Add.calls k a0 1 false t124 t125 _ A3.out).mono ?_); rintro e w5 ⟨rfl, hb⟩; refine ⟨_, rfl, ?_⟩; have n0_ := Aside0.mk (below_step (by repeat (first | (with_reducible first | exact HB.out | apply below_alloc | apply pw_below_drewN | apply below_drew1) | exact HB.out)) hb); clear HB; have HB := n0_; clear n0_; (try clear hb); (try clear hb2); (try clear hk); (try clear hi)) | ((with_reducible refine gate_callee (f := 71) rfl ?_); refine goesL_ (some 16) rfl rfl Try.func71 (by kernel_rfl) rfl #[.int .u8 t125, .int .u8 a1, .int .u8 1] rfl (by (try simp only [List.map_toArray, List.map_cons, List.map_nil]); first | done | rfl | (simp only [List.length_drop, List.length_take]; rfl)) ?_; (with_reducible refine (flags_Keep.calls t125 a1 1 t126 _ A4.out).mono ?_); rintro e w' ⟨rfl, ⟨nd, rfl⟩⟩; refine ⟨_, rfl, ?_⟩))
  go_ret2
  exact ⟨by first | rfl | (simp [errW_none, errW_some] <;> rfl) | (simp [*, errW_none, errW_some] <;> rfl), by repeat (first | (with_reducible first | exact HB.out | apply below_alloc | apply pw_below_drewN | apply below_drew1) | exact HB.out)⟩

/-! ### sum_Dec: function 45 -/
def sum_Dec.f (k : Nat) (a0 : Int) (a1 : Int) : Option (Int × Int) := (sum_Sub.f k a0 1 false).bind fun bt127 => ((flags_Keep.f bt127.2 a1 1).bind fun t129 => (some (bt127.1, t129)))
theorem sum_Dec.mono : ∀ a0 a1 k, LeO (sum_Dec.f k a0 a1) (sum_Dec.f (k + 1) a0 a1) := by
  intro a0 a1 k
  unfold sum_Dec.f
  repeat' first
      | (with_reducible exact sum_Sub.mono _ _ _ _)
      | (with_reducible exact LeO.refl _)
      | (with_reducible exact LeO.none _)
      | (with_reducible refine LeO.ite ?_ ?_)
      | (with_reducible refine LeO.bind ?_ (fun _ => ?_))
      | exact sum_Sub.mono _ _ _ _
      | exact LeO.none _
      | refine LeO.ite ?_ ?_
      | refine LeO.bind ?_ (fun _ => ?_)
set_option maxHeartbeats 8000000 in
set_option maxRecDepth 100000 in
theorem sum_Dec.calls (k : Nat) (a0 : Int) (a1 : Int) (r1 : Int) (r2 : Int) (w : World) (h : sum_Dec.f k a0 a1 = some (r1, r2)) :
    Calls Try.prog 45 #[.int .u8 a0, .int .u8 a1] w fun e w' => e = .returned (.tuple #[.int .u8 r1, .int .u8 r2]) ∧ Below w.heap.size w w' := by
  have HB := Aside0.mk (Below.refl w.heap.size w)
  have H : ((sum_Sub.f k a0 1 false).bind fun bt127 => ((flags_Keep.f bt127.2 a1 1).bind fun t129 => (some (bt127.1, t129)))) = some (r1, r2) := h
  clear h
  replace H := Option.bind_eq_some_iff.mp H
  obtain ⟨⟨t127, t128⟩, A30, H⟩ := H
  replace H : ((flags_Keep.f t128 a1 1).bind fun t129 => (some (t127, t129))) = some (r1, r2) := H
  have A3 := Aside0.mk A30
  clear A30
  replace H := Option.bind_eq_some_iff.mp H
  obtain ⟨t129, A40, H⟩ := H
  replace H : (some (t127, t129)) = some (r1, r2) := H
  have A4 := Aside0.mk A40
  clear A40
  simp only [Option.some.injEq, Prod.mk.injEq] at H
  obtain ⟨rfl, rfl⟩ := H
  go_enter Try.func45, Try.ntmps45
  go_wp2_with (first | ((with_reducible refine gate_callee (f := 37) rfl ?_); refine goesL_ (some 10) rfl rfl Try.func37 (by kernel_rfl) rfl #[.int .u8 a0, .int .u8 1, .bool false] rfl (by (try simp only [List.map_toArray, List.map_cons, List.map_nil]); first | done | rfl | (simp only [List.length_drop, List.length_take]; rfl)) ?_; (with_reducible refine (sum_Sub.calls k a0 1 false t127 t128 _ A3.out).mono ?_); rintro e w5 ⟨rfl, hb⟩; refine ⟨_, rfl, ?_⟩; have n0_ := Aside0.mk (below_step (by repeat (first | (with_reducible first | exact HB.out | apply below_alloc | apply pw_below_drewN | apply below_drew1) | exact HB.out)) hb); clear HB; have HB := n0_; clear n0_; (try clear hb); (try clear hb2); (try clear hk); (try clear hi)) | ((with_reducible refine gate_callee (f := 71) rfl ?_); refine goesL_ (some 16) rfl rfl Try.func71 (by kernel_rfl) rfl #[.int .u8 t128, .int .u8 a1, .int .u8 1] rfl (by (try simp only [List.map_toArray, List.map_cons, List.map_nil]); first | done | rfl | (simp only [List.length_drop, List.length_take]; rfl)) ?_; (with_reducible refine (flags_Keep.calls t128 a1 1 t129 _ A4.out).mono ?_); rintro e w' ⟨rfl, ⟨nd, rfl⟩⟩; refine ⟨_, rfl, ?_⟩))
  go_ret2
  exact ⟨by first | rfl | (simp [errW_none, errW_some] <;> rfl) | (simp [*, errW_none, errW_some] <;> rfl), by repeat (first | (with_reducible first | exact HB.out | apply below_alloc | apply pw_below_drewN | apply below_drew1) | exact HB.out)⟩

/-! ### charabanclaw03_awake: function 34 -/
def charabanclaw03_awake.f (k : Nat)  : Option (Bool) := (sum_Add.f k 127 1 false).bind fun bt130 => ((sum_Sub.f k 0 1 false).bind fun bt132 => ((sum_Inc.f k 15 1).bind fun bt134 => ((sum_Dec.f k 16 0).bind fun bt136 => ((sum_Neg.f k 1).bind fun bt138 => (if bt130.1 = 128 then (if bt130.2 = 148 then (if bt132.1 = 255 then (if bt132.2 = 187 then (if bt134.1 = 16 then (if bt134.2 = 17 then (if bt136.1 = 15 then (if bt136.2 = 26 then (if bt138.1 = 255 then (if bt138.2 = 187 then ((sum_Cmp.f k 5 5).bind fun t140 => (some (t140 == 66))) else (some false)) else (some false)) else (some false)) else (some false)) else (some false)) else (some false)) else (some false)) else (some false)) else (some false)) else (some false))))))
theorem charabanclaw03_awake.mono : ∀ k, LeO (charabanclaw03_awake.f k ) (charabanclaw03_awake.f (k + 1) ) := by
  intro  k
  unfold charabanclaw03_awake.f
  repeat' first
      | (with_reducible exact sum_Add.mono _ _ _ _)
      | (with_reducible exact sum_Cmp.mono _ _ _)
      | (with_reducible exact sum_Dec.mono _ _ _)
      | (with_reducible exact sum_Inc.mono _ _ _)
      | (with_reducible exact sum_Neg.mono _ _)
      | (with_reducible exact sum_Sub.mono _ _ _ _)
      | (with_reducible exact LeO.refl _)
      | (with_reducible exact LeO.none _)
      | (with_reducible refine LeO.ite ?_ ?_)
      | (with_reducible refine LeO.bind ?_ (fun _ => ?_))
      | exact sum_Add.mono _ _ _ _
      | exact sum_Cmp.mono _ _ _
      | exact sum_Dec.mono _ _ _
      | exact sum_Inc.mono _ _ _
      | exact sum_Neg.mono _ _
      | exact sum_Sub.mono _ _ _ _
      | exact LeO.none _
      | refine LeO.ite ?_ ?_
      | refine LeO.bind ?_ (fun _ => ?_)
set_option maxHeartbeats 8000000 in
set_option maxRecDepth 100000 in
theorem charabanclaw03_awake.calls (k : Nat)  (r : Bool) (w : World) (h : charabanclaw03_awake.f k  = some r) :
    Calls Try.prog 34 #[] w fun e w' => e = .returned (.bool r) ∧ Below w.heap.size w w' := by
  have HB := Aside0.mk (Below.refl w.heap.size w)
  have H : ((sum_Add.f k 127 1 false).bind fun bt130 => ((sum_Sub.f k 0 1 false).bind fun bt132 => ((sum_Inc.f k 15 1).bind fun bt134 => ((sum_Dec.f k 16 0).bind fun bt136 => ((sum_Neg.f k 1).bind fun bt138 => (if bt130.1 = 128 then (if bt130.2 = 148 then (if bt132.1 = 255 then (if bt132.2 = 187 then (if bt134.1 = 16 then (if bt134.2 = 17 then (if bt136.1 = 15 then (if bt136.2 = 26 then (if bt138.1 = 255 then (if bt138.2 = 187 then ((sum_Cmp.f k 5 5).bind fun t140 => (some (t140 == 66))) else (some false)) else (some false)) else (some false)) else (some false)) else (some false)) else (some false)) else (some false)) else (some false)) else (some false)) else (some false))))))) = some r := h
  clear h
  replace H := Option.bind_eq_some_iff.mp H
  obtain ⟨⟨t130, t131⟩, A10, H⟩ := H
  replace H : ((sum_Sub.f k 0 1 false).bind fun bt132 => ((sum_Inc.f k 15 1).bind fun bt134 => ((sum_Dec.f k 16 0).bind fun bt136 => ((sum_Neg.f k 1).bind fun bt138 => (if t130 = 128 then (if t131 = 148 then (if bt132.1 = 255 then (if bt132.2 = 187 then (if bt134.1 = 16 then (if bt134.2 = 17 then (if bt136.1 = 15 then (if bt136.2 = 26 then (if bt138.1 = 255 then (if bt138.2 = 187 then ((sum_Cmp.f k 5 5).bind fun t140 => (some (t140 == 66))) else (some false)) else (some false)) else (some false)) else (some false)) else (some false)) else (some false)) else (some false)) else (some false)) else (some false)) else (some false)))))) = some r := H
  have A1 := Aside0.mk A10
  clear A10
  replace H := Option.bind_eq_some_iff.mp H
  obtain ⟨⟨t132, t133⟩, A20, H⟩ := H
  replace H : ((sum_Inc.f k 15 1).bind fun bt134 => ((sum_Dec.f k 16 0).bind fun bt136 => ((sum_Neg.f k 1).bind fun bt138 => (if t130 = 128 then (if t131 = 148 then (if t132 = 255 then (if t133 = 187 then (if bt134.1 = 16 then (if bt134.2 = 17 then (if bt136.1 = 15 then (if bt136.2 = 26 then (if bt138.1 = 255 then (if bt138.2 = 187 then ((sum_Cmp.f k 5 5).bind fun t140 => (some (t140 == 66))) else (some false)) else (some false)) else (some false)) else (some false)) else (some false)) else (some false)) else (some false)) else (some false)) else (some false)) else (some false))))) = some r := H
  have A2 := Aside0.mk A20
  clear A20
  replace H := Option.bind_eq_some_iff.mp H
  obtain ⟨⟨t134, t135⟩, A30, H⟩ := H
  replace H : ((sum_Dec.f k 16 0).bind fun bt136 => ((sum_Neg.f k 1).bind fun bt138 => (if t130 = 128 then (if t131 = 148 then (if t132 = 255 then (if t133 = 187 then (if t134 = 16 then (if t135 = 17 then (if bt136.1 = 15 then (if bt136.2 = 26 then (if bt138.1 = 255 then (if bt138.2 = 187 then ((sum_Cmp.f k 5 5).bind fun t140 => (some (t140 == 66))) else (some false)) else (some false)) else (some false)) else (some false)) else (some false)) else (some false)) else (some false)) else (some false)) else (some false)) else (some false)))) = some r := H
  have A3 := Aside0.mk A30
  clear A30
  replace H := Option.bind_eq_some_iff.mp H
  obtain ⟨⟨t136, t137⟩, A40, H⟩ := H
  replace H : ((sum_Neg.f k 1).bind fun bt138 => (if t130 = 128 then (if t131 = 148 then (if t132 = 255 then (if t133 = 187 then (if t134 = 16 then (if t135 = 17 then (if t136 = 15 then (if t137 = 26 then (if bt138.1 = 255 then (if bt138.2 = 187 then ((sum_Cmp.f k 5 5).bind fun t140 => (some (t140 == 66))) else (some false)) else (some false)) else (some false)) else (some false)) else (some false)) else (some false)) else (some false)) else (some false)) else (some false)) else (some false))) = some r := H
  have A4 := Aside0.mk A40
  clear A40
  replace H := Option.bind_eq_some_iff.mp H
  obtain ⟨⟨t138, t139⟩, A50, H⟩ := H
  replace H : (if t130 = 128 then (if t131 = 148 then (if t132 = 255 then (if t133 = 187 then (if t134 = 16 then (if t135 = 17 then (if t136 = 15 then (if t137 = 26 then (if t138 = 255 then (if t139 = 187 then ((sum_Cmp.f k 5 5).bind fun t140 => (some (t140 == 66))) else (some false)) else (some false)) else (some false)) else (some false)) else (some false)) else (some false)) else (some false)) else (some false)) else (some false)) else (some false)) = some r := H
  have A5 := Aside0.mk A50
  clear A50
  by_cases c6 : t130 = 128
  · rw [if_pos c6] at H
    have c6b0 : (t130 == 128) = true := beq_iff_eq.mpr c6
    have c6b1 : (t130 != 128) = false := bne_eq_false_iff_eq.mpr c6
    clear c6
    by_cases c7 : t131 = 148
    · rw [if_pos c7] at H
      have c7b0 : (t131 == 148) = true := beq_iff_eq.mpr c7
      have c7b1 : (t131 != 148) = false := bne_eq_false_iff_eq.mpr c7
      clear c7
      by_cases c8 : t132 = 255
      · rw [if_pos c8] at H
        have c8b0 : (t132 == 255) = true := beq_iff_eq.mpr c8
        have c8b1 : (t132 != 255) = false := bne_eq_false_iff_eq.mpr c8
        clear c8
        by_cases c9 : t133 = 187
        · rw [if_pos c9] at H
          have c9b0 : (t133 == 187) = true := beq_iff_eq.mpr c9
          have c9b1 : (t133 != 187) = false := bne_eq_false_iff_eq.mpr c9
          clear c9
          by_cases c10 : t134 = 16
          · rw [if_pos c10] at H
            have c10b0 : (t134 == 16) = true := beq_iff_eq.mpr c10
            have c10b1 : (t134 != 16) = false := bne_eq_false_iff_eq.mpr c10
            clear c10
            by_cases c11 : t135 = 17
            · rw [if_pos c11] at H
              have c11b0 : (t135 == 17) = true := beq_iff_eq.mpr c11
              have c11b1 : (t135 != 17) = false := bne_eq_false_iff_eq.mpr c11
              clear c11
              by_cases c12 : t136 = 15
              · rw [if_pos c12] at H
                have c12b0 : (t136 == 15) = true := beq_iff_eq.mpr c12
                have c12b1 : (t136 != 15) = false := bne_eq_false_iff_eq.mpr c12
                clear c12
                by_cases c13 : t137 = 26
                · rw [if_pos c13] at H
                  have c13b0 : (t137 == 26) = true := beq_iff_eq.mpr c13
                  have c13b1 : (t137 != 26) = false := bne_eq_false_iff_eq.mpr c13
                  clear c13
                  by_cases c14 : t138 = 255
                  · rw [if_pos c14] at H
                    have c14b0 : (t138 == 255) = true := beq_iff_eq.mpr c14
                    have c14b1 : (t138 != 255) = false := bne_eq_false_iff_eq.mpr c14
                    clear c14
                    by_cases c15 : t139 = 187
                    · rw [if_pos c15] at H
                      have c15b0 : (t139 == 187) = true := beq_iff_eq.mpr c15
                      have c15b1 : (t139 != 187) = false := bne_eq_false_iff_eq.mpr c15
                      clear c15
                      replace H := Option.bind_eq_some_iff.mp H
                      obtain ⟨t140, A160, H⟩ := H
                      replace H : (some (t140 == 66)) = some r := H
                      have A16 := Aside0.mk A160
                      clear A160
                      obtain rfl := Option.some.inj H
                      go_enter Try.func34, Try.ntmps34
                      go_wp2_with (first | ((with_reducible refine gate_callee (f := 35) rfl ?_); refine goesL_ (some 12) rfl rfl Try.func35 (by kernel_rfl) rfl #[.int .u8 127, .int .u8 1, .bool false] rfl (by (try simp only [List.map_toArray, List.map_cons, List.map_nil]); first | done | rfl | (simp only [List.length_drop, List.length_take]; rfl)) ?_; (with_reducible refine (sum_Add.calls k 127 1 false t130 t131 _ A1.out).mono ?_); rintro e w17 ⟨rfl, hb⟩; refine ⟨_, rfl, ?_⟩; have n0_ := Aside0.mk (below_step (by repeat (first | (with_reducible first | exact HB.out | apply below_alloc | apply pw_below_drewN | apply below_drew1) | exact HB.out)) hb); clear HB; have HB := n0_; clear n0_; (try clear hb); (try clear hb2); (try clear hk); (try clear hi)) | ((with_reducible refine gate_callee (f := 37) rfl ?_); refine goesL_ (some 16) rfl rfl Try.func37 (by kernel_rfl) rfl #[.int .u8 0, .int .u8 1, .bool false] rfl (by (try simp only [List.map_toArray, List.map_cons, List.map_nil]); first | done | rfl | (simp only [List.length_drop, List.length_take]; rfl)) ?_; (with_reducible refine (sum_Sub.calls k 0 1 false t132 t133 _ A2.out).mono ?_); rintro e w18 ⟨rfl, hb⟩; refine ⟨_, rfl, ?_⟩; have n0_ := Aside0.mk (below_step (by repeat (first | (with_reducible first | exact HB.out | apply below_alloc | apply pw_below_drewN | apply below_drew1) | exact HB.out)) hb); clear HB; have HB := n0_; clear n0_; (try clear hb); (try clear hb2); (try clear hk); (try clear hi)) | ((with_reducible refine gate_callee (f := 43) rfl ?_); refine goesL_ (some 20) rfl rfl Try.func43 (by kernel_rfl) rfl #[.int .u8 15, .int .u8 1] rfl (by (try simp only [List.map_toArray, List.map_cons, List.map_nil]); first | done | rfl | (simp only [List.length_drop, List.length_take]; rfl)) ?_; (with_reducible refine (sum_Inc.calls k 15 1 t134 t135 _ A3.out).mono ?_); rintro e w19 ⟨rfl, hb⟩; refine ⟨_, rfl, ?_⟩; have n0_ := Aside0.mk (below_step (by repeat (first | (with_reducible first | exact HB.out | apply below_alloc | apply pw_below_drewN | apply below_drew1) | exact HB.out)) hb); clear HB; have HB := n0_; clear n0_; (try clear hb); (try clear hb2); (try clear hk); (try clear hi)) | ((with_reducible refine gate_callee (f := 45) rfl ?_); refine goesL_ (some 24) rfl rfl Try.func45 (by kernel_rfl) rfl #[.int .u8 16, .int .u8 0] rfl (by (try simp only [List.map_toArray, List.map_cons, List.map_nil]); first | done | rfl | (simp only [List.length_drop, List.length_take]; rfl)) ?_; (with_reducible refine (sum_Dec.calls k 16 0 t136 t137 _ A4.out).mono ?_); rintro e w20 ⟨rfl, hb⟩; refine ⟨_, rfl, ?_⟩; have n0_ := Aside0.mk (below_step (by repeat (first | (with_reducible first | exact HB.out | apply below_alloc | apply pw_below_drewN | apply below_drew1) | exact HB.out)) hb); clear HB; have HB := n0_; clear n0_; (try clear hb); (try clear hb2); (try clear hk); (try clear hi)) | ((with_reducible refine gate_callee (f := 39) rfl ?_); refine goesL_ (some 28) rfl rfl Try.func39 (by kernel_rfl) rfl #[.int .u8 1] rfl (by (try simp only [List.map_toArray, List.map_cons, List.map_nil]); first | done | rfl | (simp only [List.length_drop, List.length_take]; rfl)) ?_; (with_reducible refine (sum_Neg.calls k 1 t138 t139 _ A5.out).mono ?_); rintro e w21 ⟨rfl, hb⟩; refine ⟨_, rfl, ?_⟩; have n0_ := Aside0.mk (below_step (by repeat (first | (with_reducible first | exact HB.out | apply below_alloc | apply pw_below_drewN | apply below_drew1) | exact HB.out)) hb); clear HB; have HB := n0_; clear n0_; (try clear hb); (try clear hb2); (try clear hk); (try clear hi)) | (go_at_call 41; (with_reducible refine (sum_Cmp.calls k 5 5 t140 _ A16.out).mono ?_); rintro e w22 ⟨rfl, hb⟩; have n0_ := Aside0.mk (below_step (by repeat (first | (with_reducible first | exact HB.out | apply below_alloc | apply pw_below_drewN | apply below_drew1) | exact HB.out)) hb); clear HB; have HB := n0_; clear n0_; (try clear hb); (try clear hb2); (try clear hk); (try clear hi)))
                      go_ret
                      exact ⟨by first | rfl | (simp [errW_none, errW_some] <;> rfl) | (simp [*, errW_none, errW_some] <;> rfl), by repeat (first | (with_reducible first | exact HB.out | apply below_alloc | apply pw_below_drewN | apply below_drew1) | exact HB.out)⟩
                    · rw [if_neg c15] at H
                      have c15b0 : (t139 == 187) = false := beq_eq_false_iff_ne.mpr c15
                      have c15b1 : (t139 != 187) = true := bne_iff_ne.mpr c15
                      obtain rfl := Option.some.inj H
                      go_enter Try.func34, Try.ntmps34
                      go_wp2_with (first | ((with_reducible refine gate_callee (f := 35) rfl ?_); refine goesL_ (some 12) rfl rfl Try.func35 (by kernel_rfl) rfl #[.int .u8 127, .int .u8 1, .bool false] rfl (by (try simp only [List.map_toArray, List.map_cons, List.map_nil]); first | done | rfl | (simp only [List.length_drop, List.length_take]; rfl)) ?_; (with_reducible refine (sum_Add.calls k 127 1 false t130 t131 _ A1.out).mono ?_); rintro e w23 ⟨rfl, hb⟩; refine ⟨_, rfl, ?_⟩; have n0_ := Aside0.mk (below_step (by repeat (first | (with_reducible first | exact HB.out | apply below_alloc | apply pw_below_drewN | apply below_drew1) | exact HB.out)) hb); clear HB; have HB := n0_; clear n0_; (try clear hb); (try clear hb2); (try clear hk); (try clear hi)) | ((with_reducible refine gate_callee (f := 37) rfl ?_); refine goesL_ (some 16) rfl rfl Try.func37 (by kernel_rfl) rfl #[.int .u8 0, .int .u8 1, .bool false] rfl (by (try simp only [List.map_toArray, List.map_cons, List.map_nil]); first | done | rfl | (simp only [List.length_drop, List.length_take]; rfl)) ?_; (with_reducible refine (sum_Sub.calls k 0 1 false t132 t133 _ A2.out).mono ?_); rintro e w24 ⟨rfl, hb⟩; refine ⟨_, rfl, ?_⟩; have n0_ := Aside0.mk (below_step (by repeat (first | (with_reducible first | exact HB.out | apply below_alloc | apply pw_below_drewN | apply below_drew1) | exact HB.out)) hb); clear HB; have HB := n0_; clear n0_; (try clear hb); (try clear hb2); (try clear hk); (try clear hi)) | ((with_reducible refine gate_callee (f := 43) rfl ?_); refine goesL_ (some 20) rfl rfl Try.func43 (by kernel_rfl) rfl #[.int .u8 15, .int .u8 1] rfl (by (try simp only [List.map_toArray, List.map_cons, List.map_nil]); first | done | rfl | (simp only [List.length_drop, List.length_take]; rfl)) ?_; (with_reducible refine (sum_Inc.calls k 15 1 t134 t135 _ A3.out).mono ?_); rintro e w25 ⟨rfl, hb⟩; refine ⟨_, rfl, ?_⟩; have n0_ := Aside0.mk (below_step (by repeat (first | (with_reducible first | exact HB.out | apply below_alloc | apply pw_below_drewN | apply below_drew1) | exact HB.out)) hb); clear HB; have HB := n0_; clear n0_; (try clear hb); (try clear hb2); (try clear hk); (try clear hi)) | ((with_reducible refine gate_callee (f := 45) rfl ?_); refine goesL_ (some 24) rfl rfl Try.func45 (by kernel_rfl) rfl #[.int .u8 16, .int .u8 0] rfl (by (try simp only [List.map_toArray, List.map_cons, List.map_nil]); first | done | rfl | (simp only [List.length_drop, List.length_take]; rfl)) ?_; (with_reducible refine (sum_Dec.calls k 16 0 t136 t137 _ A4.out).mono ?_); rintro e w26 ⟨rfl, hb⟩; refine ⟨_, rfl, ?_⟩; have n0_ := Aside0.mk (below_step (by repeat (first | (with_reducible first | exact HB.out | apply below_alloc | apply pw_below_drewN | apply below_drew1) | exact HB.out)) hb); clear HB; have HB := n0_; clear n0_; (try clear hb); (try clear hb2); (try clear hk); (try clear hi)) | ((with_reducible refine gate_callee (f := 39) rfl ?_); refine goesL_ (some 28) rfl rfl Try.func39 (by kernel_rfl) rfl #[.int .u8 1] rfl (by (try simp only [List.map_toArray, List.map_cons, List.map_nil]); first | done | rfl | (simp only [List.length_drop, List.length_take]; rfl)) ?_; (with_reducible refine (sum_Neg.calls k 1 t138 t139 _ A5.out).mono ?_); rintro e w27 ⟨rfl, hb⟩; refine ⟨_, rfl, ?_⟩; have n0_ := Aside0.mk (below_step (by repeat (first | (with_reducible first | exact HB.out | apply below_alloc | apply pw_below_drewN | apply below_drew1) | exact HB.out)) hb); clear HB; have HB := n0_; clear n0_; (try clear hb); (try clear hb2); (try clear hk); (try clear hi)))
                      go_ret
                      exact ⟨by first | rfl | (simp [errW_none, errW_some] <;> rfl) | (simp [*, errW_none, errW_some] <;> rfl), by repeat (first | (with_reducible first | exact HB.out | apply below_alloc | apply pw_below_drewN | apply below_drew1) | exact HB.out)⟩
                  · rw [if_neg c14] at H
                    have c14b0 : (t138 == 255) = false := beq_eq_false_iff_ne.mpr c14
                    have c14b1 : (t138 != 255) = true := bne_iff_ne.mpr c14
                    obtain rfl := Option.some.inj H
                    go_enter Try.func34, Try.ntmps34
                    go_wp2_with (first | ((with_reducible refine gate_callee (f := 35) rfl ?_); refine goesL_ (some 12) rfl rfl Try.func35 (by kernel_rfl) rfl #[.int .u8 127, .int .u8 1, .bool false] rfl (by (try simp only [List.map_toArray, List.map_cons, List.map_nil]); first | done | rfl | (simp only [List.length_drop, List.length_take]; rfl)) ?_; (with_reducible refine (sum_Add.calls k 127 1 false t130 t131 _ A1.out).mono ?_); rintro e w28 ⟨rfl, hb⟩; refine ⟨_, rfl, ?_⟩; have n0_ := Aside0.mk (below_step (by repeat (first | (with_reducible first | exact HB.out | apply below_alloc | apply pw_below_drewN | apply below_drew1) | exact HB.out)) hb); clear HB; have HB := n0_; clear n0_; (try clear hb); (try clear hb2); (try clear hk); (try clear hi)) | ((with_reducible refine gate_callee (f := 37) rfl ?_); refine goesL_ (some 16) rfl rfl Try.func37 (by kernel_rfl) rfl #[.int .u8 0, .int .u8 1, .bool false] rfl (by (try simp only [List.map_toArray, List.map_cons, List.map_nil]); first | done | rfl | (simp only [List.length_drop, List.length_take]; rfl)) ?_; (with_reducible refine (sum_Sub.calls k 0 1 false t132 t133 _ A2.out).mono ?_); rintro e w29 ⟨rfl, hb⟩; refine ⟨_, rfl, ?_⟩; have n0_ := Aside0.mk (below_step (by repeat (first | (with_reducible first | exact HB.out | apply below_alloc | apply pw_below_drewN | apply below_drew1) | exact HB.out)) hb); clear HB; have HB := n0_; clear n0_; (try clear hb); (try clear hb2); (try clear hk); (try clear hi)) | ((with_reducible refine gate_callee (f := 43) rfl ?_); refine goesL_ (some 20) rfl rfl Try.func43 (by kernel_rfl) rfl #[.int .u8 15, .int .u8 1] rfl (by (try simp only [List.map_toArray, List.map_cons, List.map_nil]); first | done | rfl | (simp only [List.length_drop, List.length_take]; rfl)) ?_; (with_reducible refine (sum_Inc.calls k 15 1 t134 t135 _ A3.out).mono ?_); rintro e w30 ⟨rfl, hb⟩; refine ⟨_, rfl, ?_⟩; have n0_ := Aside0.mk (below_step (by repeat (first | (with_reducible first | exact HB.out | apply below_alloc | apply pw_below_drewN | apply below_drew1) | exact HB.out)) hb); clear HB; have HB := n0_; clear n0_; (try clear hb); (try clear hb2); (try clear hk); (try clear hi)) | ((with_reducible refine gate_callee (f := 45) rfl ?_); refine goesL_ (some 24) rfl rfl Try.func45 (by kernel_rfl) rfl #[.int .u8 16, .int .u8 0] rfl (by (try simp only [List.map_toArray, List.map_cons, List.map_nil]); first | done | rfl | (simp only [List.length_drop, List.length_take]; rfl)) ?_; (with_reducible refine (sum_Dec.calls k 16 0 t136 t137 _ A4.out).mono ?_); rintro e w31 ⟨rfl, hb⟩; refine ⟨_, rfl, ?_⟩; have n0_ := Aside0.mk (below_step (by repeat (first | (with_reducible first | exact HB.out | apply below_alloc | apply pw_below_drewN | apply below_drew1) | exact HB.out)) hb); clear HB; have HB := n0_; clear n0_; (try clear hb); (try clear hb2); (try clear hk); (try clear hi)) | ((with_reducible refine gate_callee (f := 39) rfl ?_); refine goesL_ (some 28) rfl rfl Try.func39 (by kernel_rfl) rfl #[.int .u8 1] rfl (by (try simp only [List.map_toArray, List.map_cons, List.map_nil]); first | done | rfl | (simp only [List.length_drop, List.length_take]; rfl)) ?_; (with_reducible refine (sum_Neg.calls k 1 t138 t139 _ A5.out).mono ?_); rintro e w32 ⟨rfl, hb⟩; refine ⟨_, rfl, ?_⟩; have n0_ := Aside0.mk (below_step (by repeat (first | (with_reducible first | exact HB.out | apply below_alloc | apply pw_below_drewN | apply below_drew1) | exact HB.out)) hb); clear HB; have HB := n0_; clear n0_; (try clear hb); (try clear hb2); (try clear hk); (try clear hi)))
                    go_ret
                    exact ⟨by first | rfl | (simp [errW_none, errW_some] <;> rfl) | (simp [*, errW_none, errW_some] <;> rfl), by repeat (first | (with_reducible first | exact HB.out | apply below_alloc | apply pw_below_drewN | apply below_drew1) | exact HB.out)⟩
                · rw [if_neg c13] at H
                  have c13b0 : (t137 == 26) = false := beq_eq_false_iff_ne.mpr c13
                  have c13b1 : (t137 != 26) = true := bne_iff_ne.mpr c13
                  obtain rfl := Option.some.inj H
                  go_enter Try.func34, Try.ntmps34
                  go_wp2_with (first | ((with_reducible refine gate_callee (f := 35) rfl ?_); refine goesL_ (some 12) rfl rfl Try.func35 (by kernel_rfl) rfl #[.int .u8 127, .int .u8 1, .bool false] rfl (by (try simp only [List.map_toArray, List.map_cons, List.map_nil]); first | done | rfl | (simp only [List.length_drop, List.length_take]; rfl)) ?_; (with_reducible refine (sum_Add.calls k 127 1 false t130 t131 _ A1.out).mono ?_); rintro e w33 ⟨rfl, hb⟩; refine ⟨_, rfl, ?_⟩; have n0_ := Aside0.mk (below_step (by repeat (first | (with_reducible first | exact HB.out | apply below_alloc | apply pw_below_drewN | apply below_drew1) | exact HB.out)) hb); clear HB; have HB := n0_; clear n0_; (try clear hb); (try clear hb2); (try clear hk); (try clear hi)) | ((with_reducible refine gate_callee (f := 37) rfl ?_); refine goesL_ (some 16) rfl rfl Try.func37 (by kernel_rfl) rfl #[.int .u8 0, .int .u8 1, .bool false] rfl (by (try simp only [List.map_toArray, List.map_cons, List.map_nil]); first | done | rfl | (simp only [List.length_drop, List.length_take]; rfl)) ?_; (with_reducible refine (sum_Sub.calls k 0 1 false t132 t133 _ A2.out).mono ?_); rintro e w34 ⟨rfl, hb⟩; refine ⟨_, rfl, ?_⟩; have n0_ := Aside0.mk (below_step (by repeat (first | (with_reducible first | exact HB.out | apply below_alloc | apply pw_below_drewN | apply below_drew1) | exact HB.out)) hb); clear HB; have HB := n0_; clear n0_; (try clear hb); (try clear hb2); (try clear hk); (try clear hi)) | ((with_reducible refine gate_callee (f := 43) rfl ?_); refine goesL_ (some 20) rfl rfl Try.func43 (by kernel_rfl) rfl #[.int .u8 15, .int .u8 1] rfl (by (try simp only [List.map_toArray, List.map_cons, List.map_nil]); first | done | rfl | (simp only [List.length_drop, List.length_take]; rfl)) ?_; (with_reducible refine (sum_Inc.calls k 15 1 t134 t135 _ A3.out).mono ?_); rintro e w35 ⟨rfl, hb⟩; refine ⟨_, rfl, ?_⟩; have n0_ := Aside0.mk (below_step (by repeat (first | (with_reducible first | exact HB.out | apply below_alloc | apply pw_below_drewN | apply below_drew1) | exact HB.out)) hb); clear HB; have HB := n0_; clear n0_; (try clear hb); (try clear hb2); (try clear hk); (try clear hi)) | ((with_reducible refine gate_callee (f := 45) rfl ?_); refine goesL_ (some 24) rfl rfl Try.func45 (by kernel_rfl) rfl #[.int .u8 16, .int .u8 0] rfl (by (try simp only [List.map_toArray, List.map_cons, List.map_nil]); first | done | rfl | (simp only [List.length_drop, List.length_take]; rfl)) ?_; (with_reducible refine (sum_Dec.calls k 16 0 t136 t137 _ A4.out).mono ?_); rintro e w36 ⟨rfl, hb⟩; refine ⟨_, rfl, ?_⟩; have n0_ := Aside0.mk (below_step (by repeat (first | (with_reducible first | exact HB.out | apply below_alloc | apply pw_below_drewN | apply below_drew1) | exact HB.out)) hb); clear HB; have HB := n0_; clear n0_; (try clear hb); (try clear hb2); (try clear hk); (try clear hi)) | ((with_reducible refine gate_callee (f := 39) rfl ?_); refine goesL_ (some 28) rfl rfl Try.func39 (by kernel_rfl) rfl #[.int .u8 1] rfl (by (try simp only [List.map_toArray, List.map_cons, List.map_nil]); first | done | rfl | (simp only [List.length_drop, List.length_take]; rfl)) ?_; (with_reducible refine (sum_Neg.calls k 1 t138 t139 _ A5.out).mono ?_); rintro e w37 ⟨rfl, hb⟩; refine ⟨_, rfl, ?_⟩; have n0_ := Aside0.mk (below_step (by repeat (first | (with_reducible first | exact HB.out | apply below_alloc | apply pw_below_drewN | apply below_drew1) | exact HB.out)) hb); clear HB; have HB := n0_; clear n0_; (try clear hb); (try clear hb2); (try clear hk); (try clear hi)))
                  go_ret
                  exact ⟨by first | rfl | (simp [errW_none, errW_some] <;> rfl) | (simp [*, errW_none, errW_some] <;> rfl), by repeat (first | (with_reducible first | exact HB.out | apply below_alloc | apply pw_below_drewN | apply below_drew1) | exact HB.out)⟩
              · rw [if_neg c12] at H
                have c12b0 : (t136 == 15) = false := beq_eq_false_iff_ne.mpr c12
                have c12b1 : (t136 != 15) = true := bne_iff_ne.mpr c12
                obtain rfl := Option.some.inj H
                go_enter Try.func34, Try.ntmps34
                go_wp2_with (first | ((with_reducible refine gate_callee (f := 35) rfl ?_); refine goesL_ (some 12) rfl rfl Try.func35 (by kernel_rfl) rfl #[.int .u8 127, .int .u8 1, .bool false] rfl (by (try simp only [List.map_toArray, List.map_cons, List.map_nil]); first | done | rfl | (simp only [List.length_drop, List.length_take]; rfl)) ?_; (with_reducible refine (sum_Add.calls k 127 1 false t130 t131 _ A1.out).mono ?_); rintro e w38 ⟨rfl, hb⟩; refine ⟨_, rfl, ?_⟩; have n0_ := Aside0.mk (below_step (by repeat (first | (with_reducible first | exact HB.out | apply below_alloc | apply pw_below_drewN | apply below_drew1) | exact HB.out)) hb); clear HB; have HB := n0_; clear n0_; (try clear hb); (try clear hb2); (try clear hk); (try clear hi)) | ((with_reducible refine gate_callee (f := 37) rfl ?_); refine goesL_ (some 16) rfl rfl Try.func37 (by kernel_rfl) rfl #[.int .u8 0, .int .u8 1, .bool false] rfl (by (try simp only [List.map_toArray, List.map_cons, List.map_nil]); first | done | rfl | (simp only [List.length_drop, List.length_take]; rfl)) ?_; (with_reducible refine (sum_Sub.calls k 0 1 false t132 t133 _ A2.out).mono ?_); rintro e w39 ⟨rfl, hb⟩; refine ⟨_, rfl, ?_⟩; have n0_ := Aside0.mk (below_step (by repeat (first | (with_reducible first | exact HB.out | apply below_alloc | apply pw_below_drewN | apply below_drew1) | exact HB.out)) hb); clear HB; have HB := n0_; clear n0_; (try clear hb); (try clear hb2); (try clear hk); (try clear hi)) | ((with_reducible refine gate_callee (f := 43) rfl ?_); refine goesL_ (some 20) rfl rfl Try.func43 (by kernel_rfl) rfl #[.int .u8 15, .int .u8 1] rfl (by (try simp only [List.map_toArray, List.map_cons, List.map_nil]); first | done | rfl | (simp only [List.length_drop, List.length_take]; rfl)) ?_; (with_reducible refine (sum_Inc.calls k 15 1 t134 t135 _ A3.out).mono ?_); rintro e w40 ⟨rfl, hb⟩; refine ⟨_, rfl, ?_⟩; have n0_ := Aside0.mk (below_step (by repeat (first | (with_reducible first | exact HB.out | apply below_alloc | apply pw_below_drewN | apply below_drew1) | exact HB.out)) hb); clear HB; have HB := n0_; clear n0_; (try clear hb); (try clear hb2); (try clear hk); (try clear hi)) | ((with_reducible refine gate_callee (f := 45) rfl ?_); refine goesL_ (some 24) rfl rfl Try.func45 (by kernel_rfl) rfl #[.int .u8 16, .int .u8 0] rfl (by (try simp only [List.map_toArray, List.map_cons, List.map_nil]); first | done | rfl | (simp only [List.length_drop, List.length_take]; rfl)) ?_; (with_reducible refine (sum_Dec.calls k 16 0 t136 t137 _ A4.out).mono ?_); rintro e w41 ⟨rfl, hb⟩; refine ⟨_, rfl, ?_⟩; have n0_ := Aside0.mk (below_step (by repeat (first | (with_reducible first | exact HB.out | apply below_alloc | apply pw_below_drewN | apply below_drew1) | exact HB.out)) hb); clear HB; have HB := n0_; clear n0_; (try clear hb); (try clear hb2); (try clear hk); (try clear hi)) | ((with_reducible refine gate_callee (f := 39) rfl ?_); refine goesL_ (some 28) rfl rfl Try.func39 (by kernel_rfl) rfl #[.int .u8 1] rfl (by (try simp only [List.map_toArray, List.map_cons, List.map_nil]); first | done | rfl | (simp only [List.length_drop, List.length_take]; rfl)) ?_; (with_reducible refine (sum_Neg.calls k 1 t138 t139 _ A5.out).mono ?_); rintro e w42 ⟨rfl, hb⟩; refine ⟨_, rfl, ?_⟩; have n0_ := Aside0.mk (below_step (by repeat (first | (with_reducible first | exact HB.out | apply below_alloc | apply pw_below_drewN | apply below_drew1) | exact HB.out)) hb); clear HB; have HB := n0_; clear n0_; (try clear hb); (try clear hb2); (try clear hk); (try clear hi)))
                go_ret
                exact ⟨by first | rfl | (simp [errW_none, errW_some] <;> rfl) | (simp [*, errW_none, errW_some] <;> rfl), by repeat (first | (with_reducible first | exact HB.out | apply below_alloc | apply pw_below_drewN | apply below_drew1) | exact HB.out)⟩
            · rw [if_neg c11] at H
              have c11b0 : (t135 == 17) = false := beq_eq_false_iff_ne.mpr c11
              have c11b1 : (t135 != 17) = true := bne_iff_ne.mpr c11
              obtain rfl := Option.some.inj H
              go_enter Try.func34, Try.ntmps34
              go_wp2_with (first | ((with_reducible refine gate_callee (f := 35) rfl ?_); refine goesL_ (some 12) rfl rfl Try.func35 (by kernel_rfl) rfl #[.int .u8 127, .int .u8 1, .bool false] rfl (by (try simp only [List.map_toArray, List.map_cons, List.map_nil]); first | done | rfl | (simp only [List.length_drop, List.length_take]; rfl)) ?_; (with_reducible refine (sum_Add.calls k 127 1 false t130 t131 _ A1.out).mono ?_); rintro e w43 ⟨rfl, hb⟩; refine ⟨_, rfl, ?_⟩; have n0_ := Aside0.mk (below_step (by repeat (first | (with_reducible first | exact HB.out | apply below_alloc | apply pw_below_drewN | apply below_drew1) | exact HB.out)) hb); clear HB; have HB := n0_; clear n0_; (try clear hb); (try clear hb2); (try clear hk); (try clear hi)) | ((with_reducible refine gate_callee (f := 37) rfl ?_); refine goesL_ (some 16) rfl rfl Try.func37 (by kernel_rfl) rfl #[.int .u8 0, .int .u8 1, .bool false] rfl (by (try simp only [List.map_toArray, List.map_cons, List.map_nil]); first | done | rfl | (simp only [List.length_drop, List.length_take]; rfl)) ?_; (with_reducible refine (sum_Sub.calls k 0 1 false t132 t133 _ A2.out).mono ?_); rintro e w44 ⟨rfl, hb⟩; refine ⟨_, rfl, ?_⟩; have n0_ := Aside0.mk (below_step (by repeat (first | (with_reducible first | exact HB.out | apply below_alloc | apply pw_below_drewN | apply below_drew1) | exact HB.out)) hb); clear HB; have HB := n0_; clear n0_; (try clear hb); (try clear hb2); (try clear hk); (try clear hi)) | ((with_reducible refine gate_callee (f := 43) rfl ?_); refine goesL_ (some 20) rfl rfl Try.func43 (by kernel_rfl) rfl #[.int .u8 15, .int .u8 1] rfl (by (try simp only [List.map_toArray, List.map_cons, List.map_nil]); first | done | rfl | (simp only [List.length_drop, List.length_take]; rfl)) ?_; (with_reducible refine (sum_Inc.calls k 15 1 t134 t135 _ A3.out).mono ?_); rintro e w45 ⟨rfl, hb⟩; refine ⟨_, rfl, ?_⟩; have n0_ := Aside0.mk (below_step (by repeat (first | (with_reducible first | exact HB.out | apply below_alloc | apply pw_below_drewN | apply below_drew1) | exact HB.out)) hb); clear HB; have HB := n0_; clear n0_; (try clear hb); (try clear hb2); (try clear hk); (try clear hi)) | ((with_reducible refine gate_callee (f := 45) rfl ?_); refine goesL_ (some 24) rfl rfl Try.func45 (by kernel_rfl) rfl #[.int .u8 16, .int .u8 0] rfl (by (try simp only [List.map_toArray, List.map_cons, List.map_nil]); first | done | rfl | (simp only [List.length_drop, List.length_take]; rfl)) ?_; (with_reducible refine (sum_Dec.calls k 16 0 t136 t137 _ A4.out).mono ?_); rintro e w46 ⟨rfl, hb⟩; refine ⟨_, rfl, ?_⟩; have n0_ := Aside0.mk (below_step (by repeat (first | (with_reducible first | exact HB.out | apply below_alloc | apply pw_below_drewN | apply below_drew1) | exact HB.out)) hb); clear HB; have HB := n0_; clear n0_; (try clear hb); (try clear hb2); (try clear hk); (try clear hi)) | ((with_reducible refine gate_callee (f := 39) rfl ?_); refine goesL_ (some 28) rfl rfl Try.func39 (by kernel_rfl) rfl #[.int .u8 1] rfl (by (try simp only [List.map_toArray, List.map_cons, List.map_nil]); first | done | rfl | (simp only [List.length_drop, List.length_take]; rfl)) ?_; (with_reducible refine (sum_Neg.calls k 1 t138 t139 _ A5.out).mono ?_); rintro e w47 ⟨rfl, hb⟩; refine ⟨_, rfl, ?_⟩; have n0_ := Aside0.mk (below_step (by repeat (first | (with_reducible first | exact HB.out | apply below_alloc | apply pw_below_drewN | apply below_drew1) | exact HB.out)) hb); clear HB; have HB := n0_; clear n0_; (try clear hb); (try clear hb2); (try clear hk); (try clear hi)))
              go_ret
              exact ⟨by first | rfl | (simp [errW_none, errW_some] <;> rfl) | (simp [*, errW_none, errW_some] <;> rfl), by repeat (first | (with_reducible first | exact HB.out | apply below_alloc | apply pw_below_drewN | apply below_drew1) | exact HB.out)⟩
          · rw [if_neg c10] at H
            have c10b0 : (t134 == 16) = false := beq_eq_false_iff_ne.mpr c10
            have c10b1 : (t134 != 16) = true := bne_iff_ne.mpr c10
            obtain rfl := Option.some.inj H
            go_enter Try.func34, Try.ntmps34
            go_wp2_with (first | ((with_reducible refine gate_callee (f := 35) rfl ?_); refine goesL_ (some 12) rfl rfl Try.func35 (by kernel_rfl) rfl #[.int .u8 127, .int .u8 1, .bool false] rfl (by (try simp only [List.map_toArray, List.map_cons, List.map_nil]); first | done | rfl | (simp only [List.length_drop, List.length_take]; rfl)) ?_; (with_reducible refine (sum_Add.calls k 127 1 false t130 t131 _ A1.out).mono ?_); rintro e w48 ⟨rfl, hb⟩; refine ⟨_, rfl, ?_⟩; have n0_ := Aside0.mk (below_step (by repeat (first | (with_reducible first | exact HB.out | apply below_alloc | apply pw_below_drewN | apply below_drew1) | exact HB.out)) hb); clear HB; have HB := n0_; clear n0_; (try clear hb); (try clear hb2); (try clear hk); (try clear hi)) | ((with_reducible refine gate_callee (f := 37) rfl ?_); refine goesL_ (some 16) rfl rfl Try.func37 (by kernel_rfl) rfl #[.int .u8 0, .int .u8 1, .bool false] rfl (by (try simp only [List.map_toArray, List.map_cons, List.map_nil]); first | done | rfl | (simp only [List.length_drop, List.length_take]; rfl)) ?_; (with_reducible refine (sum_Sub.calls k 0 1 false t132 t133 _ A2.out).mono ?_); rintro e w49 ⟨rfl, hb⟩; refine ⟨_, rfl, ?_⟩; have n0_ := Aside0.mk (below_step (by repeat (first | (with_reducible first | exact HB.out | apply below_alloc | apply pw_below_drewN | apply below_drew1) | exact HB.out)) hb); clear HB; have HB := n0_; clear n0_; (try clear hb); (try clear hb2); (try clear hk); (try clear hi)) | ((with_reducible refine gate_callee (f := 43) rfl ?_); refine goesL_ (some 20) rfl rfl Try.func43 (by kernel_rfl) rfl #[.int .u8 15, .int .u8 1] rfl (by (try simp only [List.map_toArray, List.map_cons, List.map_nil]); first | done | rfl | (simp only [List.length_drop, List.length_take]; rfl)) ?_; (with_reducible refine (sum_Inc.calls k 15 1 t134 t135 _ A3.out).mono ?_); rintro e w50 ⟨rfl, hb⟩; refine ⟨_, rfl, ?_⟩; have n0_ := Aside0.mk (below_step (by repeat (first | (with_reducible first | exact HB.out | apply below_alloc | apply pw_below_drewN | apply below_drew1) | exact HB.out)) hb); clear HB; have HB := n0_; clear n0_; (try clear hb); (try clear hb2); (try clear hk); (try clear hi)) | ((with_reducible refine gate_callee (f := 45) rfl ?_); refine goesL_ (some 24) rfl rfl Try.func45 (by kernel_rfl) rfl #[.int .u8 16, .int .u8 0] rfl (by (try simp only [List.map_toArray, List.map_cons, List.map_nil]); first | done | rfl | (simp only [List.length_drop, List.length_take]; rfl)) ?_; (with_reducible refine (sum_Dec.calls k 16 0 t136 t137 _ A4.out).mono ?_); rintro e w51 ⟨rfl, hb⟩; refine ⟨_, rfl, ?_⟩; have n0_ := Aside0.mk (below_step (by repeat (first | (with_reducible first | exact HB.out | apply below_alloc | apply pw_below_drewN | apply below_drew1) | exact HB.out)) hb); clear HB; have HB := n0_; clear n0_; (try clear hb); (try clear hb2); (try clear hk); (try clear hi)) | ((with_reducible refine gate_callee (f := 39) rfl ?_); refine goesL_ (some 28) rfl rfl Try.func39 (by kernel_rfl) rfl #[.int .u8 1] rfl (by (try simp only [List.map_toArray, List.map_cons, List.map_nil]); first | done | rfl | (simp only [List.length_drop, List.length_take]; rfl)) ?_; (with_reducible refine (sum_Neg.calls k 1 t138 t139 _ A5.out).mono ?_); rintro e w52 ⟨rfl, hb⟩; refine ⟨_, rfl, ?_⟩; have n0_ := Aside0.mk (below_step (by repeat (first | (with_reducible first | exact HB.out | apply below_alloc | apply pw_below_drewN | apply below_drew1) | exact HB.out)) hb); clear HB; have HB := n0_; clear n0_; (try clear hb); (try clear hb2); (try clear hk); (try clear hi)))
            go_ret
            exact ⟨by first | rfl | (simp [errW_none, errW_some] <;> rfl) | (simp [*, errW_none, errW_some] <;> rfl), by repeat (first | (with_reducible first | exact HB.out | apply below_alloc | apply pw_below_drewN | apply below_drew1) | exact HB.out)⟩
        · rw [if_neg c9] at H
          have c9b0 : (t133 == 187) = false := beq_eq_false_iff_ne.mpr c9
          have c9b1 : (t133 != 187) = true := bne_iff_ne.mpr c9
          obtain rfl := Option.some.inj H
          go_enter Try.func34, Try.ntmps34
          go_wp2_with (first | ((with_reducible refine gate_callee (f := 35) rfl ?_); refine goesL_ (some 12) rfl rfl Try.func35 (by kernel_rfl) rfl #[.int .u8 127, .int .u8 1, .bool false] rfl (by (try simp only [List.map_toArray, List.map_cons, List.map_nil]); first | done | rfl | (simp only [List.length_drop, List.length_take]; rfl)) ?_; (with_reducible refine (sum_Add.calls k 127 1 false t130 t131 _ A1.out).mono ?_); rintro e w53 ⟨rfl, hb⟩; refine ⟨_, rfl, ?_⟩; have n0_ := Aside0.mk (below_step (by repeat (first | (with_reducible first | exact HB.out | apply below_alloc | apply pw_below_drewN | apply below_drew1) | exact HB.out)) hb); clear HB; have HB := n0_; clear n0_; (try clear hb); (try clear hb2); (try clear hk); (try clear hi)) | ((with_reducible refine gate_callee (f := 37) rfl ?_); refine goesL_ (some 16) rfl rfl Try.func37 (by kernel_rfl) rfl #[.int .u8 0, .int .u8 1, .bool false] rfl (by (try simp only [List.map_toArray, List.map_cons, List.map_nil]); first | done | rfl | (simp only [List.length_drop, List.length_take]; rfl)) ?_; (with_reducible refine (sum_Sub.calls k 0 1 false t132 t133 _ A2.out).mono ?_); rintro e w54 ⟨rfl, hb⟩; refine ⟨_, rfl, ?_⟩; have n0_ := Aside0.mk (below_step (by repeat (first | (with_reducible first | exact HB.out | apply below_alloc | apply pw_below_drewN | apply below_drew1) | exact HB.out)) hb); clear HB; have HB := n0_; clear n0_; (try clear hb); (try clear hb2); (try clear hk); (try clear hi)) | ((with_reducible refine gate_callee (f := 43) rfl ?_); refine goesL_ (some 20) rfl rfl Try.func43 (by kernel_rfl) rfl #[.int .u8 15, .int .u8 1] rfl (by (try simp only [List.map_toArray, List.map_cons, List.map_nil]); first | done | rfl | (simp only [List.length_drop, List.length_take]; rfl)) ?_; (with_reducible refine (sum_Inc.calls k 15 1 t134 t135 _ A3.out).mono ?_); rintro e w55 ⟨rfl, hb⟩; refine ⟨_, rfl, ?_⟩; have n0_ := Aside0.mk (below_step (by repeat (first | (with_reducible first | exact HB.out | apply below_alloc | apply pw_below_drewN | apply below_drew1) | exact HB.out)) hb); clear HB; have HB := n0_; clear n0_; (try clear hb); (try clear hb2); (try clear hk); (try clear hi)) | ((with_reducible refine gate_callee (f := 45) rfl ?_); refine goesL_ (some 24) rfl rfl Try.func45 (by kernel_rfl) rfl #[.int .u8 16, .int .u8 0] rfl (by (try simp only [List.map_toArray, List.map_cons, List.map_nil]); first | done | rfl | (simp only [List.length_drop, List.length_take]; rfl)) ?_; (with_reducible refine (sum_Dec.calls k 16 0 t136 t137 _ A4.out).mono ?_); rintro e w56 ⟨rfl, hb⟩; refine ⟨_, rfl, ?_⟩; have n0_ := Aside0.mk (below_step (by repeat (first | (with_reducible first | exact HB.out | apply below_alloc | apply pw_below_drewN | apply below_drew1) | exact HB.out)) hb); clear HB; have HB := n0_; clear n0_; (try clear hb); (try clear hb2); (try clear hk); (try clear hi)) | ((with_reducible refine gate_callee (f := 39) rfl ?_); refine goesL_ (some 28) rfl rfl Try.func39 (by kernel_rfl) rfl #[.int .u8 1] rfl (by (try simp only [List.map_toArray, List.map_cons, List.map_nil]); first | done | rfl | (simp only [List.length_drop, List.length_take]; rfl)) ?_; (with_reducible refine (sum_Neg.calls k 1 t138 t139 _ A5.out).mono ?_); rintro e w57 ⟨rfl, hb⟩; refine ⟨_, rfl, ?_⟩; have n0_ := Aside0.mk (below_step (by repeat (first | (with_reducible first | exact HB.out | apply below_alloc | apply pw_below_drewN | apply below_drew1) | exact HB.out)) hb); clear HB; have HB := n0_; clear n0_; (try clear hb); (try clear hb2); (try clear hk); (try clear hi)))
          go_ret
          exact ⟨by first | rfl | (simp [errW_none, errW_some] <;> rfl) | (simp [*, errW_none, errW_some] <;> rfl), by repeat (first | (with_reducible first | exact HB.out | apply below_alloc | apply pw_below_drewN | apply below_drew1) | exact HB.out)⟩
      · rw [if_neg c8] at H
        have c8b0 : (t132 == 255) = false := beq_eq_false_iff_ne.mpr c8
        have c8b1 : (t132 != 255) = true := bne_iff_ne.mpr c8
        obtain rfl := Option.some.inj H
        go_enter Try.func34, Try.ntmps34
        go_wp2_with (first | ((with_reducible refine gate_callee (f := 35) rfl ?_); refine goesL_ (some 12) rfl rfl Try.func35 (by kernel_rfl) rfl #[.int .u8 127, .int .u8 1, .bool false] rfl (by (try simp only [List.map_toArray, List.map_cons, List.map_nil]); first | done | rfl | (simp only [List.length_drop, List.length_take]; rfl)) ?_; (with_reducible refine (sum_Add.calls k 127 1 false t130 t131 _ A1.out).mono ?_); rintro e w58 ⟨rfl, hb⟩; refine ⟨_, rfl, ?_⟩; have n0_ := Aside0.mk (below_step (by repeat (first | (with_reducible first | exact HB.out | apply below_alloc | apply pw_below_drewN | apply below_drew1) | exact HB.out)) hb); clear HB; have HB := n0_; clear n0_; (try clear hb); (try clear hb2); (try clear hk); (try clear hi)) | ((with_reducible refine gate_callee (f := 37) rfl ?_); refine goesL_ (some 16) rfl rfl Try.func37 (by kernel_rfl) rfl #[.int .u8 0, .int .u8 1, .bool false] rfl (by (try simp only [List.map_toArray, List.map_cons, List.map_nil]); first | done | rfl | (simp only [List.length_drop, List.length_take]; rfl)) ?_; (with_reducible refine (sum_Sub.calls k 0 1 false t132 t133 _ A2.out).mono ?_); rintro e w59 ⟨rfl, hb⟩; refine ⟨_, rfl, ?_⟩; have n0_ := Aside0.mk (below_step (by repeat (first | (with_reducible first | exact HB.out | apply below_alloc | apply pw_below_drewN | apply below_drew1) | exact HB.out)) hb); clear HB; have HB := n0_; clear n0_; (try clear hb); (try clear hb2); (try clear hk); (try clear hi)) | ((with_reducible refine gate_callee (f := 43) rfl ?_); refine goesL_ (some 20) rfl rfl Try.func43 (by kernel_rfl) rfl #[.int .u8 15, .int .u8 1] rfl (by (try simp only [List.map_toArray, List.map_cons, List.map_nil]); first | done | rfl | (simp only [List.length_drop, List.length_take]; rfl)) ?_; (with_reducible refine (sum_Inc.calls k 15 1 t134 t135 _ A3.out).mono ?_); rintro e w60 ⟨rfl, hb⟩; refine ⟨_, rfl, ?_⟩; have n0_ := Aside0.mk (below_step (by repeat (first | (with_reducible first | exact HB.out | apply below_alloc | apply pw_below_drewN | apply below_drew1) | exact HB.out)) hb); clear HB; have HB := n0_; clear n0_; (try clear hb); (try clear hb2); (try clear hk); (try clear hi)) | ((with_reducible refine gate_callee (f := 45) rfl ?_); refine goesL_ (some 24) rfl rfl Try.func45 (by kernel_rfl) rfl #[.int .u8 16, .int .u8 0] rfl (by (try simp only [List.map_toArray, List.map_cons, List.map_nil]); first | done | rfl | (simp only [List.length_drop, List.length_take]; rfl)) ?_; (with_reducible refine (sum_Dec.calls k 16 0 t136 t137 _ A4.out).mono ?_); rintro e w61 ⟨rfl, hb⟩; refine ⟨_, rfl, ?_⟩; have n0_ := Aside0.mk (below_step (by repeat (first | (with_reducible first | exact HB.out | apply below_alloc | apply pw_below_drewN | apply below_drew1) | exact HB.out)) hb); clear HB; have HB := n0_; clear n0_; (try clear hb); (try clear hb2); (try clear hk); (try clear hi)) | ((with_reducible refine gate_callee (f := 39) rfl ?_); refine goesL_ (some 28) rfl rfl Try.func39 (by kernel_rfl) rfl #[.int .u8 1] rfl (by (try simp only [List.map_toArray, List.map_cons, List.map_nil]); first | done | rfl | (simp only [List.length_drop, List.length_take]; rfl)) ?_; (with_reducible refine (sum_Neg.calls k 1 t138 t139 _ A5.out).mono ?_); rintro e w62 ⟨rfl, hb⟩; refine ⟨_, rfl, ?_⟩; have n0_ := Aside0.mk (below_step (by repeat (first | (with_reducible first | exact HB.out | apply below_alloc | apply pw_below_drewN | apply below_drew1) | exact HB.out)) hb); clear HB; have HB := n0_; clear n0_; (try clear hb); (try clear hb2); (try clear hk); (try clear hi)))
        go_ret
        exact ⟨by first | rfl | (simp [errW_none, errW_some] <;> rfl) | (simp [*, errW_none, errW_some] <;> rfl), by repeat (first | (with_reducible first | exact HB.out | apply below_alloc | apply pw_below_drewN | apply below_drew1) | exact HB.out)⟩
    · rw [if_neg c7] at H
      have c7b0 : (t131 == 148) = false := beq_eq_false_iff_ne.mpr c7
      have c7b1 : (t131 != 148) = true := bne_iff_ne.mpr c7
      obtain rfl := Option.some.inj H
      go_enter Try.func34, Try.ntmps34
      go_wp2_with (first | ((with_reducible refine gate_callee (f := 35) rfl ?_); refine goesL_ (some 12) rfl rfl Try.func35 (by kernel_rfl) rfl #[.int .u8 127, .int .u8 1, .bool false] rfl (by (try simp only [List.map_toArray, List.map_cons, List.map_nil]); first | done | rfl | (simp only [List.length_drop, List.length_take]; rfl)) ?_; (with_reducible refine (sum_Add.calls k 127 1 false t130 t131 _ A1.out).mono ?_); rintro e w63 ⟨rfl, hb⟩; refine ⟨_, rfl, ?_⟩; have n0_ := Aside0.mk (below_step (by repeat (first | (with_reducible first | exact HB.out | apply below_alloc | apply pw_below_drewN | apply below_drew1) | exact HB.out)) hb); clear HB; have HB := n0_; clear n0_; (try clear hb); (try clear hb2); (try clear hk); (try clear hi)) | ((with_reducible refine gate_callee (f := 37) rfl ?_); refine goesL_ (some 16) rfl rfl Try.func37 (by kernel_rfl) rfl #[.int .u8 0, .int .u8 1, .bool false] rfl (by (try simp only [List.map_toArray, List.map_cons, List.map_nil]); first | done | rfl | (simp only [List.length_drop, List.length_take]; rfl)) ?_; (with_reducible refine (sum_Sub.calls k 0 1 false t132 t133 _ A2.out).mono ?_); rintro e w64 ⟨rfl, hb⟩; refine ⟨_, rfl, ?_⟩; have n0_ := Aside0.mk (below_step (by repeat (first | (with_reducible first | exact HB.out | apply below_alloc | apply pw_below_drewN | apply below_drew1) | exact HB.out)) hb); clear HB; have HB := n0_; clear n0_; (try clear hb); (try clear hb2); (try clear hk); (try clear hi)) | ((with_reducible refine gate_callee (f := 43) rfl ?_); refine goesL_ (some 20) rfl rfl Try.func43 (by kernel_rfl) rfl #[.int .u8 15, .int .u8 1] rfl (by (try simp only [List.map_toArray, List.map_cons, List.map_nil]); first | done | rfl | (simp only [List.length_drop, List.length_take]; rfl)) ?_; (with_reducible refine (sum_Inc.calls k 15 1 t134 t135 _ A3.out).mono ?_); rintro e w65 ⟨rfl, hb⟩; refine ⟨_, rfl, ?_⟩; have n0_ := Aside0.mk (below_step (by repeat (first | (with_reducible first | exact HB.out | apply below_alloc | apply pw_below_drewN | apply below_drew1) | exact HB.out)) hb); clear HB; have HB := n0_; clear n0_; (try clear hb); (try clear hb2); (try clear hk); (try clear hi)) | ((with_reducible refine gate_callee (f := 45) rfl ?_); refine goesL_ (some 24) rfl rfl Try.func45 (by kernel_rfl) rfl #[.int .u8 16, .int .u8 0] rfl (by (try simp only [List.map_toArray, List.map_cons, List.map_nil]); first | done | rfl | (simp only [List.length_drop, List.length_take]; rfl)) ?_; (with_reducible refine (sum_Dec.calls k 16 0 t136 t137 _ A4.out).mono ?_); rintro e w66 ⟨rfl, hb⟩; refine ⟨_, rfl, ?_⟩; have n0_ := Aside0.mk (below_step (by repeat (first | (with_reducible first | exact HB.out | apply below_alloc | apply pw_below_drewN | apply below_drew1) | exact HB.out)) hb); clear HB; have HB := n0_; clear n0_; (try clear hb); (try clear hb2); (try clear hk); (try clear hi)) | ((with_reducible refine gate_callee (f := 39) rfl ?_); refine goesL_ (some 28) rfl rfl Try.func39 (by kernel_rfl) rfl #[.int .u8 1] rfl (by (try simp only [List.map_toArray, List.map_cons, List.map_nil]); first | done | rfl | (simp only [List.length_drop, List.length_take]; rfl)) ?_; (with_reducible refine (sum_Neg.calls k 1 t138 t139 _ A5.out).mono ?_); rintro e w67 ⟨rfl, hb⟩; refine ⟨_, rfl, ?_⟩; have n0_ := Aside0.mk (below_step (by repeat (first | (with_reducible first | exact HB.out | apply below_alloc | apply pw_below_drewN | apply below_drew1) | exact HB.out)) hb); clear HB; have HB := n0_; clear n0_; (try clear hb); (try clear hb2); (try clear hk); (try clear hi)))
      go_ret
      exact ⟨by first | rfl | (simp [errW_none, errW_some] <;> rfl) | (simp [*, errW_none, errW_some] <;> rfl), by repeat (first | (with_reducible first | exact HB.out | apply below_alloc | apply pw_below_drewN | apply below_drew1) | exact HB.out)⟩
  · rw [if_neg c6] at H
    have c6b0 : (t130 == 128) = false := beq_eq_false_iff_ne.mpr c6
    have c6b1 : (t130 != 128) = true := bne_iff_ne.mpr c6
    obtain rfl := Option.some.inj H
    go_enter Try.func34, Try.ntmps34
    go_wp2_with (first | ((with_reducible refine gate_callee (f := 35) rfl ?_); refine goesL_ (some 12) rfl rfl Try.func35 (by kernel_rfl) rfl #[.int .u8 127, .int .u8 1, .bool false] rfl (by (try simp only [List.map_toArray, List.map_cons, List.map_nil]); first | done | rfl | (simp only [List.length_drop, List.length_take]; rfl)) ?_; (with_reducible refine (sum_Add.calls k 127 1 false t130 t131 _ A1.out).mono ?_); rintro e w68 ⟨rfl, hb⟩; refine ⟨_, rfl, ?_⟩; have n0_ := Aside0.mk (below_step (by repeat (first | (with_reducible first | exact HB.out | apply below_alloc | apply pw_below_drewN | apply below_drew1) | exact HB.out)) hb); clear HB; have HB := n0_; clear n0_; (try clear hb); (try clear hb2); (try clear hk); (try clear hi)) | ((with_reducible refine gate_callee (f := 37) rfl ?_); refine goesL_ (some 16) rfl rfl Try.func37 (by kernel_rfl) rfl #[.int .u8 0, .int .u8 1, .bool false] rfl (by (try simp only [List.map_toArray, List.map_cons, List.map_nil]); first | done | rfl | (simp only [List.length_drop, List.length_take]; rfl)) ?_; (with_reducible refine (sum_Sub.calls k 0 1 false t132 t133 _ A2.out).mono ?_); rintro e w69 ⟨rfl, hb⟩; refine ⟨_, rfl, ?_⟩; have n0_ := Aside0.mk (below_step (by repeat (first | (with_reducible first | exact HB.out | apply below_alloc | apply pw_below_drewN | apply below_drew1) | exact HB.out)) hb); clear HB; have HB := n0_; clear n0_; (try clear hb); (try clear hb2); (try clear hk); (try clear hi)) | ((with_reducible refine gate_callee (f := 43) rfl ?_); refine goesL_ (some 20) rfl rfl Try.func43 (by kernel_rfl) rfl #[.int .u8 15, .int .u8 1] rfl (by (try simp only [List.map_toArray, List.map_cons, List.map_nil]); first | done | rfl | (simp only [List.length_drop, List.length_take]; rfl)) ?_; (with_reducible refine (sum_Inc.calls k 15 1 t134 t135 _ A3.out).mono ?_); rintro e w70 ⟨rfl, hb⟩; refine ⟨_, rfl, ?_⟩; have n0_ := Aside0.mk (below_step (by repeat (first | (with_reducible first | exact HB.out | apply below_alloc | apply pw_below_drewN | apply below_drew1) | exact HB.out)) hb); clear HB; have HB := n0_; clear n0_; (try clear hb); (try clear hb2); (try clear hk); (try clear hi)) | ((with_reducible refine gate_callee (f := 45) rfl ?_); refine goesL_ (some 24) rfl rfl Try.func45 (by kernel_rfl) rfl #[.int .u8 16, .int .u8 0] rfl (by (try simp only [List.map_toArray, List.map_cons, List.map_nil]); first | done | rfl | (simp only [List.length_drop, List.length_take]; rfl)) ?_; (with_reducible refine (sum_Dec.calls k 16 0 t136 t137 _ A4.out).mono ?_); rintro e w71 ⟨rfl, hb⟩; refine ⟨_, rfl, ?_⟩; have n0_ := Aside0.mk (below_step (by repeat (first | (with_reducible first | exact HB.out | apply below_alloc | apply pw_below_drewN | apply below_drew1) | exact HB.out)) hb); clear HB; have HB := n0_; clear n0_; (try clear hb); (try clear hb2); (try clear hk); (try clear hi)) | ((with_reducible refine gate_callee (f := 39) rfl ?_); refine goesL_ (some 28) rfl rfl Try.func39 (by kernel_rfl) rfl #[.int .u8 1] rfl (by (try simp only [List.map_toArray, List.map_cons, List.map_nil]); first | done | rfl | (simp only [List.length_drop, List.length_take]; rfl)) ?_; (with_reducible refine (sum_Neg.calls k 1 t138 t139 _ A5.out).mono ?_); rintro e w72 ⟨rfl, hb⟩; refine ⟨_, rfl, ?_⟩; have n0_ := Aside0.mk (below_step (by repeat (first | (with_reducible first | exact HB.out | apply below_alloc | apply pw_below_drewN | apply below_drew1) | exact HB.out)) hb); clear HB; have HB := n0_; clear n0_; (try clear hb); (try clear hb2); (try clear hk); (try clear hi)))
    go_ret
    exact ⟨by first | rfl | (simp [errW_none, errW_some] <;> rfl) | (simp [*, errW_none, errW_some] <;> rfl), by repeat (first | (with_reducible first | exact HB.out | apply below_alloc | apply pw_below_drewN | apply below_drew1) | exact HB.out)⟩

/-! ### charabancref01_Signed: function 31 -/
def charabancref01_Signed.f (a0 : Int) : Option (Int) := if a0 < 128 then (some (wrap64 (a0))) else (some (wrap64 ((wrap64 (a0)) - 256)))
set_option maxHeartbeats 8000000 in
set_option maxRecDepth 100000 in
theorem charabancref01_Signed.calls (a0 : Int) (r : Int) (w : World) (h : charabancref01_Signed.f a0 = some r) :
    Calls Try.prog 31 #[.int .u8 a0] w fun e w' => e = .returned (.int .i64 r) ∧ Drawn0 w w' := by
  have H : (if a0 < 128 then (some (wrap64 (a0))) else (some (wrap64 ((wrap64 (a0)) - 256)))) = some r := h
  clear h
  by_cases c2 : a0 < 128
  · rw [if_pos c2] at H
    have c2b0 : decide (a0 < 128) = true := decide_eq_true c2
    clear c2
    obtain rfl := Option.some.inj H
    go_enter Try.func31, Try.ntmps31
    go_wp2
    go_ret
    exact ⟨by first | rfl | (simp; done) | (simp [*]; done), by repeat (first | exact Drawn0.refl _ | apply Drawn0.step)⟩
  · rw [if_neg c2] at H
    have c2b0 : decide (a0 < 128) = false := decide_eq_false c2
    clear c2
    obtain rfl := Option.some.inj H
    go_enter Try.func31, Try.ntmps31
    go_wp2
    go_ret
    exact ⟨by first | rfl | (simp; done) | (simp [*]; done), by repeat (first | exact Drawn0.refl _ | apply Drawn0.step)⟩

/-! ### charabancref03_one: function 66 -/
def charabancref03_one.f (a0 : Bool) : Option (Int) := if a0 = true then (some 1) else (some 0)
set_option maxHeartbeats 8000000 in
set_option maxRecDepth 100000 in
theorem charabancref03_one.calls (a0 : Bool) (r : Int) (w : World) (h : charabancref03_one.f a0 = some r) :
    Calls Try.prog 66 #[.bool a0] w fun e w' => e = .returned (.int .i64 r) ∧ Drawn0 w w' := by
  have H : (if a0 = true then (some 1) else (some 0)) = some r := h
  clear h
  by_cases c2 : a0 = true
  · subst c2
    have H1 : (some 1) = some r := by rw [if_pos rfl] at H; exact H
    clear H
    have H := H1
    clear H1
    obtain rfl := Option.some.inj H
    go_enter Try.func66, Try.ntmps66
    go_wp2
    go_ret
    exact ⟨by first | rfl | (simp; done) | (simp [*]; done), by repeat (first | exact Drawn0.refl _ | apply Drawn0.step)⟩
  · replace c2 := Bool.eq_false_iff.mpr c2
    subst c2
    have H1 : (some 0) = some r := by rw [if_neg (show ¬ (false = true) by decide)] at H; exact H
    clear H
    have H := H1
    clear H1
    obtain rfl := Option.some.inj H
    go_enter Try.func66, Try.ntmps66
    go_wp2
    go_ret
    exact ⟨by first | rfl | (simp; done) | (simp [*]; done), by repeat (first | exact Drawn0.refl _ | apply Drawn0.step)⟩

/-! ### charabancref01_Power: function 59 -/
def charabancref01_Power.l0 : Nat → Int → Int → Int → Option (Int)
  | 0, _, _, _ => none
  | k + 1, x0, x3, x4 => if x4 < x0 then (charabancref01_Power.l0 k x0 (wrap64 (x3 * 2)) (wrap64 (x4 + 1))) else (some x3)
def charabancref01_Power.f (k : Nat) (a0 : Int) : Option (Int) := charabancref01_Power.l0 k a0 1 0
theorem charabancref01_Power.mono_l : ∀ k, (∀ y0 y1 y2, LeO (charabancref01_Power.l0 k y0 y1 y2) (charabancref01_Power.l0 (k + 1) y0 y1 y2))
  | 0 => fun _ _ _ r h => by simp [charabancref01_Power.l0] at h
  | k + 1 => by
    have ih0 := charabancref01_Power.mono_l k
    · intro y0 y1 y2
      unfold charabancref01_Power.l0
      repeat' first
      | (with_reducible exact ih0 _ _ _)
      | (with_reducible exact LeO.refl _)
      | (with_reducible exact LeO.none _)
      | (with_reducible refine LeO.ite ?_ ?_)
      | (with_reducible refine LeO.bind ?_ (fun _ => ?_))
      | exact ih0 _ _ _
      | exact LeO.none _
      | refine LeO.ite ?_ ?_
      | refine LeO.bind ?_ (fun _ => ?_)
theorem charabancref01_Power.mono : ∀ a0 k, LeO (charabancref01_Power.f k a0) (charabancref01_Power.f (k + 1) a0) := by
  intro a0 k
  have ih0 := charabancref01_Power.mono_l k
  unfold charabancref01_Power.f
  repeat' first
      | (with_reducible exact ih0 _ _ _)
      | (with_reducible exact LeO.refl _)
      | (with_reducible exact LeO.none _)
      | (with_reducible refine LeO.ite ?_ ?_)
      | (with_reducible refine LeO.bind ?_ (fun _ => ?_))
      | exact ih0 _ _ _
      | exact LeO.none _
      | refine LeO.ite ?_ ?_
      | refine LeO.bind ?_ (fun _ => ?_)
set_option maxHeartbeats 8000000 in
set_option maxRecDepth 100000 in
theorem charabancref01_Power.calls (k : Nat) (a0 : Int) (r : Int) (w : World) (h : charabancref01_Power.f k a0 = some r) :
    Calls Try.prog 59 #[.int .i64 a0] w fun e w' => e = .returned (.int .i64 r) ∧ Drawn0 w w' := by
  have H : (charabancref01_Power.l0 k a0 1 0) = some r := h
  clear h
  have H' := Aside0.mk H
  clear H
  go_enter Try.func59, Try.ntmps59
  go_wp2
  go_loopg [3, 4] k (fun kq v3 v4 w' => ∃ (x3_1 : Int) (x4_1 : Int), v3 = .int .i64 x3_1 ∧ v4 = .int .i64 x4_1 ∧ Aside0 (charabancref01_Power.l0 kq a0 x3_1 x4_1 = some r) ∧ Aside0 (kq ≤ k) ∧ Drawn0 w w')
  case atStart => exact ⟨(1), (0), (by first | rfl | (simp; done) | (simp [*]; done)), (by first | rfl | (simp; done) | (simp [*]; done)), H', ⟨Nat.le_refl _⟩, by repeat (first | exact Drawn0.refl _ | apply Drawn0.step)⟩
  case round =>
    clear H'
    obtain ⟨x3_1, x4_1, rfl, rfl, HA, HK1, ⟨m1, rfl⟩⟩ := hrel
    cases gk with
    | zero => exact absurd HA.out (by simp [charabancref01_Power.l0])
    | succ k1 =>
      have H := HA.out
      clear HA
      simp only [charabancref01_Power.l0] at H
      by_cases c2 : x4_1 < a0
      · rw [if_pos c2] at H
        have c2b0 : decide (x4_1 < a0) = true := decide_eq_true c2
        clear c2
        have H' := Aside0.mk H
        clear H
        go_wp2
        go_roundg k1
        case measure => have := HK1.out; omega
        case rel => exact ⟨(wrap64 (x3_1 * 2)), (wrap64 (x4_1 + 1)), (by first | rfl | (simp; done) | (simp [*]; done)), (by first | rfl | (simp; done) | (simp [*]; done)), H', ⟨by have := HK1.out; omega⟩, by repeat (first | exact Drawn0.refl _ | apply Drawn0.step)⟩
      · rw [if_neg c2] at H
        have c2b0 : decide (x4_1 < a0) = false := decide_eq_false c2
        clear c2
        obtain rfl := Option.some.inj H
        go_wp2
        go_ret
        exact ⟨by first | rfl | (simp; done) | (simp [*]; done), by repeat (first | exact Drawn0.refl _ | apply Drawn0.step)⟩

/-! ### charabancref01_Is: function 23 -/
def charabancref01_Is.f (k : Nat) (a0 : Int) (a1 : Int) : Option (Bool) := if a1 < 0 then (some false) else (if a1 > 7 then (some false) else ((charabancref01_Power.f k a1).bind fun t141 => (if t141 = 0 then (none) else (some ((Int.tmod (wrap64 (Int.tdiv (wrap64 (a0)) t141)) 2) == 1)))))
theorem charabancref01_Is.mono : ∀ a0 a1 k, LeO (charabancref01_Is.f k a0 a1) (charabancref01_Is.f (k + 1) a0 a1) := by
  intro a0 a1 k
  unfold charabancref01_Is.f
  repeat' first
      | (with_reducible exact charabancref01_Power.mono _ _)
      | (with_reducible exact LeO.refl _)
      | (with_reducible exact LeO.none _)
      | (with_reducible refine LeO.ite ?_ ?_)
      | (with_reducible refine LeO.bind ?_ (fun _ => ?_))
      | exact charabancref01_Power.mono _ _
      | exact LeO.none _
      | refine LeO.ite ?_ ?_
      | refine LeO.bind ?_ (fun _ => ?_)
set_option maxHeartbeats 8000000 in
set_option maxRecDepth 100000 in
theorem charabancref01_Is.calls (k : Nat) (a0 : Int) (a1 : Int) (r : Bool) (w : World) (h : charabancref01_Is.f k a0 a1 = some r) :
    Calls Try.prog 23 #[.int .u8 a0, .int .i64 a1] w fun e w' => e = .returned (.bool r) ∧ Drawn0 w w' := by
  have H : (if a1 < 0 then (some false) else (if a1 > 7 then (some false) else ((charabancref01_Power.f k a1).bind fun t141 => (if t141 = 0 then (none) else (some ((Int.tmod (wrap64 (Int.tdiv (wrap64 (a0)) t141)) 2) == 1)))))) = some r := h
  clear h
  by_cases c3 : a1 < 0
  · rw [if_pos c3] at H
    have c3b0 : decide (a1 < 0) = true := decide_eq_true c3
    clear c3
    obtain rfl := Option.some.inj H
    go_enter Try.func23, Try.ntmps23
    go_wp2
    go_ret
    exact ⟨by first | rfl | (simp; done) | (simp [*]; done), by repeat (first | exact Drawn0.refl _ | apply Drawn0.step)⟩
  · rw [if_neg c3] at H
    have c3b0 : decide (a1 < 0) = false := decide_eq_false c3
    clear c3
    by_cases c4 : a1 > 7
    · rw [if_pos c4] at H
      have c4b0 : decide (7 < a1) = true := decide_eq_true c4
      clear c4
      obtain rfl := Option.some.inj H
      go_enter Try.func23, Try.ntmps23
      go_wp2
      go_ret
      exact ⟨by first | rfl | (simp; done) | (simp [*]; done), by repeat (first | exact Drawn0.refl _ | apply Drawn0.step)⟩
    · rw [if_neg c4] at H
      have c4b0 : decide (7 < a1) = false := decide_eq_false c4
      clear c4
      replace H := Option.bind_eq_some_iff.mp H
      obtain ⟨t141, A50, H⟩ := H
      replace H : (if t141 = 0 then (none) else (some ((Int.tmod (wrap64 (Int.tdiv (wrap64 (a0)) t141)) 2) == 1))) = some r := H
      have A5 := Aside0.mk A50
      clear A50
      by_cases c6 : t141 = 0
      · rw [if_pos c6] at H
        exact absurd H (by simp)
      · rw [if_neg c6] at H
        have c6b0 : (t141 == 0) = false := beq_eq_false_iff_ne.mpr c6
        have c6b1 : (t141 != 0) = true := bne_iff_ne.mpr c6
        obtain rfl := Option.some.inj H
        go_enter Try.func23, Try.ntmps23
        go_wp2_with (first | ((with_reducible refine gate_callee (f := 59) rfl ?_); refine goesL_ (some 14) rfl rfl Try.func59 (by kernel_rfl) rfl #[.int .i64 a1] rfl (by (try simp only [List.map_toArray, List.map_cons, List.map_nil]); first | done | rfl | (simp only [List.length_drop, List.length_take]; rfl)) ?_; (with_reducible refine (charabancref01_Power.calls k a1 t141 _ A5.out).mono ?_); rintro e w' ⟨rfl, ⟨nd, rfl⟩⟩; refine ⟨_, rfl, ?_⟩))
        go_ret
        exact ⟨by first | rfl | (simp; done) | (simp [*]; done), by repeat (first | exact Drawn0.refl _ | apply Drawn0.step)⟩

-- NOT PRINTED: function 67 (charabancref02_Of)

end Go.Proofs.Ythidmlnoiginiaa.PS
