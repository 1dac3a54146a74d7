/- The reference's sums of bytes (charabancref03), each by its contract: nothing that lay before is turned. -/
import Derived.Test.YtkphidaoodedjaaDoorRef02
namespace Go.Proofs.YtkphidaoodedjaaDoor
open Go.RowKit
set_option linter.unusedVariables false

theorem ret2 {k j : IntKind} {a b c d : Int} (h : a = b) (g : c = d) : Ending.returned (.tuple #[.int k a, .int j c]) = .returned (.tuple #[.int k b, .int j d]) := by rw [h, g]
theorem refsigned_any (b : Int) (h0 : 0 ≤ b) (h1 : b ≤ 255) (w : World) : Calls Tryd.prog 40 #[.int .u8 b] w fun e w' => e = .returned (.int .i64 (M.sg b)) ∧ w = w' := by
  by_cases h : b < 128
  · go_enter Tryd.func40, Tryd.ntmps40
    go_wp2
    go_ret
    exact ⟨ret_int (by unfold M.sg; rw [if_pos h]), rfl⟩
  · go_enter Tryd.func40, Tryd.ntmps40
    go_wp2
    go_ret
    exact ⟨ret_int (by unfold M.sg; rw [if_neg (by omega)]), rfl⟩
theorem refone_any (c : Bool) (w : World) : Calls Tryd.prog 37 #[.bool c] w fun e w' => e = .returned (.int .i64 (M.b2i c)) ∧ w = w' := by
  cases c
  all_goals
    go_enter Tryd.func37, Tryd.ntmps37
    go_wp2
    go_ret
    exact ⟨rfl, rfl⟩
theorem reffar_any (n : Int) (w : World) : Calls Tryd.prog 39 #[.int .i64 n] w fun e w' => e = .returned (.bool (M.far n)) ∧ w = w' := by
  by_cases h : n < -128
  · go_enter Tryd.func39, Tryd.ntmps39
    go_wp2
    go_ret
    exact ⟨ret_bool (by simp [M.far, h]), rfl⟩
  · go_enter Tryd.func39, Tryd.ntmps39
    go_wp2
    go_ret
    exact ⟨ret_bool (by simp [M.far]; omega), rfl⟩

set_option maxHeartbeats 2000000 in
theorem refadd_any (a b : Int) (c : Bool) (h0 : 0 ≤ a) (h1 : a ≤ 255) (h2 : 0 ≤ b) (h3 : b ≤ 255) (w : World) :
    Calls Tryd.prog 22 #[.int .u8 a, .int .u8 b, .bool c] w fun e w' => e = .returned (.tuple #[.int .u8 (M.addR a b c), .int .u8 (M.addF a b c)]) ∧ Below w.heap.size w w' := by
  have hone := refone_any c
  have hc0 : 0 ≤ M.b2i c := by cases c <;> decide
  have hc1 : M.b2i c ≤ 1 := by cases c <;> decide
  have hcr := refresult_any (M.addR a b c) (M.addR_range a b c).1 (M.addR_range a b c).2
  have hr := M.mk_range (M.is (M.addR a b c) 7) (M.addR a b c == 0) (M.is (M.addR a b c) 5) false (M.is (M.addR a b c) 3) false false false
  have hof := refof_any (M.resF (M.addR a b c)) hr.1 hr.2
  simp only [M.resF, ofV, M.is_mk7, M.is_mk6, M.is_mk5, M.is_mk4, M.is_mk3, M.is_mk2, M.is_mk1, M.is_mk0] at hof hcr
  obtain ⟨q, hq⟩ : ∃ q, q = M.b2i c := ⟨_, rfl⟩
  have her : M.addR a b c = (a + b + q) % 256 := by unfold M.addR; rw [← hq]
  have hF : M.addF a b c = M.mk (M.is ((a + b + q) % 256) 7) (((a + b + q) % 256) == 0) (M.is ((a + b + q) % 256) 5) (decide (15 < a % 16 + b % 16 + q)) (M.is ((a + b + q) % 256) 3) (M.far (M.sg a + M.sg b + q)) false (decide (255 < a + b + q)) := by
    unfold M.addF; rw [her, ← hq]
  rw [← hq] at hone hc0 hc1
  rw [her] at hcr hof
  have Her := Lib.hid her
  have HF := Lib.hid hF
  have Hcr := Lib.hid hcr
  have Hof := Lib.hid hof
  have Hone := Lib.hid hone
  have s1 := refsigned_any a h0 h1
  have s2 := refsigned_any b h2 h3
  have hs1 := M.sg_range a h0 h1
  have hs2 := M.sg_range b h2 h3
  obtain ⟨u, hu⟩ : ∃ u, u = M.sg a := ⟨_, rfl⟩
  obtain ⟨v, hv⟩ : ∃ v, v = M.sg b := ⟨_, rfl⟩
  rw [← hu] at s1 hs1
  rw [← hv] at s2 hs2
  have S1 := Lib.hid s1
  have S2 := Lib.hid s2
  have Hu := Lib.hid hu
  have Hv := Lib.hid hv
  clear s1 s2 hu hv hone hq her hF hcr hof hr
  go_enter Tryd.func22, Tryd.ntmps22
  go_wp2_with fail
  refine (Hone.out _).mono ?_
  rintro e w1 ⟨rfl, rfl⟩
  go_wp2_with fail
  refine (Hcr.out _).mono ?_
  rintro e w1 ⟨rfl, hb1⟩
  have z1 := hb1.size
  go_wp2_with fail
  refine (Hof.out _).mono ?_
  rintro e w2 ⟨rfl, hb2⟩
  replace hb2 := bstep (w := w) hb1 hb2
  have z2 := hb2.size
  go_wp2_with fail
  refine (S1.out _).mono ?_
  rintro e w3 ⟨rfl, rfl⟩
  go_wp2_with fail
  refine (S2.out _).mono ?_
  rintro e w3 ⟨rfl, rfl⟩
  go_wp2_with fail
  refine (reffar_any _ _).mono ?_
  rintro e w3 ⟨rfl, rfl⟩
  go_wp2_with fail
  refine (refmake_any _ _ _ _ _ _ _ _ _).mono ?_
  rintro e w3 ⟨rfl, hb3⟩
  replace hb3 := bstep (w := w) (by go_grown) hb3
  go_wp2_with fail
  go_ret2
  exact ⟨ret2 Her.out.symm (by rw [HF.out, ← Hu.out, ← Hv.out]), hb3⟩

set_option maxHeartbeats 2000000 in
theorem refsub_any (a b : Int) (c : Bool) (h0 : 0 ≤ a) (h1 : a ≤ 255) (h2 : 0 ≤ b) (h3 : b ≤ 255) (w : World) :
    Calls Tryd.prog 23 #[.int .u8 a, .int .u8 b, .bool c] w fun e w' => e = .returned (.tuple #[.int .u8 (M.subR a b c), .int .u8 (M.subF a b c)]) ∧ Below w.heap.size w w' := by
  have hone := refone_any c
  have hc0 : 0 ≤ M.b2i c := by cases c <;> decide
  have hc1 : M.b2i c ≤ 1 := by cases c <;> decide
  have hcr := refresult_any (M.subR a b c) (M.subR_range a b c).1 (M.subR_range a b c).2
  have hr := M.mk_range (M.is (M.subR a b c) 7) (M.subR a b c == 0) (M.is (M.subR a b c) 5) false (M.is (M.subR a b c) 3) false false false
  have hof := refof_any (M.resF (M.subR a b c)) hr.1 hr.2
  simp only [M.resF, ofV, M.is_mk7, M.is_mk6, M.is_mk5, M.is_mk4, M.is_mk3, M.is_mk2, M.is_mk1, M.is_mk0] at hof hcr
  obtain ⟨q, hq⟩ : ∃ q, q = M.b2i c := ⟨_, rfl⟩
  have her : M.subR a b c = (a - b - q + 512) % 256 := by unfold M.subR; rw [← hq]; omega
  have hF : M.subF a b c = M.mk (M.is ((a - b - q + 512) % 256) 7) (((a - b - q + 512) % 256) == 0) (M.is ((a - b - q + 512) % 256) 5) (decide (a % 16 - b % 16 - q < 0)) (M.is ((a - b - q + 512) % 256) 3) (M.far (M.sg a - M.sg b - q)) true (decide (a - b - q < 0)) := by
    unfold M.subF; rw [her, ← hq]
  rw [← hq] at hone hc0 hc1
  rw [her] at hcr hof
  have Her := Lib.hid her
  have HF := Lib.hid hF
  have Hcr := Lib.hid hcr
  have Hof := Lib.hid hof
  have Hone := Lib.hid hone
  have s1 := refsigned_any a h0 h1
  have s2 := refsigned_any b h2 h3
  have hs1 := M.sg_range a h0 h1
  have hs2 := M.sg_range b h2 h3
  obtain ⟨u, hu⟩ : ∃ u, u = M.sg a := ⟨_, rfl⟩
  obtain ⟨v, hv⟩ : ∃ v, v = M.sg b := ⟨_, rfl⟩
  rw [← hu] at s1 hs1
  rw [← hv] at s2 hs2
  have S1 := Lib.hid s1
  have S2 := Lib.hid s2
  have Hu := Lib.hid hu
  have Hv := Lib.hid hv
  clear s1 s2 hu hv hone hq her hF hcr hof hr
  go_enter Tryd.func23, Tryd.ntmps23
  go_wp2_with fail
  refine (Hone.out _).mono ?_
  rintro e w1 ⟨rfl, rfl⟩
  go_wp2_with fail
  refine (Hcr.out _).mono ?_
  rintro e w1 ⟨rfl, hb1⟩
  have z1 := hb1.size
  go_wp2_with fail
  refine (Hof.out _).mono ?_
  rintro e w2 ⟨rfl, hb2⟩
  replace hb2 := bstep (w := w) hb1 hb2
  have z2 := hb2.size
  go_wp2_with fail
  refine (S1.out _).mono ?_
  rintro e w3 ⟨rfl, rfl⟩
  go_wp2_with fail
  refine (S2.out _).mono ?_
  rintro e w3 ⟨rfl, rfl⟩
  go_wp2_with fail
  refine (reffar_any _ _).mono ?_
  rintro e w3 ⟨rfl, rfl⟩
  go_wp2_with fail
  refine (refmake_any _ _ _ _ _ _ _ _ _).mono ?_
  rintro e w3 ⟨rfl, hb3⟩
  replace hb3 := bstep (w := w) (by go_grown) hb3
  go_wp2_with fail
  go_ret2
  exact ⟨ret2 Her.out.symm (by rw [HF.out, ← Hu.out, ← Hv.out]), hb3⟩

end Go.Proofs.YtkphidaoodedjaaDoor
