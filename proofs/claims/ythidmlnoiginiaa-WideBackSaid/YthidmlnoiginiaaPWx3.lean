/- Written by a program of this session out of the translation and the contracts proved by hand: each function's answer and its proof; each law's statement over plain numbers. -/
import Derived.Test.YthidmlnoiginiaaPWx0
import Derived.Test.YthidmlnoiginiaaPWx1
import Derived.Test.YthidmlnoiginiaaPWx2
namespace Go.Proofs.Ythidmlnoiginiaa.PW
open Go.RowKit Go.Proofs.YthidmlnoiginiaaW.PrintWords Go.Proofs.YthidmlnoiginiaaW.PrintLast Go.Proofs.YthidmlnoiginiaaW.PrintMore
attribute [local go_sem] max2_int min2_int max_two min_two max_three min_three max_four min_four   -- for this text's walks alone
set_option linter.unusedVariables false
set_option linter.unusedSimpArgs false

/-! ### charabancref03_far: function 69 -/
def charabancref03_far.f (a0 : Int) : Option (Bool) := if a0 < (-128) then (some true) else (some (decide (a0 > 127)))
set_option maxHeartbeats 8000000 in
set_option maxRecDepth 100000 in
theorem charabancref03_far.calls (a0 : Int) (r : Bool) (w : World) (h : charabancref03_far.f a0 = some r) :
    Calls Try.prog 69 #[.int .i64 a0] w fun e w' => e = .returned (.bool r) ∧ Drawn0 w w' := by
  have H : (if a0 < (-128) then (some true) else (some (decide (a0 > 127)))) = some r := h
  clear h
  by_cases c2 : a0 < (-128)
  · rw [if_pos c2] at H
    have c2b0 : decide (a0 < (-128)) = true := decide_eq_true c2
    clear c2
    obtain rfl := Option.some.inj H
    go_enter Try.func69, Try.ntmps69
    go_wp2
    go_ret
    exact ⟨by first | rfl | (simp; done) | (simp [*]; done), by repeat (first | exact Drawn0.refl _ | apply Drawn0.step)⟩
  · rw [if_neg c2] at H
    have c2b0 : decide (a0 < (-128)) = false := decide_eq_false c2
    clear c2
    obtain rfl := Option.some.inj H
    go_enter Try.func69, Try.ntmps69
    go_wp2
    go_ret
    exact ⟨by first | rfl | (simp; done) | (simp [*]; done), by repeat (first | exact Drawn0.refl _ | apply Drawn0.step)⟩

/-! ### charabancref03_Add: function 36 -/
def charabancref03_Add.f (a0 : Int) (a1 : Int) (a2 : Bool) : Option (Int × Int) := if (0 ≤ a0 ∧ a0 ≤ 255) ∧ (0 ≤ a1 ∧ a1 ≤ 255) then some (M.addR a0 a1 a2, M.addF a0 a1 a2) else none
theorem charabancref03_Add.calls (a0 : Int) (a1 : Int) (a2 : Bool) (r1 : Int) (r2 : Int) (w : World) (h : charabancref03_Add.f a0 a1 a2 = some (r1, r2)) :
    Calls Try.prog 36 #[.int .u8 a0, .int .u8 a1, .bool a2] w fun e w' => e = .returned (.tuple #[.int .u8 r1, .int .u8 r2]) ∧ Below w.heap.size w w' := by
  unfold charabancref03_Add.f at h
  split at h
  · rename_i hg
    simp only [Option.some.injEq, Prod.mk.injEq] at h
    obtain ⟨rfl, rfl⟩ := h
    exact refadd_any a0 a1 a2 (by omega) (by omega) (by omega) (by omega) w
  · cases h

/-! ### charabancref03_Sub: function 38 -/
def charabancref03_Sub.f (a0 : Int) (a1 : Int) (a2 : Bool) : Option (Int × Int) := if (0 ≤ a0 ∧ a0 ≤ 255) ∧ (0 ≤ a1 ∧ a1 ≤ 255) then some (M.subR a0 a1 a2, M.subF a0 a1 a2) else none
theorem charabancref03_Sub.calls (a0 : Int) (a1 : Int) (a2 : Bool) (r1 : Int) (r2 : Int) (w : World) (h : charabancref03_Sub.f a0 a1 a2 = some (r1, r2)) :
    Calls Try.prog 38 #[.int .u8 a0, .int .u8 a1, .bool a2] w fun e w' => e = .returned (.tuple #[.int .u8 r1, .int .u8 r2]) ∧ Below w.heap.size w w' := by
  unfold charabancref03_Sub.f at h
  split at h
  · rename_i hg
    simp only [Option.some.injEq, Prod.mk.injEq] at h
    obtain ⟨rfl, rfl⟩ := h
    exact refsub_any a0 a1 a2 (by omega) (by omega) (by omega) (by omega) w
  · cases h

/-! ### charabanclaw04_WideBytes: function 13 -/
def charabanclaw04_WideBytes.j0 : Nat → Int → Int → Int → Bool → Option (Bool)
  | 0, _, _, _, _ => none
  | k + 1, x0, x1, x2, x71 => if x71 = true then (some false) else ((wide_Sbc.f x0 x1 x2).bind fun bt177 => ((charabancref01_Lo.f x0).bind fun t179 => ((charabancref01_Lo.f x1).bind fun t180 => ((charabancref03_Sub.f t179 t180 ((Go.bits .and .u8 x2 1) == 1)).bind fun bt181 => ((charabancref01_Hi.f x0).bind fun t183 => ((charabancref01_Hi.f x1).bind fun t184 => ((charabancref03_Sub.f t183 t184 ((Go.bits .and .u8 bt181.2 1) == 1)).bind fun bt185 => ((charabancref01_Word.f bt185.1 bt181.1).bind fun t187 => (if bt177.1 = t187 then (if (Go.bits .and .u8 (Go.bits .xor .u8 bt177.2 bt185.2) 191) = 0 then (some (((Go.bits .and .u8 bt177.2 64) != 0) == (bt177.1 == 0))) else (some false)) else (some false))))))))))
def charabanclaw04_WideBytes.f (k : Nat) (a0 : Int) (a1 : Int) (a2 : Int) : Option (Bool) := (charabanclaw04_awake.f).bind fun t165 => (if t165 = true then ((wide_Adc.f a0 a1 a2).bind fun bt166 => ((charabancref01_Lo.f a0).bind fun t168 => ((charabancref01_Lo.f a1).bind fun t169 => ((charabancref03_Add.f t168 t169 ((Go.bits .and .u8 a2 1) == 1)).bind fun bt170 => ((charabancref01_Hi.f a0).bind fun t172 => ((charabancref01_Hi.f a1).bind fun t173 => ((charabancref03_Add.f t172 t173 ((Go.bits .and .u8 bt170.2 1) == 1)).bind fun bt174 => ((charabancref01_Word.f bt174.1 bt170.1).bind fun t176 => (if bt166.1 = t176 then (if (Go.bits .and .u8 (Go.bits .xor .u8 bt166.2 bt174.2) 191) = 0 then (charabanclaw04_WideBytes.j0 k a0 a1 a2 (((Go.bits .and .u8 bt166.2 64) != 0) != (bt166.1 == 0))) else (charabanclaw04_WideBytes.j0 k a0 a1 a2 true)) else (charabanclaw04_WideBytes.j0 k a0 a1 a2 true)))))))))) else (some false))
theorem charabanclaw04_WideBytes.mono_l : ∀ k, (∀ y0 y1 y2 y3, LeO (charabanclaw04_WideBytes.j0 k y0 y1 y2 y3) (charabanclaw04_WideBytes.j0 (k + 1) y0 y1 y2 y3))
  | 0 => fun _ _ _ _ r h => by simp [charabanclaw04_WideBytes.j0] at h
  | k + 1 => by
    have ih0 := charabanclaw04_WideBytes.mono_l k
    · intro y0 y1 y2 y3
      unfold charabanclaw04_WideBytes.j0
      repeat' first
      | (with_reducible exact ih0 _ _ _ _)
      | (with_reducible exact LeO.refl _)
      | (with_reducible exact LeO.none _)
      | (with_reducible refine LeO.ite ?_ ?_)
      | (with_reducible refine LeO.bind ?_ (fun _ => ?_))
      | exact ih0 _ _ _ _
      | exact LeO.none _
      | refine LeO.ite ?_ ?_
      | refine LeO.bind ?_ (fun _ => ?_)
theorem charabanclaw04_WideBytes.mono : ∀ a0 a1 a2 k, LeO (charabanclaw04_WideBytes.f k a0 a1 a2) (charabanclaw04_WideBytes.f (k + 1) a0 a1 a2) := by
  intro a0 a1 a2 k
  have ih0 := charabanclaw04_WideBytes.mono_l k
  unfold charabanclaw04_WideBytes.f
  repeat' first
      | (with_reducible exact ih0 _ _ _ _)
      | (with_reducible exact LeO.refl _)
      | (with_reducible exact LeO.none _)
      | (with_reducible refine LeO.ite ?_ ?_)
      | (with_reducible refine LeO.bind ?_ (fun _ => ?_))
      | exact ih0 _ _ _ _
      | exact LeO.none _
      | refine LeO.ite ?_ ?_
      | refine LeO.bind ?_ (fun _ => ?_)
set_option maxHeartbeats 8000000 in
set_option maxRecDepth 100000 in
theorem charabanclaw04_WideBytes.calls (k : Nat) (a0 : Int) (a1 : Int) (a2 : Int) (r : Bool) (w : World) (h : charabanclaw04_WideBytes.f k a0 a1 a2 = some r) :
    Calls Try.prog 13 #[.int .u16 a0, .int .u16 a1, .int .u8 a2] w fun e w' => e = .returned (.bool r) ∧ Below w.heap.size w w' := by
  have HB := Aside0.mk (Below.refl w.heap.size w)
  have H : ((charabanclaw04_awake.f).bind fun t165 => (if t165 = true then ((wide_Adc.f a0 a1 a2).bind fun bt166 => ((charabancref01_Lo.f a0).bind fun t168 => ((charabancref01_Lo.f a1).bind fun t169 => ((charabancref03_Add.f t168 t169 ((Go.bits .and .u8 a2 1) == 1)).bind fun bt170 => ((charabancref01_Hi.f a0).bind fun t172 => ((charabancref01_Hi.f a1).bind fun t173 => ((charabancref03_Add.f t172 t173 ((Go.bits .and .u8 bt170.2 1) == 1)).bind fun bt174 => ((charabancref01_Word.f bt174.1 bt170.1).bind fun t176 => (if bt166.1 = t176 then (if (Go.bits .and .u8 (Go.bits .xor .u8 bt166.2 bt174.2) 191) = 0 then (charabanclaw04_WideBytes.j0 k a0 a1 a2 (((Go.bits .and .u8 bt166.2 64) != 0) != (bt166.1 == 0))) else (charabanclaw04_WideBytes.j0 k a0 a1 a2 true)) else (charabanclaw04_WideBytes.j0 k a0 a1 a2 true)))))))))) else (some false))) = some r := h
  clear h
  replace H := Option.bind_eq_some_iff.mp H
  obtain ⟨t165, A40, H⟩ := H
  replace H : (if t165 = true then ((wide_Adc.f a0 a1 a2).bind fun bt166 => ((charabancref01_Lo.f a0).bind fun t168 => ((charabancref01_Lo.f a1).bind fun t169 => ((charabancref03_Add.f t168 t169 ((Go.bits .and .u8 a2 1) == 1)).bind fun bt170 => ((charabancref01_Hi.f a0).bind fun t172 => ((charabancref01_Hi.f a1).bind fun t173 => ((charabancref03_Add.f t172 t173 ((Go.bits .and .u8 bt170.2 1) == 1)).bind fun bt174 => ((charabancref01_Word.f bt174.1 bt170.1).bind fun t176 => (if bt166.1 = t176 then (if (Go.bits .and .u8 (Go.bits .xor .u8 bt166.2 bt174.2) 191) = 0 then (charabanclaw04_WideBytes.j0 k a0 a1 a2 (((Go.bits .and .u8 bt166.2 64) != 0) != (bt166.1 == 0))) else (charabanclaw04_WideBytes.j0 k a0 a1 a2 true)) else (charabanclaw04_WideBytes.j0 k a0 a1 a2 true)))))))))) else (some false)) = some r := H
  have A4 := Aside0.mk A40
  clear A40
  by_cases c5 : t165 = true
  · subst c5
    have H1 : ((wide_Adc.f a0 a1 a2).bind fun bt166 => ((charabancref01_Lo.f a0).bind fun t168 => ((charabancref01_Lo.f a1).bind fun t169 => ((charabancref03_Add.f t168 t169 ((Go.bits .and .u8 a2 1) == 1)).bind fun bt170 => ((charabancref01_Hi.f a0).bind fun t172 => ((charabancref01_Hi.f a1).bind fun t173 => ((charabancref03_Add.f t172 t173 ((Go.bits .and .u8 bt170.2 1) == 1)).bind fun bt174 => ((charabancref01_Word.f bt174.1 bt170.1).bind fun t176 => (if bt166.1 = t176 then (if (Go.bits .and .u8 (Go.bits .xor .u8 bt166.2 bt174.2) 191) = 0 then (charabanclaw04_WideBytes.j0 k a0 a1 a2 (((Go.bits .and .u8 bt166.2 64) != 0) != (bt166.1 == 0))) else (charabanclaw04_WideBytes.j0 k a0 a1 a2 true)) else (charabanclaw04_WideBytes.j0 k a0 a1 a2 true)))))))))) = some r := by rw [if_pos rfl] at H; exact H
    clear H
    have H := H1
    clear H1
    replace H := Option.bind_eq_some_iff.mp H
    obtain ⟨⟨t166, t167⟩, A60, H⟩ := H
    replace H : ((charabancref01_Lo.f a0).bind fun t168 => ((charabancref01_Lo.f a1).bind fun t169 => ((charabancref03_Add.f t168 t169 ((Go.bits .and .u8 a2 1) == 1)).bind fun bt170 => ((charabancref01_Hi.f a0).bind fun t172 => ((charabancref01_Hi.f a1).bind fun t173 => ((charabancref03_Add.f t172 t173 ((Go.bits .and .u8 bt170.2 1) == 1)).bind fun bt174 => ((charabancref01_Word.f bt174.1 bt170.1).bind fun t176 => (if t166 = t176 then (if (Go.bits .and .u8 (Go.bits .xor .u8 t167 bt174.2) 191) = 0 then (charabanclaw04_WideBytes.j0 k a0 a1 a2 (((Go.bits .and .u8 t167 64) != 0) != (t166 == 0))) else (charabanclaw04_WideBytes.j0 k a0 a1 a2 true)) else (charabanclaw04_WideBytes.j0 k a0 a1 a2 true))))))))) = some r := H
    have A6 := Aside0.mk A60
    clear A60
    replace H := Option.bind_eq_some_iff.mp H
    obtain ⟨t168, A70, H⟩ := H
    replace H : ((charabancref01_Lo.f a1).bind fun t169 => ((charabancref03_Add.f t168 t169 ((Go.bits .and .u8 a2 1) == 1)).bind fun bt170 => ((charabancref01_Hi.f a0).bind fun t172 => ((charabancref01_Hi.f a1).bind fun t173 => ((charabancref03_Add.f t172 t173 ((Go.bits .and .u8 bt170.2 1) == 1)).bind fun bt174 => ((charabancref01_Word.f bt174.1 bt170.1).bind fun t176 => (if t166 = t176 then (if (Go.bits .and .u8 (Go.bits .xor .u8 t167 bt174.2) 191) = 0 then (charabanclaw04_WideBytes.j0 k a0 a1 a2 (((Go.bits .and .u8 t167 64) != 0) != (t166 == 0))) else (charabanclaw04_WideBytes.j0 k a0 a1 a2 true)) else (charabanclaw04_WideBytes.j0 k a0 a1 a2 true)))))))) = some r := H
    have A7 := Aside0.mk A70
    clear A70
    replace H := Option.bind_eq_some_iff.mp H
    obtain ⟨t169, A80, H⟩ := H
    replace H : ((charabancref03_Add.f t168 t169 ((Go.bits .and .u8 a2 1) == 1)).bind fun bt170 => ((charabancref01_Hi.f a0).bind fun t172 => ((charabancref01_Hi.f a1).bind fun t173 => ((charabancref03_Add.f t172 t173 ((Go.bits .and .u8 bt170.2 1) == 1)).bind fun bt174 => ((charabancref01_Word.f bt174.1 bt170.1).bind fun t176 => (if t166 = t176 then (if (Go.bits .and .u8 (Go.bits .xor .u8 t167 bt174.2) 191) = 0 then (charabanclaw04_WideBytes.j0 k a0 a1 a2 (((Go.bits .and .u8 t167 64) != 0) != (t166 == 0))) else (charabanclaw04_WideBytes.j0 k a0 a1 a2 true)) else (charabanclaw04_WideBytes.j0 k a0 a1 a2 true))))))) = some r := H
    have A8 := Aside0.mk A80
    clear A80
    replace H := Option.bind_eq_some_iff.mp H
    obtain ⟨⟨t170, t171⟩, A90, H⟩ := H
    replace H : ((charabancref01_Hi.f a0).bind fun t172 => ((charabancref01_Hi.f a1).bind fun t173 => ((charabancref03_Add.f t172 t173 ((Go.bits .and .u8 t171 1) == 1)).bind fun bt174 => ((charabancref01_Word.f bt174.1 t170).bind fun t176 => (if t166 = t176 then (if (Go.bits .and .u8 (Go.bits .xor .u8 t167 bt174.2) 191) = 0 then (charabanclaw04_WideBytes.j0 k a0 a1 a2 (((Go.bits .and .u8 t167 64) != 0) != (t166 == 0))) else (charabanclaw04_WideBytes.j0 k a0 a1 a2 true)) else (charabanclaw04_WideBytes.j0 k a0 a1 a2 true)))))) = some r := H
    have A9 := Aside0.mk A90
    clear A90
    replace H := Option.bind_eq_some_iff.mp H
    obtain ⟨t172, A100, H⟩ := H
    replace H : ((charabancref01_Hi.f a1).bind fun t173 => ((charabancref03_Add.f t172 t173 ((Go.bits .and .u8 t171 1) == 1)).bind fun bt174 => ((charabancref01_Word.f bt174.1 t170).bind fun t176 => (if t166 = t176 then (if (Go.bits .and .u8 (Go.bits .xor .u8 t167 bt174.2) 191) = 0 then (charabanclaw04_WideBytes.j0 k a0 a1 a2 (((Go.bits .and .u8 t167 64) != 0) != (t166 == 0))) else (charabanclaw04_WideBytes.j0 k a0 a1 a2 true)) else (charabanclaw04_WideBytes.j0 k a0 a1 a2 true))))) = some r := H
    have A10 := Aside0.mk A100
    clear A100
    replace H := Option.bind_eq_some_iff.mp H
    obtain ⟨t173, A110, H⟩ := H
    replace H : ((charabancref03_Add.f t172 t173 ((Go.bits .and .u8 t171 1) == 1)).bind fun bt174 => ((charabancref01_Word.f bt174.1 t170).bind fun t176 => (if t166 = t176 then (if (Go.bits .and .u8 (Go.bits .xor .u8 t167 bt174.2) 191) = 0 then (charabanclaw04_WideBytes.j0 k a0 a1 a2 (((Go.bits .and .u8 t167 64) != 0) != (t166 == 0))) else (charabanclaw04_WideBytes.j0 k a0 a1 a2 true)) else (charabanclaw04_WideBytes.j0 k a0 a1 a2 true)))) = some r := H
    have A11 := Aside0.mk A110
    clear A110
    replace H := Option.bind_eq_some_iff.mp H
    obtain ⟨⟨t174, t175⟩, A120, H⟩ := H
    replace H : ((charabancref01_Word.f t174 t170).bind fun t176 => (if t166 = t176 then (if (Go.bits .and .u8 (Go.bits .xor .u8 t167 t175) 191) = 0 then (charabanclaw04_WideBytes.j0 k a0 a1 a2 (((Go.bits .and .u8 t167 64) != 0) != (t166 == 0))) else (charabanclaw04_WideBytes.j0 k a0 a1 a2 true)) else (charabanclaw04_WideBytes.j0 k a0 a1 a2 true))) = some r := H
    have A12 := Aside0.mk A120
    clear A120
    have HC13 := Aside0.mk H
    clear H
    go_enter Try.func13, Try.ntmps13
    go_upto_region 7 with (first | ((with_reducible refine gate_callee (f := 47) rfl ?_); refine goesL_ (some 20) rfl rfl Try.func47 (by kernel_rfl) rfl #[] rfl (by (try simp only [List.map_toArray, List.map_cons, List.map_nil]); first | done | rfl | (simp only [List.length_drop, List.length_take]; rfl)) ?_; (with_reducible refine (charabanclaw04_awake.calls  true _ A4.out).mono ?_); rintro e w14 ⟨rfl, hb⟩; refine ⟨_, rfl, ?_⟩; have n0_ := Aside0.mk (below_step (by repeat (first | (with_reducible first | exact HB.out | apply below_alloc | apply pw_below_drewN | apply below_drew1) | exact HB.out)) hb); clear HB; have HB := n0_; clear n0_; (try clear hb); (try clear hb2); (try clear hk); (try clear hi)) | ((with_reducible refine gate_callee (f := 50) rfl ?_); refine goesL_ (some 27) rfl rfl Try.func50 (by kernel_rfl) rfl #[.int .u16 a0, .int .u16 a1, .int .u8 a2] rfl (by (try simp only [List.map_toArray, List.map_cons, List.map_nil]); first | done | rfl | (simp only [List.length_drop, List.length_take]; rfl)) ?_; (with_reducible refine (wide_Adc.calls a0 a1 a2 t166 t167 _ A6.out).mono ?_); rintro e w15 ⟨rfl, hb⟩; refine ⟨_, rfl, ?_⟩; have n0_ := Aside0.mk (below_step (by repeat (first | (with_reducible first | exact HB.out | apply below_alloc | apply pw_below_drewN | apply below_drew1) | exact HB.out)) hb); clear HB; have HB := n0_; clear n0_; (try clear hb); (try clear hb2); (try clear hk); (try clear hi)) | ((with_reducible refine gate_callee (f := 17) rfl ?_); refine goesL_ (some 32) rfl rfl Try.func17 (by kernel_rfl) rfl #[.int .u16 a0] rfl (by (try simp only [List.map_toArray, List.map_cons, List.map_nil]); first | done | rfl | (simp only [List.length_drop, List.length_take]; rfl)) ?_; (with_reducible refine (charabancref01_Lo.calls a0 t168 _ A7.out).mono ?_); rintro e w' ⟨rfl, ⟨nd, rfl⟩⟩; refine ⟨_, rfl, ?_⟩) | ((with_reducible refine gate_callee (f := 17) rfl ?_); refine goesL_ (some 34) rfl rfl Try.func17 (by kernel_rfl) rfl #[.int .u16 a1] rfl (by (try simp only [List.map_toArray, List.map_cons, List.map_nil]); first | done | rfl | (simp only [List.length_drop, List.length_take]; rfl)) ?_; (with_reducible refine (charabancref01_Lo.calls a1 t169 _ A8.out).mono ?_); rintro e w' ⟨rfl, ⟨nd, rfl⟩⟩; refine ⟨_, rfl, ?_⟩) | ((with_reducible refine gate_callee (f := 36) rfl ?_); refine goesL_ (some 38) rfl rfl Try.func36 (by kernel_rfl) rfl #[.int .u8 t168, .int .u8 t169, .bool ((Go.bits .and .u8 a2 1) == 1)] rfl (by (try simp only [List.map_toArray, List.map_cons, List.map_nil]); first | done | rfl | (simp only [List.length_drop, List.length_take]; rfl)) ?_; (with_reducible refine (charabancref03_Add.calls t168 t169 ((Go.bits .and .u8 a2 1) == 1) t170 t171 _ A9.out).mono ?_); rintro e w16 ⟨rfl, hb⟩; refine ⟨_, rfl, ?_⟩; have n0_ := Aside0.mk (below_step (by repeat (first | (with_reducible first | exact HB.out | apply below_alloc | apply pw_below_drewN | apply below_drew1) | exact HB.out)) hb); clear HB; have HB := n0_; clear n0_; (try clear hb); (try clear hb2); (try clear hk); (try clear hi)) | ((with_reducible refine gate_callee (f := 19) rfl ?_); refine goesL_ (some 43) rfl rfl Try.func19 (by kernel_rfl) rfl #[.int .u16 a0] rfl (by (try simp only [List.map_toArray, List.map_cons, List.map_nil]); first | done | rfl | (simp only [List.length_drop, List.length_take]; rfl)) ?_; (with_reducible refine (charabancref01_Hi.calls a0 t172 _ A10.out).mono ?_); rintro e w' ⟨rfl, ⟨nd, rfl⟩⟩; refine ⟨_, rfl, ?_⟩) | ((with_reducible refine gate_callee (f := 19) rfl ?_); refine goesL_ (some 45) rfl rfl Try.func19 (by kernel_rfl) rfl #[.int .u16 a1] rfl (by (try simp only [List.map_toArray, List.map_cons, List.map_nil]); first | done | rfl | (simp only [List.length_drop, List.length_take]; rfl)) ?_; (with_reducible refine (charabancref01_Hi.calls a1 t173 _ A11.out).mono ?_); rintro e w' ⟨rfl, ⟨nd, rfl⟩⟩; refine ⟨_, rfl, ?_⟩) | ((with_reducible refine gate_callee (f := 36) rfl ?_); refine goesL_ (some 49) rfl rfl Try.func36 (by kernel_rfl) rfl #[.int .u8 t172, .int .u8 t173, .bool ((Go.bits .and .u8 t171 1) == 1)] rfl (by (try simp only [List.map_toArray, List.map_cons, List.map_nil]); first | done | rfl | (simp only [List.length_drop, List.length_take]; rfl)) ?_; (with_reducible refine (charabancref03_Add.calls t172 t173 ((Go.bits .and .u8 t171 1) == 1) t174 t175 _ A12.out).mono ?_); rintro e w17 ⟨rfl, hb⟩; refine ⟨_, rfl, ?_⟩; have n0_ := Aside0.mk (below_step (by repeat (first | (with_reducible first | exact HB.out | apply below_alloc | apply pw_below_drewN | apply below_drew1) | exact HB.out)) hb); clear HB; have HB := n0_; clear n0_; (try clear hb); (try clear hb2); (try clear hk); (try clear hi)))
    (try simp only [Act.put, List.setIfInBounds_toArray, List.set_cons_zero, List.set_cons_succ])
    go_cut [71] (fun v71 wc => ∃ (kq : Nat) (x71_12 : Bool), v71 = .bool x71_12 ∧ Aside0 (charabanclaw04_WideBytes.j0 kq a0 a1 a2 x71_12 = some r) ∧ Aside0 (kq ≤ k) ∧ Aside0 (Below w.heap.size w wc))
    case first =>
      have H := HC13.out
      clear HC13
      replace H := Option.bind_eq_some_iff.mp H
      obtain ⟨t176, A180, H⟩ := H
      replace H : (if t166 = t176 then (if (Go.bits .and .u8 (Go.bits .xor .u8 t167 t175) 191) = 0 then (charabanclaw04_WideBytes.j0 k a0 a1 a2 (((Go.bits .and .u8 t167 64) != 0) != (t166 == 0))) else (charabanclaw04_WideBytes.j0 k a0 a1 a2 true)) else (charabanclaw04_WideBytes.j0 k a0 a1 a2 true)) = some r := H
      have A18 := Aside0.mk A180
      clear A180
      by_cases c19 : t166 = t176
      · rw [if_pos c19] at H
        have c19b0 : (t166 == t176) = true := beq_iff_eq.mpr c19
        have c19b1 : (t166 != t176) = false := bne_eq_false_iff_eq.mpr c19
        clear c19
        (first | rw [c19b0] | (simp only [i64_w, i32_w]; rw [c19b0]) | skip)
        by_cases c20 : (Go.bits .and .u8 (Go.bits .xor .u8 t167 t175) 191) = 0
        · rw [if_pos c20] at H
          have c20b0 : ((Go.bits .and .u8 (Go.bits .xor .u8 t167 t175) 191) == 0) = true := beq_iff_eq.mpr c20
          have c20b1 : ((Go.bits .and .u8 (Go.bits .xor .u8 t167 t175) 191) != 0) = false := bne_eq_false_iff_eq.mpr c20
          clear c20
          have H' := Aside0.mk H
          clear H
          go_wp2_with (first | ((with_reducible refine gate_callee (f := 21) rfl ?_); refine goesL_ (some 55) rfl rfl Try.func21 (by kernel_rfl) rfl #[.int .u8 t174, .int .u8 t170] rfl (by (try simp only [List.map_toArray, List.map_cons, List.map_nil]); first | done | rfl | (simp only [List.length_drop, List.length_take]; rfl)) ?_; (with_reducible refine (charabancref01_Word.calls t174 t170 t176 _ A18.out).mono ?_); rintro e w' ⟨rfl, ⟨nd, rfl⟩⟩; refine ⟨_, rfl, ?_⟩))
          go_meet
          case rel => exact ⟨_, ((((Go.bits .and .u8 t167 64) != 0) != (t166 == 0))), (by first | rfl | (simp; done) | (simp [*]; done)), H', ⟨by first | omega | exact Nat.le_refl _⟩, ⟨by repeat (first | (with_reducible first | exact HB.out | apply below_alloc | apply pw_below_drewN | apply below_drew1) | exact HB.out)⟩⟩
        · rw [if_neg c20] at H
          have c20b0 : ((Go.bits .and .u8 (Go.bits .xor .u8 t167 t175) 191) == 0) = false := beq_eq_false_iff_ne.mpr c20
          have c20b1 : ((Go.bits .and .u8 (Go.bits .xor .u8 t167 t175) 191) != 0) = true := bne_iff_ne.mpr c20
          have H' := Aside0.mk H
          clear H
          go_wp2_with (first | ((with_reducible refine gate_callee (f := 21) rfl ?_); refine goesL_ (some 55) rfl rfl Try.func21 (by kernel_rfl) rfl #[.int .u8 t174, .int .u8 t170] rfl (by (try simp only [List.map_toArray, List.map_cons, List.map_nil]); first | done | rfl | (simp only [List.length_drop, List.length_take]; rfl)) ?_; (with_reducible refine (charabancref01_Word.calls t174 t170 t176 _ A18.out).mono ?_); rintro e w' ⟨rfl, ⟨nd, rfl⟩⟩; refine ⟨_, rfl, ?_⟩))
          go_meet
          case rel => exact ⟨_, (true), (by first | rfl | (simp; done) | (simp [*]; done)), H', ⟨by first | omega | exact Nat.le_refl _⟩, ⟨by repeat (first | (with_reducible first | exact HB.out | apply below_alloc | apply pw_below_drewN | apply below_drew1) | exact HB.out)⟩⟩
      · rw [if_neg c19] at H
        have c19b0 : (t166 == t176) = false := beq_eq_false_iff_ne.mpr c19
        have c19b1 : (t166 != t176) = true := bne_iff_ne.mpr c19
        (first | rw [c19b0] | (simp only [i64_w, i32_w]; rw [c19b0]) | skip)
        have H' := Aside0.mk H
        clear H
        go_wp2_with (first | ((with_reducible refine gate_callee (f := 21) rfl ?_); refine goesL_ (some 55) rfl rfl Try.func21 (by kernel_rfl) rfl #[.int .u8 t174, .int .u8 t170] rfl (by (try simp only [List.map_toArray, List.map_cons, List.map_nil]); first | done | rfl | (simp only [List.length_drop, List.length_take]; rfl)) ?_; (with_reducible refine (charabancref01_Word.calls t174 t170 t176 _ A18.out).mono ?_); rintro e w' ⟨rfl, ⟨nd, rfl⟩⟩; refine ⟨_, rfl, ?_⟩))
        go_meet
        case rel => exact ⟨_, (true), (by first | rfl | (simp; done) | (simp [*]; done)), H', ⟨by first | omega | exact Nat.le_refl _⟩, ⟨by repeat (first | (with_reducible first | exact HB.out | apply below_alloc | apply pw_below_drewN | apply below_drew1) | exact HB.out)⟩⟩
    case rest =>
      clear HC13
      try clear c1
      try clear c2
      try clear p2
      try clear c3
      try clear c4
      try clear c5
      try clear c13
      try clear c17
      try clear c19
      try clear c19b0
      try clear c19b1
      try clear c20
      try clear c20b0
      try clear c20b1
      obtain ⟨kq, x71_12, rfl, HA, HJ12, HB⟩ := hcut
      cases kq with
      | zero => exact absurd HA.out (by simp [charabanclaw04_WideBytes.j0])
      | succ kj12 =>
        have H := HA.out
        clear HA
        simp only [charabanclaw04_WideBytes.j0] at H
        by_cases c21 : x71_12 = true
        · subst c21
          have H1 : (some false) = some r := by rw [if_pos rfl] at H; exact H
          clear H
          have H := H1
          clear H1
          obtain rfl := Option.some.inj H
          go_wp2
          go_ret
          exact ⟨by first | rfl | (simp [errW_none, errW_some] <;> rfl) | (simp [*, errW_none, errW_some] <;> rfl), by repeat (first | (with_reducible first | exact HB.out | apply below_alloc | apply pw_below_drewN | apply below_drew1) | exact HB.out)⟩
        · replace c21 := Bool.eq_false_iff.mpr c21
          subst c21
          have H1 : ((wide_Sbc.f a0 a1 a2).bind fun bt177 => ((charabancref01_Lo.f a0).bind fun t179 => ((charabancref01_Lo.f a1).bind fun t180 => ((charabancref03_Sub.f t179 t180 ((Go.bits .and .u8 a2 1) == 1)).bind fun bt181 => ((charabancref01_Hi.f a0).bind fun t183 => ((charabancref01_Hi.f a1).bind fun t184 => ((charabancref03_Sub.f t183 t184 ((Go.bits .and .u8 bt181.2 1) == 1)).bind fun bt185 => ((charabancref01_Word.f bt185.1 bt181.1).bind fun t187 => (if bt177.1 = t187 then (if (Go.bits .and .u8 (Go.bits .xor .u8 bt177.2 bt185.2) 191) = 0 then (some (((Go.bits .and .u8 bt177.2 64) != 0) == (bt177.1 == 0))) else (some false)) else (some false)))))))))) = some r := by rw [if_neg (show ¬ (false = true) by decide)] at H; exact H
          clear H
          have H := H1
          clear H1
          replace H := Option.bind_eq_some_iff.mp H
          obtain ⟨⟨t177, t178⟩, A220, H⟩ := H
          replace H : ((charabancref01_Lo.f a0).bind fun t179 => ((charabancref01_Lo.f a1).bind fun t180 => ((charabancref03_Sub.f t179 t180 ((Go.bits .and .u8 a2 1) == 1)).bind fun bt181 => ((charabancref01_Hi.f a0).bind fun t183 => ((charabancref01_Hi.f a1).bind fun t184 => ((charabancref03_Sub.f t183 t184 ((Go.bits .and .u8 bt181.2 1) == 1)).bind fun bt185 => ((charabancref01_Word.f bt185.1 bt181.1).bind fun t187 => (if t177 = t187 then (if (Go.bits .and .u8 (Go.bits .xor .u8 t178 bt185.2) 191) = 0 then (some (((Go.bits .and .u8 t178 64) != 0) == (t177 == 0))) else (some false)) else (some false))))))))) = some r := H
          have A22 := Aside0.mk A220
          clear A220
          replace H := Option.bind_eq_some_iff.mp H
          obtain ⟨t179, A230, H⟩ := H
          replace H : ((charabancref01_Lo.f a1).bind fun t180 => ((charabancref03_Sub.f t179 t180 ((Go.bits .and .u8 a2 1) == 1)).bind fun bt181 => ((charabancref01_Hi.f a0).bind fun t183 => ((charabancref01_Hi.f a1).bind fun t184 => ((charabancref03_Sub.f t183 t184 ((Go.bits .and .u8 bt181.2 1) == 1)).bind fun bt185 => ((charabancref01_Word.f bt185.1 bt181.1).bind fun t187 => (if t177 = t187 then (if (Go.bits .and .u8 (Go.bits .xor .u8 t178 bt185.2) 191) = 0 then (some (((Go.bits .and .u8 t178 64) != 0) == (t177 == 0))) else (some false)) else (some false)))))))) = some r := H
          have A23 := Aside0.mk A230
          clear A230
          replace H := Option.bind_eq_some_iff.mp H
          obtain ⟨t180, A240, H⟩ := H
          replace H : ((charabancref03_Sub.f t179 t180 ((Go.bits .and .u8 a2 1) == 1)).bind fun bt181 => ((charabancref01_Hi.f a0).bind fun t183 => ((charabancref01_Hi.f a1).bind fun t184 => ((charabancref03_Sub.f t183 t184 ((Go.bits .and .u8 bt181.2 1) == 1)).bind fun bt185 => ((charabancref01_Word.f bt185.1 bt181.1).bind fun t187 => (if t177 = t187 then (if (Go.bits .and .u8 (Go.bits .xor .u8 t178 bt185.2) 191) = 0 then (some (((Go.bits .and .u8 t178 64) != 0) == (t177 == 0))) else (some false)) else (some false))))))) = some r := H
          have A24 := Aside0.mk A240
          clear A240
          replace H := Option.bind_eq_some_iff.mp H
          obtain ⟨⟨t181, t182⟩, A250, H⟩ := H
          replace H : ((charabancref01_Hi.f a0).bind fun t183 => ((charabancref01_Hi.f a1).bind fun t184 => ((charabancref03_Sub.f t183 t184 ((Go.bits .and .u8 t182 1) == 1)).bind fun bt185 => ((charabancref01_Word.f bt185.1 t181).bind fun t187 => (if t177 = t187 then (if (Go.bits .and .u8 (Go.bits .xor .u8 t178 bt185.2) 191) = 0 then (some (((Go.bits .and .u8 t178 64) != 0) == (t177 == 0))) else (some false)) else (some false)))))) = some r := H
          have A25 := Aside0.mk A250
          clear A250
          replace H := Option.bind_eq_some_iff.mp H
          obtain ⟨t183, A260, H⟩ := H
          replace H : ((charabancref01_Hi.f a1).bind fun t184 => ((charabancref03_Sub.f t183 t184 ((Go.bits .and .u8 t182 1) == 1)).bind fun bt185 => ((charabancref01_Word.f bt185.1 t181).bind fun t187 => (if t177 = t187 then (if (Go.bits .and .u8 (Go.bits .xor .u8 t178 bt185.2) 191) = 0 then (some (((Go.bits .and .u8 t178 64) != 0) == (t177 == 0))) else (some false)) else (some false))))) = some r := H
          have A26 := Aside0.mk A260
          clear A260
          replace H := Option.bind_eq_some_iff.mp H
          obtain ⟨t184, A270, H⟩ := H
          replace H : ((charabancref03_Sub.f t183 t184 ((Go.bits .and .u8 t182 1) == 1)).bind fun bt185 => ((charabancref01_Word.f bt185.1 t181).bind fun t187 => (if t177 = t187 then (if (Go.bits .and .u8 (Go.bits .xor .u8 t178 bt185.2) 191) = 0 then (some (((Go.bits .and .u8 t178 64) != 0) == (t177 == 0))) else (some false)) else (some false)))) = some r := H
          have A27 := Aside0.mk A270
          clear A270
          replace H := Option.bind_eq_some_iff.mp H
          obtain ⟨⟨t185, t186⟩, A280, H⟩ := H
          replace H : ((charabancref01_Word.f t185 t181).bind fun t187 => (if t177 = t187 then (if (Go.bits .and .u8 (Go.bits .xor .u8 t178 t186) 191) = 0 then (some (((Go.bits .and .u8 t178 64) != 0) == (t177 == 0))) else (some false)) else (some false))) = some r := H
          have A28 := Aside0.mk A280
          clear A280
          replace H := Option.bind_eq_some_iff.mp H
          obtain ⟨t187, A290, H⟩ := H
          replace H : (if t177 = t187 then (if (Go.bits .and .u8 (Go.bits .xor .u8 t178 t186) 191) = 0 then (some (((Go.bits .and .u8 t178 64) != 0) == (t177 == 0))) else (some false)) else (some false)) = some r := H
          have A29 := Aside0.mk A290
          clear A290
          by_cases c30 : t177 = t187
          · rw [if_pos c30] at H
            have c30b0 : (t177 == t187) = true := beq_iff_eq.mpr c30
            have c30b1 : (t177 != t187) = false := bne_eq_false_iff_eq.mpr c30
            clear c30
            by_cases c31 : (Go.bits .and .u8 (Go.bits .xor .u8 t178 t186) 191) = 0
            · rw [if_pos c31] at H
              have c31b0 : ((Go.bits .and .u8 (Go.bits .xor .u8 t178 t186) 191) == 0) = true := beq_iff_eq.mpr c31
              have c31b1 : ((Go.bits .and .u8 (Go.bits .xor .u8 t178 t186) 191) != 0) = false := bne_eq_false_iff_eq.mpr c31
              clear c31
              obtain rfl := Option.some.inj H
              go_wp2_with (first | ((with_reducible refine gate_callee (f := 52) rfl ?_); refine goesL_ (some 76) rfl rfl Try.func52 (by kernel_rfl) rfl #[.int .u16 a0, .int .u16 a1, .int .u8 a2] rfl (by (try simp only [List.map_toArray, List.map_cons, List.map_nil]); first | done | rfl | (simp only [List.length_drop, List.length_take]; rfl)) ?_; (with_reducible refine (wide_Sbc.calls a0 a1 a2 t177 t178 _ A22.out).mono ?_); rintro e w32 ⟨rfl, hb⟩; refine ⟨_, rfl, ?_⟩; have n0_ := Aside0.mk (below_step (by repeat (first | (with_reducible first | exact HB.out | apply below_alloc | apply pw_below_drewN | apply below_drew1) | exact HB.out)) hb); clear HB; have HB := n0_; clear n0_; (try clear hb); (try clear hb2); (try clear hk); (try clear hi)) | ((with_reducible refine gate_callee (f := 17) rfl ?_); refine goesL_ (some 81) rfl rfl Try.func17 (by kernel_rfl) rfl #[.int .u16 a0] rfl (by (try simp only [List.map_toArray, List.map_cons, List.map_nil]); first | done | rfl | (simp only [List.length_drop, List.length_take]; rfl)) ?_; (with_reducible refine (charabancref01_Lo.calls a0 t179 _ A23.out).mono ?_); rintro e w' ⟨rfl, ⟨nd, rfl⟩⟩; refine ⟨_, rfl, ?_⟩) | ((with_reducible refine gate_callee (f := 17) rfl ?_); refine goesL_ (some 83) rfl rfl Try.func17 (by kernel_rfl) rfl #[.int .u16 a1] rfl (by (try simp only [List.map_toArray, List.map_cons, List.map_nil]); first | done | rfl | (simp only [List.length_drop, List.length_take]; rfl)) ?_; (with_reducible refine (charabancref01_Lo.calls a1 t180 _ A24.out).mono ?_); rintro e w' ⟨rfl, ⟨nd, rfl⟩⟩; refine ⟨_, rfl, ?_⟩) | ((with_reducible refine gate_callee (f := 38) rfl ?_); refine goesL_ (some 87) rfl rfl Try.func38 (by kernel_rfl) rfl #[.int .u8 t179, .int .u8 t180, .bool ((Go.bits .and .u8 a2 1) == 1)] rfl (by (try simp only [List.map_toArray, List.map_cons, List.map_nil]); first | done | rfl | (simp only [List.length_drop, List.length_take]; rfl)) ?_; (with_reducible refine (charabancref03_Sub.calls t179 t180 ((Go.bits .and .u8 a2 1) == 1) t181 t182 _ A25.out).mono ?_); rintro e w33 ⟨rfl, hb⟩; refine ⟨_, rfl, ?_⟩; have n0_ := Aside0.mk (below_step (by repeat (first | (with_reducible first | exact HB.out | apply below_alloc | apply pw_below_drewN | apply below_drew1) | exact HB.out)) hb); clear HB; have HB := n0_; clear n0_; (try clear hb); (try clear hb2); (try clear hk); (try clear hi)) | ((with_reducible refine gate_callee (f := 19) rfl ?_); refine goesL_ (some 92) rfl rfl Try.func19 (by kernel_rfl) rfl #[.int .u16 a0] rfl (by (try simp only [List.map_toArray, List.map_cons, List.map_nil]); first | done | rfl | (simp only [List.length_drop, List.length_take]; rfl)) ?_; (with_reducible refine (charabancref01_Hi.calls a0 t183 _ A26.out).mono ?_); rintro e w' ⟨rfl, ⟨nd, rfl⟩⟩; refine ⟨_, rfl, ?_⟩) | ((with_reducible refine gate_callee (f := 19) rfl ?_); refine goesL_ (some 94) rfl rfl Try.func19 (by kernel_rfl) rfl #[.int .u16 a1] rfl (by (try simp only [List.map_toArray, List.map_cons, List.map_nil]); first | done | rfl | (simp only [List.length_drop, List.length_take]; rfl)) ?_; (with_reducible refine (charabancref01_Hi.calls a1 t184 _ A27.out).mono ?_); rintro e w' ⟨rfl, ⟨nd, rfl⟩⟩; refine ⟨_, rfl, ?_⟩) | ((with_reducible refine gate_callee (f := 38) rfl ?_); refine goesL_ (some 98) rfl rfl Try.func38 (by kernel_rfl) rfl #[.int .u8 t183, .int .u8 t184, .bool ((Go.bits .and .u8 t182 1) == 1)] rfl (by (try simp only [List.map_toArray, List.map_cons, List.map_nil]); first | done | rfl | (simp only [List.length_drop, List.length_take]; rfl)) ?_; (with_reducible refine (charabancref03_Sub.calls t183 t184 ((Go.bits .and .u8 t182 1) == 1) t185 t186 _ A28.out).mono ?_); rintro e w34 ⟨rfl, hb⟩; refine ⟨_, rfl, ?_⟩; have n0_ := Aside0.mk (below_step (by repeat (first | (with_reducible first | exact HB.out | apply below_alloc | apply pw_below_drewN | apply below_drew1) | exact HB.out)) hb); clear HB; have HB := n0_; clear n0_; (try clear hb); (try clear hb2); (try clear hk); (try clear hi)) | ((with_reducible refine gate_callee (f := 21) rfl ?_); refine goesL_ (some 104) rfl rfl Try.func21 (by kernel_rfl) rfl #[.int .u8 t185, .int .u8 t181] rfl (by (try simp only [List.map_toArray, List.map_cons, List.map_nil]); first | done | rfl | (simp only [List.length_drop, List.length_take]; rfl)) ?_; (with_reducible refine (charabancref01_Word.calls t185 t181 t187 _ A29.out).mono ?_); rintro e w' ⟨rfl, ⟨nd, rfl⟩⟩; refine ⟨_, rfl, ?_⟩))
              go_ret
              exact ⟨by first | rfl | (simp [errW_none, errW_some] <;> rfl) | (simp [*, errW_none, errW_some] <;> rfl), by repeat (first | (with_reducible first | exact HB.out | apply below_alloc | apply pw_below_drewN | apply below_drew1) | exact HB.out)⟩
            · rw [if_neg c31] at H
              have c31b0 : ((Go.bits .and .u8 (Go.bits .xor .u8 t178 t186) 191) == 0) = false := beq_eq_false_iff_ne.mpr c31
              have c31b1 : ((Go.bits .and .u8 (Go.bits .xor .u8 t178 t186) 191) != 0) = true := bne_iff_ne.mpr c31
              obtain rfl := Option.some.inj H
              go_wp2_with (first | ((with_reducible refine gate_callee (f := 52) rfl ?_); refine goesL_ (some 76) rfl rfl Try.func52 (by kernel_rfl) rfl #[.int .u16 a0, .int .u16 a1, .int .u8 a2] rfl (by (try simp only [List.map_toArray, List.map_cons, List.map_nil]); first | done | rfl | (simp only [List.length_drop, List.length_take]; rfl)) ?_; (with_reducible refine (wide_Sbc.calls a0 a1 a2 t177 t178 _ A22.out).mono ?_); rintro e w35 ⟨rfl, hb⟩; refine ⟨_, rfl, ?_⟩; have n0_ := Aside0.mk (below_step (by repeat (first | (with_reducible first | exact HB.out | apply below_alloc | apply pw_below_drewN | apply below_drew1) | exact HB.out)) hb); clear HB; have HB := n0_; clear n0_; (try clear hb); (try clear hb2); (try clear hk); (try clear hi)) | ((with_reducible refine gate_callee (f := 17) rfl ?_); refine goesL_ (some 81) rfl rfl Try.func17 (by kernel_rfl) rfl #[.int .u16 a0] rfl (by (try simp only [List.map_toArray, List.map_cons, List.map_nil]); first | done | rfl | (simp only [List.length_drop, List.length_take]; rfl)) ?_; (with_reducible refine (charabancref01_Lo.calls a0 t179 _ A23.out).mono ?_); rintro e w' ⟨rfl, ⟨nd, rfl⟩⟩; refine ⟨_, rfl, ?_⟩) | ((with_reducible refine gate_callee (f := 17) rfl ?_); refine goesL_ (some 83) rfl rfl Try.func17 (by kernel_rfl) rfl #[.int .u16 a1] rfl (by (try simp only [List.map_toArray, List.map_cons, List.map_nil]); first | done | rfl | (simp only [List.length_drop, List.length_take]; rfl)) ?_; (with_reducible refine (charabancref01_Lo.calls a1 t180 _ A24.out).mono ?_); rintro e w' ⟨rfl, ⟨nd, rfl⟩⟩; refine ⟨_, rfl, ?_⟩) | ((with_reducible refine gate_callee (f := 38) rfl ?_); refine goesL_ (some 87) rfl rfl Try.func38 (by kernel_rfl) rfl #[.int .u8 t179, .int .u8 t180, .bool ((Go.bits .and .u8 a2 1) == 1)] rfl (by (try simp only [List.map_toArray, List.map_cons, List.map_nil]); first | done | rfl | (simp only [List.length_drop, List.length_take]; rfl)) ?_; (with_reducible refine (charabancref03_Sub.calls t179 t180 ((Go.bits .and .u8 a2 1) == 1) t181 t182 _ A25.out).mono ?_); rintro e w36 ⟨rfl, hb⟩; refine ⟨_, rfl, ?_⟩; have n0_ := Aside0.mk (below_step (by repeat (first | (with_reducible first | exact HB.out | apply below_alloc | apply pw_below_drewN | apply below_drew1) | exact HB.out)) hb); clear HB; have HB := n0_; clear n0_; (try clear hb); (try clear hb2); (try clear hk); (try clear hi)) | ((with_reducible refine gate_callee (f := 19) rfl ?_); refine goesL_ (some 92) rfl rfl Try.func19 (by kernel_rfl) rfl #[.int .u16 a0] rfl (by (try simp only [List.map_toArray, List.map_cons, List.map_nil]); first | done | rfl | (simp only [List.length_drop, List.length_take]; rfl)) ?_; (with_reducible refine (charabancref01_Hi.calls a0 t183 _ A26.out).mono ?_); rintro e w' ⟨rfl, ⟨nd, rfl⟩⟩; refine ⟨_, rfl, ?_⟩) | ((with_reducible refine gate_callee (f := 19) rfl ?_); refine goesL_ (some 94) rfl rfl Try.func19 (by kernel_rfl) rfl #[.int .u16 a1] rfl (by (try simp only [List.map_toArray, List.map_cons, List.map_nil]); first | done | rfl | (simp only [List.length_drop, List.length_take]; rfl)) ?_; (with_reducible refine (charabancref01_Hi.calls a1 t184 _ A27.out).mono ?_); rintro e w' ⟨rfl, ⟨nd, rfl⟩⟩; refine ⟨_, rfl, ?_⟩) | ((with_reducible refine gate_callee (f := 38) rfl ?_); refine goesL_ (some 98) rfl rfl Try.func38 (by kernel_rfl) rfl #[.int .u8 t183, .int .u8 t184, .bool ((Go.bits .and .u8 t182 1) == 1)] rfl (by (try simp only [List.map_toArray, List.map_cons, List.map_nil]); first | done | rfl | (simp only [List.length_drop, List.length_take]; rfl)) ?_; (with_reducible refine (charabancref03_Sub.calls t183 t184 ((Go.bits .and .u8 t182 1) == 1) t185 t186 _ A28.out).mono ?_); rintro e w37 ⟨rfl, hb⟩; refine ⟨_, rfl, ?_⟩; have n0_ := Aside0.mk (below_step (by repeat (first | (with_reducible first | exact HB.out | apply below_alloc | apply pw_below_drewN | apply below_drew1) | exact HB.out)) hb); clear HB; have HB := n0_; clear n0_; (try clear hb); (try clear hb2); (try clear hk); (try clear hi)) | ((with_reducible refine gate_callee (f := 21) rfl ?_); refine goesL_ (some 104) rfl rfl Try.func21 (by kernel_rfl) rfl #[.int .u8 t185, .int .u8 t181] rfl (by (try simp only [List.map_toArray, List.map_cons, List.map_nil]); first | done | rfl | (simp only [List.length_drop, List.length_take]; rfl)) ?_; (with_reducible refine (charabancref01_Word.calls t185 t181 t187 _ A29.out).mono ?_); rintro e w' ⟨rfl, ⟨nd, rfl⟩⟩; refine ⟨_, rfl, ?_⟩))
              go_ret
              exact ⟨by first | rfl | (simp [errW_none, errW_some] <;> rfl) | (simp [*, errW_none, errW_some] <;> rfl), by repeat (first | (with_reducible first | exact HB.out | apply below_alloc | apply pw_below_drewN | apply below_drew1) | exact HB.out)⟩
          · rw [if_neg c30] at H
            have c30b0 : (t177 == t187) = false := beq_eq_false_iff_ne.mpr c30
            have c30b1 : (t177 != t187) = true := bne_iff_ne.mpr c30
            obtain rfl := Option.some.inj H
            go_wp2_with (first | ((with_reducible refine gate_callee (f := 52) rfl ?_); refine goesL_ (some 76) rfl rfl Try.func52 (by kernel_rfl) rfl #[.int .u16 a0, .int .u16 a1, .int .u8 a2] rfl (by (try simp only [List.map_toArray, List.map_cons, List.map_nil]); first | done | rfl | (simp only [List.length_drop, List.length_take]; rfl)) ?_; (with_reducible refine (wide_Sbc.calls a0 a1 a2 t177 t178 _ A22.out).mono ?_); rintro e w38 ⟨rfl, hb⟩; refine ⟨_, rfl, ?_⟩; have n0_ := Aside0.mk (below_step (by repeat (first | (with_reducible first | exact HB.out | apply below_alloc | apply pw_below_drewN | apply below_drew1) | exact HB.out)) hb); clear HB; have HB := n0_; clear n0_; (try clear hb); (try clear hb2); (try clear hk); (try clear hi)) | ((with_reducible refine gate_callee (f := 17) rfl ?_); refine goesL_ (some 81) rfl rfl Try.func17 (by kernel_rfl) rfl #[.int .u16 a0] rfl (by (try simp only [List.map_toArray, List.map_cons, List.map_nil]); first | done | rfl | (simp only [List.length_drop, List.length_take]; rfl)) ?_; (with_reducible refine (charabancref01_Lo.calls a0 t179 _ A23.out).mono ?_); rintro e w' ⟨rfl, ⟨nd, rfl⟩⟩; refine ⟨_, rfl, ?_⟩) | ((with_reducible refine gate_callee (f := 17) rfl ?_); refine goesL_ (some 83) rfl rfl Try.func17 (by kernel_rfl) rfl #[.int .u16 a1] rfl (by (try simp only [List.map_toArray, List.map_cons, List.map_nil]); first | done | rfl | (simp only [List.length_drop, List.length_take]; rfl)) ?_; (with_reducible refine (charabancref01_Lo.calls a1 t180 _ A24.out).mono ?_); rintro e w' ⟨rfl, ⟨nd, rfl⟩⟩; refine ⟨_, rfl, ?_⟩) | ((with_reducible refine gate_callee (f := 38) rfl ?_); refine goesL_ (some 87) rfl rfl Try.func38 (by kernel_rfl) rfl #[.int .u8 t179, .int .u8 t180, .bool ((Go.bits .and .u8 a2 1) == 1)] rfl (by (try simp only [List.map_toArray, List.map_cons, List.map_nil]); first | done | rfl | (simp only [List.length_drop, List.length_take]; rfl)) ?_; (with_reducible refine (charabancref03_Sub.calls t179 t180 ((Go.bits .and .u8 a2 1) == 1) t181 t182 _ A25.out).mono ?_); rintro e w39 ⟨rfl, hb⟩; refine ⟨_, rfl, ?_⟩; have n0_ := Aside0.mk (below_step (by repeat (first | (with_reducible first | exact HB.out | apply below_alloc | apply pw_below_drewN | apply below_drew1) | exact HB.out)) hb); clear HB; have HB := n0_; clear n0_; (try clear hb); (try clear hb2); (try clear hk); (try clear hi)) | ((with_reducible refine gate_callee (f := 19) rfl ?_); refine goesL_ (some 92) rfl rfl Try.func19 (by kernel_rfl) rfl #[.int .u16 a0] rfl (by (try simp only [List.map_toArray, List.map_cons, List.map_nil]); first | done | rfl | (simp only [List.length_drop, List.length_take]; rfl)) ?_; (with_reducible refine (charabancref01_Hi.calls a0 t183 _ A26.out).mono ?_); rintro e w' ⟨rfl, ⟨nd, rfl⟩⟩; refine ⟨_, rfl, ?_⟩) | ((with_reducible refine gate_callee (f := 19) rfl ?_); refine goesL_ (some 94) rfl rfl Try.func19 (by kernel_rfl) rfl #[.int .u16 a1] rfl (by (try simp only [List.map_toArray, List.map_cons, List.map_nil]); first | done | rfl | (simp only [List.length_drop, List.length_take]; rfl)) ?_; (with_reducible refine (charabancref01_Hi.calls a1 t184 _ A27.out).mono ?_); rintro e w' ⟨rfl, ⟨nd, rfl⟩⟩; refine ⟨_, rfl, ?_⟩) | ((with_reducible refine gate_callee (f := 38) rfl ?_); refine goesL_ (some 98) rfl rfl Try.func38 (by kernel_rfl) rfl #[.int .u8 t183, .int .u8 t184, .bool ((Go.bits .and .u8 t182 1) == 1)] rfl (by (try simp only [List.map_toArray, List.map_cons, List.map_nil]); first | done | rfl | (simp only [List.length_drop, List.length_take]; rfl)) ?_; (with_reducible refine (charabancref03_Sub.calls t183 t184 ((Go.bits .and .u8 t182 1) == 1) t185 t186 _ A28.out).mono ?_); rintro e w40 ⟨rfl, hb⟩; refine ⟨_, rfl, ?_⟩; have n0_ := Aside0.mk (below_step (by repeat (first | (with_reducible first | exact HB.out | apply below_alloc | apply pw_below_drewN | apply below_drew1) | exact HB.out)) hb); clear HB; have HB := n0_; clear n0_; (try clear hb); (try clear hb2); (try clear hk); (try clear hi)) | ((with_reducible refine gate_callee (f := 21) rfl ?_); refine goesL_ (some 104) rfl rfl Try.func21 (by kernel_rfl) rfl #[.int .u8 t185, .int .u8 t181] rfl (by (try simp only [List.map_toArray, List.map_cons, List.map_nil]); first | done | rfl | (simp only [List.length_drop, List.length_take]; rfl)) ?_; (with_reducible refine (charabancref01_Word.calls t185 t181 t187 _ A29.out).mono ?_); rintro e w' ⟨rfl, ⟨nd, rfl⟩⟩; refine ⟨_, rfl, ?_⟩))
            go_ret
            exact ⟨by first | rfl | (simp [errW_none, errW_some] <;> rfl) | (simp [*, errW_none, errW_some] <;> rfl), by repeat (first | (with_reducible first | exact HB.out | apply below_alloc | apply pw_below_drewN | apply below_drew1) | exact HB.out)⟩
  · replace c5 := Bool.eq_false_iff.mpr c5
    subst c5
    have H1 : (some false) = some r := by rw [if_neg (show ¬ (false = true) by decide)] at H; exact H
    clear H
    have H := H1
    clear H1
    obtain rfl := Option.some.inj H
    go_enter Try.func13, Try.ntmps13
    go_wp2_with (first | ((with_reducible refine gate_callee (f := 47) rfl ?_); refine goesL_ (some 20) rfl rfl Try.func47 (by kernel_rfl) rfl #[] rfl (by (try simp only [List.map_toArray, List.map_cons, List.map_nil]); first | done | rfl | (simp only [List.length_drop, List.length_take]; rfl)) ?_; (with_reducible refine (charabanclaw04_awake.calls  false _ A4.out).mono ?_); rintro e w41 ⟨rfl, hb⟩; refine ⟨_, rfl, ?_⟩; have n0_ := Aside0.mk (below_step (by repeat (first | (with_reducible first | exact HB.out | apply below_alloc | apply pw_below_drewN | apply below_drew1) | exact HB.out)) hb); clear HB; have HB := n0_; clear n0_; (try clear hb); (try clear hb2); (try clear hk); (try clear hi)))
    go_ret
    exact ⟨by first | rfl | (simp [errW_none, errW_some] <;> rfl) | (simp [*, errW_none, errW_some] <;> rfl), by repeat (first | (with_reducible first | exact HB.out | apply below_alloc | apply pw_below_drewN | apply below_drew1) | exact HB.out)⟩

/-- THE ONE PURE STATEMENT of charabanclaw04_WideBytes: yours. -/
def charabanclaw04_WideBytes.Pure : Prop := ∀ (a0 : Int) (a1 : Int) (a2 : Int), (Lit.int .u16 a0).wf = true → (Lit.int .u16 a1).wf = true → (Lit.int .u8 a2).wf = true → ∃ k, charabanclaw04_WideBytes.f k a0 a1 a2 = some true
theorem charabanclaw04_WideBytes.walk (P : charabanclaw04_WideBytes.Pure) (a0 : Int) (a1 : Int) (a2 : Int) (w : World) (w0 : (Lit.int .u16 a0).wf = true) (w1 : (Lit.int .u16 a1).wf = true) (w2 : (Lit.int .u8 a2).wf = true) :
    Calls Try.prog 13 #[.int .u16 a0, .int .u16 a1, .int .u8 a2] w fun e w' => e = .returned (.bool true) ∧ Below w.heap.size w w' := by
  obtain ⟨k, h⟩ := P a0 a1 a2 w0 w1 w2
  refine (charabanclaw04_WideBytes.calls k a0 a1 a2 true w h).mono ?_
  rintro e w' ⟨rfl, hd⟩
  exact ⟨rfl, hd⟩

/-! ### charabanclaw04_WideBack: function 14 -/
def charabanclaw04_WideBack.f (a0 : Int) (a1 : Int) (a2 : Int) : Option (Bool) := (charabanclaw04_awake.f).bind fun t188 => (if t188 = true then ((wide_Add.f a0 a1 a2).bind fun bt189 => ((wide_Adc.f a0 a1 a2).bind fun bt191 => ((wide_Sbc.f bt191.1 a1 a2).bind fun bt193 => (if (Go.bits .and .u8 (Go.bits .xor .u8 bt189.2 a2) 196) = 0 then ((wide_Move.f bt189.1 (wrap64 (-(wrap64 (a1))))).bind fun t195 => (if t195 = a0 then (if bt193.1 = a0 then ((wide_Move.f a0 (wrap64 (a1))).bind fun t196 => ((wide_Move.f t196 (wrap64 (-(wrap64 (a1))))).bind fun t197 => (if t197 = a0 then (some ((Go.bits .and .u8 bt189.2 2) == 0)) else (some false)))) else (some false)) else (some false))) else (some false))))) else (some false))
set_option maxHeartbeats 8000000 in
set_option maxRecDepth 100000 in
theorem charabanclaw04_WideBack.calls (a0 : Int) (a1 : Int) (a2 : Int) (r : Bool) (w : World) (h : charabanclaw04_WideBack.f a0 a1 a2 = some r) :
    Calls Try.prog 14 #[.int .u16 a0, .int .u16 a1, .int .u8 a2] w fun e w' => e = .returned (.bool r) ∧ Below w.heap.size w w' := by
  have HB := Aside0.mk (Below.refl w.heap.size w)
  have H : ((charabanclaw04_awake.f).bind fun t188 => (if t188 = true then ((wide_Add.f a0 a1 a2).bind fun bt189 => ((wide_Adc.f a0 a1 a2).bind fun bt191 => ((wide_Sbc.f bt191.1 a1 a2).bind fun bt193 => (if (Go.bits .and .u8 (Go.bits .xor .u8 bt189.2 a2) 196) = 0 then ((wide_Move.f bt189.1 (wrap64 (-(wrap64 (a1))))).bind fun t195 => (if t195 = a0 then (if bt193.1 = a0 then ((wide_Move.f a0 (wrap64 (a1))).bind fun t196 => ((wide_Move.f t196 (wrap64 (-(wrap64 (a1))))).bind fun t197 => (if t197 = a0 then (some ((Go.bits .and .u8 bt189.2 2) == 0)) else (some false)))) else (some false)) else (some false))) else (some false))))) else (some false))) = some r := h
  clear h
  replace H := Option.bind_eq_some_iff.mp H
  obtain ⟨t188, A40, H⟩ := H
  replace H : (if t188 = true then ((wide_Add.f a0 a1 a2).bind fun bt189 => ((wide_Adc.f a0 a1 a2).bind fun bt191 => ((wide_Sbc.f bt191.1 a1 a2).bind fun bt193 => (if (Go.bits .and .u8 (Go.bits .xor .u8 bt189.2 a2) 196) = 0 then ((wide_Move.f bt189.1 (wrap64 (-(wrap64 (a1))))).bind fun t195 => (if t195 = a0 then (if bt193.1 = a0 then ((wide_Move.f a0 (wrap64 (a1))).bind fun t196 => ((wide_Move.f t196 (wrap64 (-(wrap64 (a1))))).bind fun t197 => (if t197 = a0 then (some ((Go.bits .and .u8 bt189.2 2) == 0)) else (some false)))) else (some false)) else (some false))) else (some false))))) else (some false)) = some r := H
  have A4 := Aside0.mk A40
  clear A40
  by_cases c5 : t188 = true
  · subst c5
    have H1 : ((wide_Add.f a0 a1 a2).bind fun bt189 => ((wide_Adc.f a0 a1 a2).bind fun bt191 => ((wide_Sbc.f bt191.1 a1 a2).bind fun bt193 => (if (Go.bits .and .u8 (Go.bits .xor .u8 bt189.2 a2) 196) = 0 then ((wide_Move.f bt189.1 (wrap64 (-(wrap64 (a1))))).bind fun t195 => (if t195 = a0 then (if bt193.1 = a0 then ((wide_Move.f a0 (wrap64 (a1))).bind fun t196 => ((wide_Move.f t196 (wrap64 (-(wrap64 (a1))))).bind fun t197 => (if t197 = a0 then (some ((Go.bits .and .u8 bt189.2 2) == 0)) else (some false)))) else (some false)) else (some false))) else (some false))))) = some r := by rw [if_pos rfl] at H; exact H
    clear H
    have H := H1
    clear H1
    replace H := Option.bind_eq_some_iff.mp H
    obtain ⟨⟨t189, t190⟩, A60, H⟩ := H
    replace H : ((wide_Adc.f a0 a1 a2).bind fun bt191 => ((wide_Sbc.f bt191.1 a1 a2).bind fun bt193 => (if (Go.bits .and .u8 (Go.bits .xor .u8 t190 a2) 196) = 0 then ((wide_Move.f t189 (wrap64 (-(wrap64 (a1))))).bind fun t195 => (if t195 = a0 then (if bt193.1 = a0 then ((wide_Move.f a0 (wrap64 (a1))).bind fun t196 => ((wide_Move.f t196 (wrap64 (-(wrap64 (a1))))).bind fun t197 => (if t197 = a0 then (some ((Go.bits .and .u8 t190 2) == 0)) else (some false)))) else (some false)) else (some false))) else (some false)))) = some r := H
    have A6 := Aside0.mk A60
    clear A60
    replace H := Option.bind_eq_some_iff.mp H
    obtain ⟨⟨t191, t192⟩, A70, H⟩ := H
    replace H : ((wide_Sbc.f t191 a1 a2).bind fun bt193 => (if (Go.bits .and .u8 (Go.bits .xor .u8 t190 a2) 196) = 0 then ((wide_Move.f t189 (wrap64 (-(wrap64 (a1))))).bind fun t195 => (if t195 = a0 then (if bt193.1 = a0 then ((wide_Move.f a0 (wrap64 (a1))).bind fun t196 => ((wide_Move.f t196 (wrap64 (-(wrap64 (a1))))).bind fun t197 => (if t197 = a0 then (some ((Go.bits .and .u8 t190 2) == 0)) else (some false)))) else (some false)) else (some false))) else (some false))) = some r := H
    have A7 := Aside0.mk A70
    clear A70
    replace H := Option.bind_eq_some_iff.mp H
    obtain ⟨⟨t193, t194⟩, A80, H⟩ := H
    replace H : (if (Go.bits .and .u8 (Go.bits .xor .u8 t190 a2) 196) = 0 then ((wide_Move.f t189 (wrap64 (-(wrap64 (a1))))).bind fun t195 => (if t195 = a0 then (if t193 = a0 then ((wide_Move.f a0 (wrap64 (a1))).bind fun t196 => ((wide_Move.f t196 (wrap64 (-(wrap64 (a1))))).bind fun t197 => (if t197 = a0 then (some ((Go.bits .and .u8 t190 2) == 0)) else (some false)))) else (some false)) else (some false))) else (some false)) = some r := H
    have A8 := Aside0.mk A80
    clear A80
    by_cases c9 : (Go.bits .and .u8 (Go.bits .xor .u8 t190 a2) 196) = 0
    · rw [if_pos c9] at H
      have c9b0 : ((Go.bits .and .u8 (Go.bits .xor .u8 t190 a2) 196) == 0) = true := beq_iff_eq.mpr c9
      have c9b1 : ((Go.bits .and .u8 (Go.bits .xor .u8 t190 a2) 196) != 0) = false := bne_eq_false_iff_eq.mpr c9
      clear c9
      replace H := Option.bind_eq_some_iff.mp H
      obtain ⟨t195, A100, H⟩ := H
      replace H : (if t195 = a0 then (if t193 = a0 then ((wide_Move.f a0 (wrap64 (a1))).bind fun t196 => ((wide_Move.f t196 (wrap64 (-(wrap64 (a1))))).bind fun t197 => (if t197 = a0 then (some ((Go.bits .and .u8 t190 2) == 0)) else (some false)))) else (some false)) else (some false)) = some r := H
      have A10 := Aside0.mk A100
      clear A100
      by_cases c11 : t195 = a0
      · rw [if_pos c11] at H
        have c11b0 : (t195 == a0) = true := beq_iff_eq.mpr c11
        have c11b1 : (t195 != a0) = false := bne_eq_false_iff_eq.mpr c11
        clear c11
        by_cases c12 : t193 = a0
        · rw [if_pos c12] at H
          have c12b0 : (t193 == a0) = true := beq_iff_eq.mpr c12
          have c12b1 : (t193 != a0) = false := bne_eq_false_iff_eq.mpr c12
          clear c12
          replace H := Option.bind_eq_some_iff.mp H
          obtain ⟨t196, A130, H⟩ := H
          replace H : ((wide_Move.f t196 (wrap64 (-(wrap64 (a1))))).bind fun t197 => (if t197 = a0 then (some ((Go.bits .and .u8 t190 2) == 0)) else (some false))) = some r := H
          have A13 := Aside0.mk A130
          clear A130
          replace H := Option.bind_eq_some_iff.mp H
          obtain ⟨t197, A140, H⟩ := H
          replace H : (if t197 = a0 then (some ((Go.bits .and .u8 t190 2) == 0)) else (some false)) = some r := H
          have A14 := Aside0.mk A140
          clear A140
          by_cases c15 : t197 = a0
          · rw [if_pos c15] at H
            have c15b0 : (t197 == a0) = true := beq_iff_eq.mpr c15
            have c15b1 : (t197 != a0) = false := bne_eq_false_iff_eq.mpr c15
            clear c15
            obtain rfl := Option.some.inj H
            go_enter Try.func14, Try.ntmps14
            go_wp2_with (first | ((with_reducible refine gate_callee (f := 47) rfl ?_); refine goesL_ (some 14) rfl rfl Try.func47 (by kernel_rfl) rfl #[] rfl (by (try simp only [List.map_toArray, List.map_cons, List.map_nil]); first | done | rfl | (simp only [List.length_drop, List.length_take]; rfl)) ?_; (with_reducible refine (charabanclaw04_awake.calls  true _ A4.out).mono ?_); rintro e w16 ⟨rfl, hb⟩; refine ⟨_, rfl, ?_⟩; have n0_ := Aside0.mk (below_step (by repeat (first | (with_reducible first | exact HB.out | apply below_alloc | apply pw_below_drewN | apply below_drew1) | exact HB.out)) hb); clear HB; have HB := n0_; clear n0_; (try clear hb); (try clear hb2); (try clear hk); (try clear hi)) | ((with_reducible refine gate_callee (f := 48) rfl ?_); refine goesL_ (some 21) rfl rfl Try.func48 (by kernel_rfl) rfl #[.int .u16 a0, .int .u16 a1, .int .u8 a2] rfl (by (try simp only [List.map_toArray, List.map_cons, List.map_nil]); first | done | rfl | (simp only [List.length_drop, List.length_take]; rfl)) ?_; (with_reducible refine (wide_Add.calls a0 a1 a2 t189 t190 _ A6.out).mono ?_); rintro e w17 ⟨rfl, hb⟩; refine ⟨_, rfl, ?_⟩; have n0_ := Aside0.mk (below_step (by repeat (first | (with_reducible first | exact HB.out | apply below_alloc | apply pw_below_drewN | apply below_drew1) | exact HB.out)) hb); clear HB; have HB := n0_; clear n0_; (try clear hb); (try clear hb2); (try clear hk); (try clear hi)) | ((with_reducible refine gate_callee (f := 50) rfl ?_); refine goesL_ (some 28) rfl rfl Try.func50 (by kernel_rfl) rfl #[.int .u16 a0, .int .u16 a1, .int .u8 a2] rfl (by (try simp only [List.map_toArray, List.map_cons, List.map_nil]); first | done | rfl | (simp only [List.length_drop, List.length_take]; rfl)) ?_; (with_reducible refine (wide_Adc.calls a0 a1 a2 t191 t192 _ A7.out).mono ?_); rintro e w18 ⟨rfl, hb⟩; refine ⟨_, rfl, ?_⟩; have n0_ := Aside0.mk (below_step (by repeat (first | (with_reducible first | exact HB.out | apply below_alloc | apply pw_below_drewN | apply below_drew1) | exact HB.out)) hb); clear HB; have HB := n0_; clear n0_; (try clear hb); (try clear hb2); (try clear hk); (try clear hi)) | ((with_reducible refine gate_callee (f := 52) rfl ?_); refine goesL_ (some 35) rfl rfl Try.func52 (by kernel_rfl) rfl #[.int .u16 t191, .int .u16 a1, .int .u8 a2] rfl (by (try simp only [List.map_toArray, List.map_cons, List.map_nil]); first | done | rfl | (simp only [List.length_drop, List.length_take]; rfl)) ?_; (with_reducible refine (wide_Sbc.calls t191 a1 a2 t193 t194 _ A8.out).mono ?_); rintro e w19 ⟨rfl, hb⟩; refine ⟨_, rfl, ?_⟩; have n0_ := Aside0.mk (below_step (by repeat (first | (with_reducible first | exact HB.out | apply below_alloc | apply pw_below_drewN | apply below_drew1) | exact HB.out)) hb); clear HB; have HB := n0_; clear n0_; (try clear hb); (try clear hb2); (try clear hk); (try clear hi)) | (go_at_call 54; (with_reducible refine (wide_Move.calls t189 (wrap64 (-(wrap64 (a1)))) t195 _ A10.out).mono ?_); rintro e w' ⟨rfl, ⟨nd, rfl⟩⟩) | (go_at_call 54; (with_reducible refine (wide_Move.calls a0 (wrap64 (a1)) t196 _ A13.out).mono ?_); rintro e w' ⟨rfl, ⟨nd, rfl⟩⟩) | (go_at_call 54; (with_reducible refine (wide_Move.calls t196 (wrap64 (-(wrap64 (a1)))) t197 _ A14.out).mono ?_); rintro e w' ⟨rfl, ⟨nd, rfl⟩⟩))
            go_ret
            exact ⟨by first | rfl | (simp [errW_none, errW_some] <;> rfl) | (simp [*, errW_none, errW_some] <;> rfl), by repeat (first | (with_reducible first | exact HB.out | apply below_alloc | apply pw_below_drewN | apply below_drew1) | exact HB.out)⟩
          · rw [if_neg c15] at H
            have c15b0 : (t197 == a0) = false := beq_eq_false_iff_ne.mpr c15
            have c15b1 : (t197 != a0) = true := bne_iff_ne.mpr c15
            obtain rfl := Option.some.inj H
            go_enter Try.func14, Try.ntmps14
            go_wp2_with (first | ((with_reducible refine gate_callee (f := 47) rfl ?_); refine goesL_ (some 14) rfl rfl Try.func47 (by kernel_rfl) rfl #[] rfl (by (try simp only [List.map_toArray, List.map_cons, List.map_nil]); first | done | rfl | (simp only [List.length_drop, List.length_take]; rfl)) ?_; (with_reducible refine (charabanclaw04_awake.calls  true _ A4.out).mono ?_); rintro e w20 ⟨rfl, hb⟩; refine ⟨_, rfl, ?_⟩; have n0_ := Aside0.mk (below_step (by repeat (first | (with_reducible first | exact HB.out | apply below_alloc | apply pw_below_drewN | apply below_drew1) | exact HB.out)) hb); clear HB; have HB := n0_; clear n0_; (try clear hb); (try clear hb2); (try clear hk); (try clear hi)) | ((with_reducible refine gate_callee (f := 48) rfl ?_); refine goesL_ (some 21) rfl rfl Try.func48 (by kernel_rfl) rfl #[.int .u16 a0, .int .u16 a1, .int .u8 a2] rfl (by (try simp only [List.map_toArray, List.map_cons, List.map_nil]); first | done | rfl | (simp only [List.length_drop, List.length_take]; rfl)) ?_; (with_reducible refine (wide_Add.calls a0 a1 a2 t189 t190 _ A6.out).mono ?_); rintro e w21 ⟨rfl, hb⟩; refine ⟨_, rfl, ?_⟩; have n0_ := Aside0.mk (below_step (by repeat (first | (with_reducible first | exact HB.out | apply below_alloc | apply pw_below_drewN | apply below_drew1) | exact HB.out)) hb); clear HB; have HB := n0_; clear n0_; (try clear hb); (try clear hb2); (try clear hk); (try clear hi)) | ((with_reducible refine gate_callee (f := 50) rfl ?_); refine goesL_ (some 28) rfl rfl Try.func50 (by kernel_rfl) rfl #[.int .u16 a0, .int .u16 a1, .int .u8 a2] rfl (by (try simp only [List.map_toArray, List.map_cons, List.map_nil]); first | done | rfl | (simp only [List.length_drop, List.length_take]; rfl)) ?_; (with_reducible refine (wide_Adc.calls a0 a1 a2 t191 t192 _ A7.out).mono ?_); rintro e w22 ⟨rfl, hb⟩; refine ⟨_, rfl, ?_⟩; have n0_ := Aside0.mk (below_step (by repeat (first | (with_reducible first | exact HB.out | apply below_alloc | apply pw_below_drewN | apply below_drew1) | exact HB.out)) hb); clear HB; have HB := n0_; clear n0_; (try clear hb); (try clear hb2); (try clear hk); (try clear hi)) | ((with_reducible refine gate_callee (f := 52) rfl ?_); refine goesL_ (some 35) rfl rfl Try.func52 (by kernel_rfl) rfl #[.int .u16 t191, .int .u16 a1, .int .u8 a2] rfl (by (try simp only [List.map_toArray, List.map_cons, List.map_nil]); first | done | rfl | (simp only [List.length_drop, List.length_take]; rfl)) ?_; (with_reducible refine (wide_Sbc.calls t191 a1 a2 t193 t194 _ A8.out).mono ?_); rintro e w23 ⟨rfl, hb⟩; refine ⟨_, rfl, ?_⟩; have n0_ := Aside0.mk (below_step (by repeat (first | (with_reducible first | exact HB.out | apply below_alloc | apply pw_below_drewN | apply below_drew1) | exact HB.out)) hb); clear HB; have HB := n0_; clear n0_; (try clear hb); (try clear hb2); (try clear hk); (try clear hi)) | (go_at_call 54; (with_reducible refine (wide_Move.calls t189 (wrap64 (-(wrap64 (a1)))) t195 _ A10.out).mono ?_); rintro e w' ⟨rfl, ⟨nd, rfl⟩⟩) | (go_at_call 54; (with_reducible refine (wide_Move.calls a0 (wrap64 (a1)) t196 _ A13.out).mono ?_); rintro e w' ⟨rfl, ⟨nd, rfl⟩⟩) | (go_at_call 54; (with_reducible refine (wide_Move.calls t196 (wrap64 (-(wrap64 (a1)))) t197 _ A14.out).mono ?_); rintro e w' ⟨rfl, ⟨nd, rfl⟩⟩))
            go_ret
            exact ⟨by first | rfl | (simp [errW_none, errW_some] <;> rfl) | (simp [*, errW_none, errW_some] <;> rfl), by repeat (first | (with_reducible first | exact HB.out | apply below_alloc | apply pw_below_drewN | apply below_drew1) | exact HB.out)⟩
        · rw [if_neg c12] at H
          have c12b0 : (t193 == a0) = false := beq_eq_false_iff_ne.mpr c12
          have c12b1 : (t193 != a0) = true := bne_iff_ne.mpr c12
          obtain rfl := Option.some.inj H
          go_enter Try.func14, Try.ntmps14
          go_wp2_with (first | ((with_reducible refine gate_callee (f := 47) rfl ?_); refine goesL_ (some 14) rfl rfl Try.func47 (by kernel_rfl) rfl #[] rfl (by (try simp only [List.map_toArray, List.map_cons, List.map_nil]); first | done | rfl | (simp only [List.length_drop, List.length_take]; rfl)) ?_; (with_reducible refine (charabanclaw04_awake.calls  true _ A4.out).mono ?_); rintro e w24 ⟨rfl, hb⟩; refine ⟨_, rfl, ?_⟩; have n0_ := Aside0.mk (below_step (by repeat (first | (with_reducible first | exact HB.out | apply below_alloc | apply pw_below_drewN | apply below_drew1) | exact HB.out)) hb); clear HB; have HB := n0_; clear n0_; (try clear hb); (try clear hb2); (try clear hk); (try clear hi)) | ((with_reducible refine gate_callee (f := 48) rfl ?_); refine goesL_ (some 21) rfl rfl Try.func48 (by kernel_rfl) rfl #[.int .u16 a0, .int .u16 a1, .int .u8 a2] rfl (by (try simp only [List.map_toArray, List.map_cons, List.map_nil]); first | done | rfl | (simp only [List.length_drop, List.length_take]; rfl)) ?_; (with_reducible refine (wide_Add.calls a0 a1 a2 t189 t190 _ A6.out).mono ?_); rintro e w25 ⟨rfl, hb⟩; refine ⟨_, rfl, ?_⟩; have n0_ := Aside0.mk (below_step (by repeat (first | (with_reducible first | exact HB.out | apply below_alloc | apply pw_below_drewN | apply below_drew1) | exact HB.out)) hb); clear HB; have HB := n0_; clear n0_; (try clear hb); (try clear hb2); (try clear hk); (try clear hi)) | ((with_reducible refine gate_callee (f := 50) rfl ?_); refine goesL_ (some 28) rfl rfl Try.func50 (by kernel_rfl) rfl #[.int .u16 a0, .int .u16 a1, .int .u8 a2] rfl (by (try simp only [List.map_toArray, List.map_cons, List.map_nil]); first | done | rfl | (simp only [List.length_drop, List.length_take]; rfl)) ?_; (with_reducible refine (wide_Adc.calls a0 a1 a2 t191 t192 _ A7.out).mono ?_); rintro e w26 ⟨rfl, hb⟩; refine ⟨_, rfl, ?_⟩; have n0_ := Aside0.mk (below_step (by repeat (first | (with_reducible first | exact HB.out | apply below_alloc | apply pw_below_drewN | apply below_drew1) | exact HB.out)) hb); clear HB; have HB := n0_; clear n0_; (try clear hb); (try clear hb2); (try clear hk); (try clear hi)) | ((with_reducible refine gate_callee (f := 52) rfl ?_); refine goesL_ (some 35) rfl rfl Try.func52 (by kernel_rfl) rfl #[.int .u16 t191, .int .u16 a1, .int .u8 a2] rfl (by (try simp only [List.map_toArray, List.map_cons, List.map_nil]); first | done | rfl | (simp only [List.length_drop, List.length_take]; rfl)) ?_; (with_reducible refine (wide_Sbc.calls t191 a1 a2 t193 t194 _ A8.out).mono ?_); rintro e w27 ⟨rfl, hb⟩; refine ⟨_, rfl, ?_⟩; have n0_ := Aside0.mk (below_step (by repeat (first | (with_reducible first | exact HB.out | apply below_alloc | apply pw_below_drewN | apply below_drew1) | exact HB.out)) hb); clear HB; have HB := n0_; clear n0_; (try clear hb); (try clear hb2); (try clear hk); (try clear hi)) | (go_at_call 54; (with_reducible refine (wide_Move.calls t189 (wrap64 (-(wrap64 (a1)))) t195 _ A10.out).mono ?_); rintro e w' ⟨rfl, ⟨nd, rfl⟩⟩))
          go_ret
          exact ⟨by first | rfl | (simp [errW_none, errW_some] <;> rfl) | (simp [*, errW_none, errW_some] <;> rfl), by repeat (first | (with_reducible first | exact HB.out | apply below_alloc | apply pw_below_drewN | apply below_drew1) | exact HB.out)⟩
      · rw [if_neg c11] at H
        have c11b0 : (t195 == a0) = false := beq_eq_false_iff_ne.mpr c11
        have c11b1 : (t195 != a0) = true := bne_iff_ne.mpr c11
        obtain rfl := Option.some.inj H
        go_enter Try.func14, Try.ntmps14
        go_wp2_with (first | ((with_reducible refine gate_callee (f := 47) rfl ?_); refine goesL_ (some 14) rfl rfl Try.func47 (by kernel_rfl) rfl #[] rfl (by (try simp only [List.map_toArray, List.map_cons, List.map_nil]); first | done | rfl | (simp only [List.length_drop, List.length_take]; rfl)) ?_; (with_reducible refine (charabanclaw04_awake.calls  true _ A4.out).mono ?_); rintro e w28 ⟨rfl, hb⟩; refine ⟨_, rfl, ?_⟩; have n0_ := Aside0.mk (below_step (by repeat (first | (with_reducible first | exact HB.out | apply below_alloc | apply pw_below_drewN | apply below_drew1) | exact HB.out)) hb); clear HB; have HB := n0_; clear n0_; (try clear hb); (try clear hb2); (try clear hk); (try clear hi)) | ((with_reducible refine gate_callee (f := 48) rfl ?_); refine goesL_ (some 21) rfl rfl Try.func48 (by kernel_rfl) rfl #[.int .u16 a0, .int .u16 a1, .int .u8 a2] rfl (by (try simp only [List.map_toArray, List.map_cons, List.map_nil]); first | done | rfl | (simp only [List.length_drop, List.length_take]; rfl)) ?_; (with_reducible refine (wide_Add.calls a0 a1 a2 t189 t190 _ A6.out).mono ?_); rintro e w29 ⟨rfl, hb⟩; refine ⟨_, rfl, ?_⟩; have n0_ := Aside0.mk (below_step (by repeat (first | (with_reducible first | exact HB.out | apply below_alloc | apply pw_below_drewN | apply below_drew1) | exact HB.out)) hb); clear HB; have HB := n0_; clear n0_; (try clear hb); (try clear hb2); (try clear hk); (try clear hi)) | ((with_reducible refine gate_callee (f := 50) rfl ?_); refine goesL_ (some 28) rfl rfl Try.func50 (by kernel_rfl) rfl #[.int .u16 a0, .int .u16 a1, .int .u8 a2] rfl (by (try simp only [List.map_toArray, List.map_cons, List.map_nil]); first | done | rfl | (simp only [List.length_drop, List.length_take]; rfl)) ?_; (with_reducible refine (wide_Adc.calls a0 a1 a2 t191 t192 _ A7.out).mono ?_); rintro e w30 ⟨rfl, hb⟩; refine ⟨_, rfl, ?_⟩; have n0_ := Aside0.mk (below_step (by repeat (first | (with_reducible first | exact HB.out | apply below_alloc | apply pw_below_drewN | apply below_drew1) | exact HB.out)) hb); clear HB; have HB := n0_; clear n0_; (try clear hb); (try clear hb2); (try clear hk); (try clear hi)) | ((with_reducible refine gate_callee (f := 52) rfl ?_); refine goesL_ (some 35) rfl rfl Try.func52 (by kernel_rfl) rfl #[.int .u16 t191, .int .u16 a1, .int .u8 a2] rfl (by (try simp only [List.map_toArray, List.map_cons, List.map_nil]); first | done | rfl | (simp only [List.length_drop, List.length_take]; rfl)) ?_; (with_reducible refine (wide_Sbc.calls t191 a1 a2 t193 t194 _ A8.out).mono ?_); rintro e w31 ⟨rfl, hb⟩; refine ⟨_, rfl, ?_⟩; have n0_ := Aside0.mk (below_step (by repeat (first | (with_reducible first | exact HB.out | apply below_alloc | apply pw_below_drewN | apply below_drew1) | exact HB.out)) hb); clear HB; have HB := n0_; clear n0_; (try clear hb); (try clear hb2); (try clear hk); (try clear hi)) | (go_at_call 54; (with_reducible refine (wide_Move.calls t189 (wrap64 (-(wrap64 (a1)))) t195 _ A10.out).mono ?_); rintro e w' ⟨rfl, ⟨nd, rfl⟩⟩))
        go_ret
        exact ⟨by first | rfl | (simp [errW_none, errW_some] <;> rfl) | (simp [*, errW_none, errW_some] <;> rfl), by repeat (first | (with_reducible first | exact HB.out | apply below_alloc | apply pw_below_drewN | apply below_drew1) | exact HB.out)⟩
    · rw [if_neg c9] at H
      have c9b0 : ((Go.bits .and .u8 (Go.bits .xor .u8 t190 a2) 196) == 0) = false := beq_eq_false_iff_ne.mpr c9
      have c9b1 : ((Go.bits .and .u8 (Go.bits .xor .u8 t190 a2) 196) != 0) = true := bne_iff_ne.mpr c9
      obtain rfl := Option.some.inj H
      go_enter Try.func14, Try.ntmps14
      go_wp2_with (first | ((with_reducible refine gate_callee (f := 47) rfl ?_); refine goesL_ (some 14) rfl rfl Try.func47 (by kernel_rfl) rfl #[] rfl (by (try simp only [List.map_toArray, List.map_cons, List.map_nil]); first | done | rfl | (simp only [List.length_drop, List.length_take]; rfl)) ?_; (with_reducible refine (charabanclaw04_awake.calls  true _ A4.out).mono ?_); rintro e w32 ⟨rfl, hb⟩; refine ⟨_, rfl, ?_⟩; have n0_ := Aside0.mk (below_step (by repeat (first | (with_reducible first | exact HB.out | apply below_alloc | apply pw_below_drewN | apply below_drew1) | exact HB.out)) hb); clear HB; have HB := n0_; clear n0_; (try clear hb); (try clear hb2); (try clear hk); (try clear hi)) | ((with_reducible refine gate_callee (f := 48) rfl ?_); refine goesL_ (some 21) rfl rfl Try.func48 (by kernel_rfl) rfl #[.int .u16 a0, .int .u16 a1, .int .u8 a2] rfl (by (try simp only [List.map_toArray, List.map_cons, List.map_nil]); first | done | rfl | (simp only [List.length_drop, List.length_take]; rfl)) ?_; (with_reducible refine (wide_Add.calls a0 a1 a2 t189 t190 _ A6.out).mono ?_); rintro e w33 ⟨rfl, hb⟩; refine ⟨_, rfl, ?_⟩; have n0_ := Aside0.mk (below_step (by repeat (first | (with_reducible first | exact HB.out | apply below_alloc | apply pw_below_drewN | apply below_drew1) | exact HB.out)) hb); clear HB; have HB := n0_; clear n0_; (try clear hb); (try clear hb2); (try clear hk); (try clear hi)) | ((with_reducible refine gate_callee (f := 50) rfl ?_); refine goesL_ (some 28) rfl rfl Try.func50 (by kernel_rfl) rfl #[.int .u16 a0, .int .u16 a1, .int .u8 a2] rfl (by (try simp only [List.map_toArray, List.map_cons, List.map_nil]); first | done | rfl | (simp only [List.length_drop, List.length_take]; rfl)) ?_; (with_reducible refine (wide_Adc.calls a0 a1 a2 t191 t192 _ A7.out).mono ?_); rintro e w34 ⟨rfl, hb⟩; refine ⟨_, rfl, ?_⟩; have n0_ := Aside0.mk (below_step (by repeat (first | (with_reducible first | exact HB.out | apply below_alloc | apply pw_below_drewN | apply below_drew1) | exact HB.out)) hb); clear HB; have HB := n0_; clear n0_; (try clear hb); (try clear hb2); (try clear hk); (try clear hi)) | ((with_reducible refine gate_callee (f := 52) rfl ?_); refine goesL_ (some 35) rfl rfl Try.func52 (by kernel_rfl) rfl #[.int .u16 t191, .int .u16 a1, .int .u8 a2] rfl (by (try simp only [List.map_toArray, List.map_cons, List.map_nil]); first | done | rfl | (simp only [List.length_drop, List.length_take]; rfl)) ?_; (with_reducible refine (wide_Sbc.calls t191 a1 a2 t193 t194 _ A8.out).mono ?_); rintro e w35 ⟨rfl, hb⟩; refine ⟨_, rfl, ?_⟩; have n0_ := Aside0.mk (below_step (by repeat (first | (with_reducible first | exact HB.out | apply below_alloc | apply pw_below_drewN | apply below_drew1) | exact HB.out)) hb); clear HB; have HB := n0_; clear n0_; (try clear hb); (try clear hb2); (try clear hk); (try clear hi)))
      go_ret
      exact ⟨by first | rfl | (simp [errW_none, errW_some] <;> rfl) | (simp [*, errW_none, errW_some] <;> rfl), by repeat (first | (with_reducible first | exact HB.out | apply below_alloc | apply pw_below_drewN | apply below_drew1) | exact HB.out)⟩
  · replace c5 := Bool.eq_false_iff.mpr c5
    subst c5
    have H1 : (some false) = some r := by rw [if_neg (show ¬ (false = true) by decide)] at H; exact H
    clear H
    have H := H1
    clear H1
    obtain rfl := Option.some.inj H
    go_enter Try.func14, Try.ntmps14
    go_wp2_with (first | ((with_reducible refine gate_callee (f := 47) rfl ?_); refine goesL_ (some 14) rfl rfl Try.func47 (by kernel_rfl) rfl #[] rfl (by (try simp only [List.map_toArray, List.map_cons, List.map_nil]); first | done | rfl | (simp only [List.length_drop, List.length_take]; rfl)) ?_; (with_reducible refine (charabanclaw04_awake.calls  false _ A4.out).mono ?_); rintro e w36 ⟨rfl, hb⟩; refine ⟨_, rfl, ?_⟩; have n0_ := Aside0.mk (below_step (by repeat (first | (with_reducible first | exact HB.out | apply below_alloc | apply pw_below_drewN | apply below_drew1) | exact HB.out)) hb); clear HB; have HB := n0_; clear n0_; (try clear hb); (try clear hb2); (try clear hk); (try clear hi)))
    go_ret
    exact ⟨by first | rfl | (simp [errW_none, errW_some] <;> rfl) | (simp [*, errW_none, errW_some] <;> rfl), by repeat (first | (with_reducible first | exact HB.out | apply below_alloc | apply pw_below_drewN | apply below_drew1) | exact HB.out)⟩

/-- THE ONE PURE STATEMENT of charabanclaw04_WideBack: yours. -/
def charabanclaw04_WideBack.Pure : Prop := ∀ (a0 : Int) (a1 : Int) (a2 : Int), (Lit.int .u16 a0).wf = true → (Lit.int .u16 a1).wf = true → (Lit.int .u8 a2).wf = true → charabanclaw04_WideBack.f a0 a1 a2 = some true
theorem charabanclaw04_WideBack.walk (P : charabanclaw04_WideBack.Pure) (a0 : Int) (a1 : Int) (a2 : Int) (w : World) (w0 : (Lit.int .u16 a0).wf = true) (w1 : (Lit.int .u16 a1).wf = true) (w2 : (Lit.int .u8 a2).wf = true) :
    Calls Try.prog 14 #[.int .u16 a0, .int .u16 a1, .int .u8 a2] w fun e w' => e = .returned (.bool true) ∧ Below w.heap.size w w' := by
  have h := P a0 a1 a2 w0 w1 w2
  refine (charabanclaw04_WideBack.calls a0 a1 a2 true w h).mono ?_
  rintro e w' ⟨rfl, hd⟩
  exact ⟨rfl, hd⟩

end Go.Proofs.Ythidmlnoiginiaa.PW
