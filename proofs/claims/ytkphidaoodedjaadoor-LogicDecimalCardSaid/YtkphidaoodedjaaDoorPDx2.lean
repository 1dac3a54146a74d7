/- Written by a program of this session out of the translation and the contracts proved by hand: each function's answer and its proof; each law's statement over plain numbers. -/
import Derived.Test.YtkphidaoodedjaaDoorPDx0
import Derived.Test.YtkphidaoodedjaaDoorPDx1
namespace Go.Proofs.YtkphidaoodedjaaDoor.PD
open Go.RowKit Go.Proofs.YtkphidaoodedjaaDoorW.PrintWords Go.Proofs.YtkphidaoodedjaaDoorW.PrintLast Go.Proofs.YtkphidaoodedjaaDoorW.PrintMore
attribute [local go_sem] max2_int min2_int max_two min_two max_three min_three max_four min_four   -- for this text's walks alone
set_option linter.unusedVariables false
set_option linter.unusedSimpArgs false

/-! ### charabancref03_Add: function 22 -/
def charabancref03_Add.f (a0 : Int) (a1 : Int) (a2 : Bool) : Option (Int × Int) := if (0 ≤ a0 ∧ a0 ≤ 255) ∧ (0 ≤ a1 ∧ a1 ≤ 255) then some (M.addR a0 a1 a2, M.addF a0 a1 a2) else none
theorem charabancref03_Add.calls (a0 : Int) (a1 : Int) (a2 : Bool) (r1 : Int) (r2 : Int) (w : World) (h : charabancref03_Add.f a0 a1 a2 = some (r1, r2)) :
    Calls Tryd.prog 22 #[.int .u8 a0, .int .u8 a1, .bool a2] w fun e w' => e = .returned (.tuple #[.int .u8 r1, .int .u8 r2]) ∧ Below w.heap.size w w' := by
  unfold charabancref03_Add.f at h
  split at h
  · rename_i hg
    simp only [Option.some.injEq, Prod.mk.injEq] at h
    obtain ⟨rfl, rfl⟩ := h
    exact refadd_any a0 a1 a2 (by omega) (by omega) (by omega) (by omega) w
  · cases h

/-! ### charabancref03_Sub: function 23 -/
def charabancref03_Sub.f (a0 : Int) (a1 : Int) (a2 : Bool) : Option (Int × Int) := if (0 ≤ a0 ∧ a0 ≤ 255) ∧ (0 ≤ a1 ∧ a1 ≤ 255) then some (M.subR a0 a1 a2, M.subF a0 a1 a2) else none
theorem charabancref03_Sub.calls (a0 : Int) (a1 : Int) (a2 : Bool) (r1 : Int) (r2 : Int) (w : World) (h : charabancref03_Sub.f a0 a1 a2 = some (r1, r2)) :
    Calls Tryd.prog 23 #[.int .u8 a0, .int .u8 a1, .bool a2] w fun e w' => e = .returned (.tuple #[.int .u8 r1, .int .u8 r2]) ∧ Below w.heap.size w w' := by
  unfold charabancref03_Sub.f at h
  split at h
  · rename_i hg
    simp only [Option.some.injEq, Prod.mk.injEq] at h
    obtain ⟨rfl, rfl⟩ := h
    exact refsub_any a0 a1 a2 (by omega) (by omega) (by omega) (by omega) w
  · cases h

/-! ### charabanclaw05_LogicDecimal: function 6 -/
mutual
def charabanclaw05_LogicDecimal.j0 : Nat → Bool → Int → Int → Int → Int → Int → Int → Int → Option (Bool)
  | 0, _, _, _, _, _, _, _, _ => none
  | k + 1, x2, x8, x9, x10, x11, x14, x15, x16 => if (wrap64 ((((Int.tdiv x14 16) % 256) * 10) + (wrap64 (Int.tmod x14 16)))) = (Int.tmod x16 100) then (charabanclaw05_LogicDecimal.j1 k x2 x8 x9 x10 x11 (((Go.bits .and .u8 x15 1) == 1) != (decide (x16 > 99)))) else (charabanclaw05_LogicDecimal.j1 k x2 x8 x9 x10 x11 true)
def charabanclaw05_LogicDecimal.j1 : Nat → Bool → Int → Int → Int → Int → Bool → Option (Bool)
  | 0, _, _, _, _, _, _ => none
  | k + 1, x2, x8, x9, x10, x11, x82 => if x82 = true then (some false) else ((charabancref03_Sub.f x10 x11 x2).bind fun bt127 => ((logic_Daa.f bt127.1 bt127.2).bind fun bt129 => (if x2 = true then (if (wrap64 ((((Int.tdiv bt129.1 16) % 256) * 10) + (wrap64 (Int.tmod bt129.1 16)))) = (Int.tmod (wrap64 ((wrap64 ((wrap64 (x8 - x9)) - 1)) + 100)) 100) then (some (((Go.bits .and .u8 bt129.2 1) == 1) == (decide ((wrap64 ((wrap64 (x8 - x9)) - 1)) < 0)))) else (some false)) else (if (wrap64 ((((Int.tdiv bt129.1 16) % 256) * 10) + (wrap64 (Int.tmod bt129.1 16)))) = (Int.tmod (wrap64 ((wrap64 (x8 - x9)) + 100)) 100) then (some (((Go.bits .and .u8 bt129.2 1) == 1) == (decide ((wrap64 (x8 - x9)) < 0)))) else (some false)))))
end
def charabanclaw05_LogicDecimal.f (k : Nat) (a0 : Int) (a1 : Int) (a2 : Bool) : Option (Bool) := (charabanclaw05_awake.f).bind fun t122 => (if t122 = true then ((charabancref03_Add.f ((wrap64 ((wrap64 ((wrap64 (Int.tdiv (Int.tmod (wrap64 (a0)) 100) 10)) * 16)) + (Int.tmod (wrap64 (a0)) 10))) % 256) ((wrap64 ((wrap64 ((wrap64 (Int.tdiv (Int.tmod (wrap64 (a1)) 100) 10)) * 16)) + (Int.tmod (wrap64 (a1)) 10))) % 256) a2).bind fun bt123 => ((logic_Daa.f bt123.1 bt123.2).bind fun bt125 => (if a2 = true then (charabanclaw05_LogicDecimal.j0 k a2 (Int.tmod (wrap64 (a0)) 100) (Int.tmod (wrap64 (a1)) 100) ((wrap64 ((wrap64 ((wrap64 (Int.tdiv (Int.tmod (wrap64 (a0)) 100) 10)) * 16)) + (Int.tmod (wrap64 (a0)) 10))) % 256) ((wrap64 ((wrap64 ((wrap64 (Int.tdiv (Int.tmod (wrap64 (a1)) 100) 10)) * 16)) + (Int.tmod (wrap64 (a1)) 10))) % 256) bt125.1 bt125.2 (wrap64 ((wrap64 ((Int.tmod (wrap64 (a0)) 100) + (Int.tmod (wrap64 (a1)) 100))) + 1))) else (charabanclaw05_LogicDecimal.j0 k a2 (Int.tmod (wrap64 (a0)) 100) (Int.tmod (wrap64 (a1)) 100) ((wrap64 ((wrap64 ((wrap64 (Int.tdiv (Int.tmod (wrap64 (a0)) 100) 10)) * 16)) + (Int.tmod (wrap64 (a0)) 10))) % 256) ((wrap64 ((wrap64 ((wrap64 (Int.tdiv (Int.tmod (wrap64 (a1)) 100) 10)) * 16)) + (Int.tmod (wrap64 (a1)) 10))) % 256) bt125.1 bt125.2 (wrap64 ((Int.tmod (wrap64 (a0)) 100) + (Int.tmod (wrap64 (a1)) 100))))))) else (some false))
theorem charabanclaw05_LogicDecimal.mono_l : ∀ k, (∀ y0 y1 y2 y3 y4 y5 y6 y7, LeO (charabanclaw05_LogicDecimal.j0 k y0 y1 y2 y3 y4 y5 y6 y7) (charabanclaw05_LogicDecimal.j0 (k + 1) y0 y1 y2 y3 y4 y5 y6 y7)) ∧ (∀ y0 y1 y2 y3 y4 y5, LeO (charabanclaw05_LogicDecimal.j1 k y0 y1 y2 y3 y4 y5) (charabanclaw05_LogicDecimal.j1 (k + 1) y0 y1 y2 y3 y4 y5))
  | 0 => ⟨fun _ _ _ _ _ _ _ _ r h => by simp [charabanclaw05_LogicDecimal.j0] at h, fun _ _ _ _ _ _ r h => by simp [charabanclaw05_LogicDecimal.j1] at h⟩
  | k + 1 => by
    obtain ⟨ih0, ih1⟩ := charabanclaw05_LogicDecimal.mono_l k
    refine ⟨?_, ?_⟩
    · intro y0 y1 y2 y3 y4 y5 y6 y7
      unfold charabanclaw05_LogicDecimal.j0
      repeat' first
      | (with_reducible exact ih0 _ _ _ _ _ _ _ _)
      | (with_reducible exact ih1 _ _ _ _ _ _)
      | (with_reducible exact LeO.refl _)
      | (with_reducible exact LeO.none _)
      | (with_reducible refine LeO.ite ?_ ?_)
      | (with_reducible refine LeO.bind ?_ (fun _ => ?_))
      | exact ih0 _ _ _ _ _ _ _ _
      | exact ih1 _ _ _ _ _ _
      | exact LeO.none _
      | refine LeO.ite ?_ ?_
      | refine LeO.bind ?_ (fun _ => ?_)
    · intro y0 y1 y2 y3 y4 y5
      unfold charabanclaw05_LogicDecimal.j1
      repeat' first
      | (with_reducible exact ih0 _ _ _ _ _ _ _ _)
      | (with_reducible exact ih1 _ _ _ _ _ _)
      | (with_reducible exact LeO.refl _)
      | (with_reducible exact LeO.none _)
      | (with_reducible refine LeO.ite ?_ ?_)
      | (with_reducible refine LeO.bind ?_ (fun _ => ?_))
      | exact ih0 _ _ _ _ _ _ _ _
      | exact ih1 _ _ _ _ _ _
      | exact LeO.none _
      | refine LeO.ite ?_ ?_
      | refine LeO.bind ?_ (fun _ => ?_)
theorem charabanclaw05_LogicDecimal.mono : ∀ a0 a1 a2 k, LeO (charabanclaw05_LogicDecimal.f k a0 a1 a2) (charabanclaw05_LogicDecimal.f (k + 1) a0 a1 a2) := by
  intro a0 a1 a2 k
  obtain ⟨ih0, ih1⟩ := charabanclaw05_LogicDecimal.mono_l k
  unfold charabanclaw05_LogicDecimal.f
  repeat' first
      | (with_reducible exact ih0 _ _ _ _ _ _ _ _)
      | (with_reducible exact ih1 _ _ _ _ _ _)
      | (with_reducible exact LeO.refl _)
      | (with_reducible exact LeO.none _)
      | (with_reducible refine LeO.ite ?_ ?_)
      | (with_reducible refine LeO.bind ?_ (fun _ => ?_))
      | exact ih0 _ _ _ _ _ _ _ _
      | exact ih1 _ _ _ _ _ _
      | exact LeO.none _
      | refine LeO.ite ?_ ?_
      | refine LeO.bind ?_ (fun _ => ?_)
set_option maxHeartbeats 8000000 in
set_option maxRecDepth 100000 in
theorem charabanclaw05_LogicDecimal.calls (k : Nat) (a0 : Int) (a1 : Int) (a2 : Bool) (r : Bool) (w : World) (h : charabanclaw05_LogicDecimal.f k a0 a1 a2 = some r) (HL : Laid w) :
    Calls Tryd.prog 6 #[.int .u8 a0, .int .u8 a1, .bool a2] w fun e w' => e = .returned (.bool r) ∧ Below w.heap.size w w' := by
  have HB := Aside0.mk (Below.refl w.heap.size w)
  have H : ((charabanclaw05_awake.f).bind fun t122 => (if t122 = true then ((charabancref03_Add.f ((wrap64 ((wrap64 ((wrap64 (Int.tdiv (Int.tmod (wrap64 (a0)) 100) 10)) * 16)) + (Int.tmod (wrap64 (a0)) 10))) % 256) ((wrap64 ((wrap64 ((wrap64 (Int.tdiv (Int.tmod (wrap64 (a1)) 100) 10)) * 16)) + (Int.tmod (wrap64 (a1)) 10))) % 256) a2).bind fun bt123 => ((logic_Daa.f bt123.1 bt123.2).bind fun bt125 => (if a2 = true then (charabanclaw05_LogicDecimal.j0 k a2 (Int.tmod (wrap64 (a0)) 100) (Int.tmod (wrap64 (a1)) 100) ((wrap64 ((wrap64 ((wrap64 (Int.tdiv (Int.tmod (wrap64 (a0)) 100) 10)) * 16)) + (Int.tmod (wrap64 (a0)) 10))) % 256) ((wrap64 ((wrap64 ((wrap64 (Int.tdiv (Int.tmod (wrap64 (a1)) 100) 10)) * 16)) + (Int.tmod (wrap64 (a1)) 10))) % 256) bt125.1 bt125.2 (wrap64 ((wrap64 ((Int.tmod (wrap64 (a0)) 100) + (Int.tmod (wrap64 (a1)) 100))) + 1))) else (charabanclaw05_LogicDecimal.j0 k a2 (Int.tmod (wrap64 (a0)) 100) (Int.tmod (wrap64 (a1)) 100) ((wrap64 ((wrap64 ((wrap64 (Int.tdiv (Int.tmod (wrap64 (a0)) 100) 10)) * 16)) + (Int.tmod (wrap64 (a0)) 10))) % 256) ((wrap64 ((wrap64 ((wrap64 (Int.tdiv (Int.tmod (wrap64 (a1)) 100) 10)) * 16)) + (Int.tmod (wrap64 (a1)) 10))) % 256) bt125.1 bt125.2 (wrap64 ((Int.tmod (wrap64 (a0)) 100) + (Int.tmod (wrap64 (a1)) 100))))))) else (some false))) = some r := h
  clear h
  replace H := Option.bind_eq_some_iff.mp H
  obtain ⟨t122, A40, H⟩ := H
  replace H : (if t122 = true then ((charabancref03_Add.f ((wrap64 ((wrap64 ((wrap64 (Int.tdiv (Int.tmod (wrap64 (a0)) 100) 10)) * 16)) + (Int.tmod (wrap64 (a0)) 10))) % 256) ((wrap64 ((wrap64 ((wrap64 (Int.tdiv (Int.tmod (wrap64 (a1)) 100) 10)) * 16)) + (Int.tmod (wrap64 (a1)) 10))) % 256) a2).bind fun bt123 => ((logic_Daa.f bt123.1 bt123.2).bind fun bt125 => (if a2 = true then (charabanclaw05_LogicDecimal.j0 k a2 (Int.tmod (wrap64 (a0)) 100) (Int.tmod (wrap64 (a1)) 100) ((wrap64 ((wrap64 ((wrap64 (Int.tdiv (Int.tmod (wrap64 (a0)) 100) 10)) * 16)) + (Int.tmod (wrap64 (a0)) 10))) % 256) ((wrap64 ((wrap64 ((wrap64 (Int.tdiv (Int.tmod (wrap64 (a1)) 100) 10)) * 16)) + (Int.tmod (wrap64 (a1)) 10))) % 256) bt125.1 bt125.2 (wrap64 ((wrap64 ((Int.tmod (wrap64 (a0)) 100) + (Int.tmod (wrap64 (a1)) 100))) + 1))) else (charabanclaw05_LogicDecimal.j0 k a2 (Int.tmod (wrap64 (a0)) 100) (Int.tmod (wrap64 (a1)) 100) ((wrap64 ((wrap64 ((wrap64 (Int.tdiv (Int.tmod (wrap64 (a0)) 100) 10)) * 16)) + (Int.tmod (wrap64 (a0)) 10))) % 256) ((wrap64 ((wrap64 ((wrap64 (Int.tdiv (Int.tmod (wrap64 (a1)) 100) 10)) * 16)) + (Int.tmod (wrap64 (a1)) 10))) % 256) bt125.1 bt125.2 (wrap64 ((Int.tmod (wrap64 (a0)) 100) + (Int.tmod (wrap64 (a1)) 100))))))) else (some false)) = some r := H
  have A4 := Aside0.mk A40
  clear A40
  by_cases c5 : t122 = true
  · subst c5
    have H1 : ((charabancref03_Add.f ((wrap64 ((wrap64 ((wrap64 (Int.tdiv (Int.tmod (wrap64 (a0)) 100) 10)) * 16)) + (Int.tmod (wrap64 (a0)) 10))) % 256) ((wrap64 ((wrap64 ((wrap64 (Int.tdiv (Int.tmod (wrap64 (a1)) 100) 10)) * 16)) + (Int.tmod (wrap64 (a1)) 10))) % 256) a2).bind fun bt123 => ((logic_Daa.f bt123.1 bt123.2).bind fun bt125 => (if a2 = true then (charabanclaw05_LogicDecimal.j0 k a2 (Int.tmod (wrap64 (a0)) 100) (Int.tmod (wrap64 (a1)) 100) ((wrap64 ((wrap64 ((wrap64 (Int.tdiv (Int.tmod (wrap64 (a0)) 100) 10)) * 16)) + (Int.tmod (wrap64 (a0)) 10))) % 256) ((wrap64 ((wrap64 ((wrap64 (Int.tdiv (Int.tmod (wrap64 (a1)) 100) 10)) * 16)) + (Int.tmod (wrap64 (a1)) 10))) % 256) bt125.1 bt125.2 (wrap64 ((wrap64 ((Int.tmod (wrap64 (a0)) 100) + (Int.tmod (wrap64 (a1)) 100))) + 1))) else (charabanclaw05_LogicDecimal.j0 k a2 (Int.tmod (wrap64 (a0)) 100) (Int.tmod (wrap64 (a1)) 100) ((wrap64 ((wrap64 ((wrap64 (Int.tdiv (Int.tmod (wrap64 (a0)) 100) 10)) * 16)) + (Int.tmod (wrap64 (a0)) 10))) % 256) ((wrap64 ((wrap64 ((wrap64 (Int.tdiv (Int.tmod (wrap64 (a1)) 100) 10)) * 16)) + (Int.tmod (wrap64 (a1)) 10))) % 256) bt125.1 bt125.2 (wrap64 ((Int.tmod (wrap64 (a0)) 100) + (Int.tmod (wrap64 (a1)) 100))))))) = some r := by rw [if_pos rfl] at H; exact H
    clear H
    have H := H1
    clear H1
    replace H := Option.bind_eq_some_iff.mp H
    obtain ⟨⟨t123, t124⟩, A60, H⟩ := H
    replace H : ((logic_Daa.f t123 t124).bind fun bt125 => (if a2 = true then (charabanclaw05_LogicDecimal.j0 k a2 (Int.tmod (wrap64 (a0)) 100) (Int.tmod (wrap64 (a1)) 100) ((wrap64 ((wrap64 ((wrap64 (Int.tdiv (Int.tmod (wrap64 (a0)) 100) 10)) * 16)) + (Int.tmod (wrap64 (a0)) 10))) % 256) ((wrap64 ((wrap64 ((wrap64 (Int.tdiv (Int.tmod (wrap64 (a1)) 100) 10)) * 16)) + (Int.tmod (wrap64 (a1)) 10))) % 256) bt125.1 bt125.2 (wrap64 ((wrap64 ((Int.tmod (wrap64 (a0)) 100) + (Int.tmod (wrap64 (a1)) 100))) + 1))) else (charabanclaw05_LogicDecimal.j0 k a2 (Int.tmod (wrap64 (a0)) 100) (Int.tmod (wrap64 (a1)) 100) ((wrap64 ((wrap64 ((wrap64 (Int.tdiv (Int.tmod (wrap64 (a0)) 100) 10)) * 16)) + (Int.tmod (wrap64 (a0)) 10))) % 256) ((wrap64 ((wrap64 ((wrap64 (Int.tdiv (Int.tmod (wrap64 (a1)) 100) 10)) * 16)) + (Int.tmod (wrap64 (a1)) 10))) % 256) bt125.1 bt125.2 (wrap64 ((Int.tmod (wrap64 (a0)) 100) + (Int.tmod (wrap64 (a1)) 100)))))) = some r := H
    have A6 := Aside0.mk A60
    clear A60
    replace H := Option.bind_eq_some_iff.mp H
    obtain ⟨⟨t125, t126⟩, A70, H⟩ := H
    replace H : (if a2 = true then (charabanclaw05_LogicDecimal.j0 k a2 (Int.tmod (wrap64 (a0)) 100) (Int.tmod (wrap64 (a1)) 100) ((wrap64 ((wrap64 ((wrap64 (Int.tdiv (Int.tmod (wrap64 (a0)) 100) 10)) * 16)) + (Int.tmod (wrap64 (a0)) 10))) % 256) ((wrap64 ((wrap64 ((wrap64 (Int.tdiv (Int.tmod (wrap64 (a1)) 100) 10)) * 16)) + (Int.tmod (wrap64 (a1)) 10))) % 256) t125 t126 (wrap64 ((wrap64 ((Int.tmod (wrap64 (a0)) 100) + (Int.tmod (wrap64 (a1)) 100))) + 1))) else (charabanclaw05_LogicDecimal.j0 k a2 (Int.tmod (wrap64 (a0)) 100) (Int.tmod (wrap64 (a1)) 100) ((wrap64 ((wrap64 ((wrap64 (Int.tdiv (Int.tmod (wrap64 (a0)) 100) 10)) * 16)) + (Int.tmod (wrap64 (a0)) 10))) % 256) ((wrap64 ((wrap64 ((wrap64 (Int.tdiv (Int.tmod (wrap64 (a1)) 100) 10)) * 16)) + (Int.tmod (wrap64 (a1)) 10))) % 256) t125 t126 (wrap64 ((Int.tmod (wrap64 (a0)) 100) + (Int.tmod (wrap64 (a1)) 100))))) = some r := H
    have A7 := Aside0.mk A70
    clear A70
    have HC8 := Aside0.mk H
    clear H
    go_enter Tryd.func6, Tryd.ntmps6
    go_upto_if 61 with (first | ((with_reducible refine gate_callee (f := 7) rfl ?_); refine goesL_ (some 22) rfl rfl Tryd.func7 (by kernel_rfl) rfl #[] rfl (by (try simp only [List.map_toArray, List.map_cons, List.map_nil]); first | done | rfl | (simp only [List.length_drop, List.length_take]; rfl)) ?_; (with_reducible refine (charabanclaw05_awake.calls  true _ A4.out (HL.later (by repeat (first | (with_reducible first | exact HB.out | apply below_alloc | apply pw_below_drewN | apply below_drew1) | exact HB.out)))).mono ?_); rintro e w9 ⟨rfl, hb⟩; refine ⟨_, rfl, ?_⟩; have n0_ := Aside0.mk (below_step (by repeat (first | (with_reducible first | exact HB.out | apply below_alloc | apply pw_below_drewN | apply below_drew1) | exact HB.out)) hb); clear HB; have HB := n0_; clear n0_; (try clear hb); (try clear hb2); (try clear hk); (try clear hi)) | ((with_reducible refine gate_callee (f := 22) rfl ?_); refine goesL_ (some 49) rfl rfl Tryd.func22 (by kernel_rfl) rfl #[.int .u8 ((wrap64 ((wrap64 ((wrap64 (Int.tdiv (Int.tmod (wrap64 (a0)) 100) 10)) * 16)) + (Int.tmod (wrap64 (a0)) 10))) % 256), .int .u8 ((wrap64 ((wrap64 ((wrap64 (Int.tdiv (Int.tmod (wrap64 (a1)) 100) 10)) * 16)) + (Int.tmod (wrap64 (a1)) 10))) % 256), .bool a2] rfl (by (try simp only [List.map_toArray, List.map_cons, List.map_nil]); first | done | rfl | (simp only [List.length_drop, List.length_take]; rfl)) ?_; (with_reducible refine (charabancref03_Add.calls ((wrap64 ((wrap64 ((wrap64 (Int.tdiv (Int.tmod (wrap64 (a0)) 100) 10)) * 16)) + (Int.tmod (wrap64 (a0)) 10))) % 256) ((wrap64 ((wrap64 ((wrap64 (Int.tdiv (Int.tmod (wrap64 (a1)) 100) 10)) * 16)) + (Int.tmod (wrap64 (a1)) 10))) % 256) a2 t123 t124 _ A6.out).mono ?_); rintro e w10 ⟨rfl, hb⟩; refine ⟨_, rfl, ?_⟩; have n0_ := Aside0.mk (below_step (by repeat (first | (with_reducible first | exact HB.out | apply below_alloc | apply pw_below_drewN | apply below_drew1) | exact HB.out)) hb); clear HB; have HB := n0_; clear n0_; (try clear hb); (try clear hb2); (try clear hk); (try clear hi)) | ((with_reducible refine gate_callee (f := 16) rfl ?_); refine goesL_ (some 55) rfl rfl Tryd.func16 (by kernel_rfl) rfl #[.int .u8 t123, .int .u8 t124] rfl (by (try simp only [List.map_toArray, List.map_cons, List.map_nil]); first | done | rfl | (simp only [List.length_drop, List.length_take]; rfl)) ?_; (with_reducible refine (logic_Daa.calls t123 t124 t125 t126 _ A7.out (HL.later (by repeat (first | (with_reducible first | exact HB.out | apply below_alloc | apply pw_below_drewN | apply below_drew1) | exact HB.out)))).mono ?_); rintro e w11 ⟨rfl, hb⟩; refine ⟨_, rfl, ?_⟩; have n0_ := Aside0.mk (below_step (by repeat (first | (with_reducible first | exact HB.out | apply below_alloc | apply pw_below_drewN | apply below_drew1) | exact HB.out)) hb); clear HB; have HB := n0_; clear n0_; (try clear hb); (try clear hb2); (try clear hk); (try clear hi)))
    (try simp only [Act.put, List.setIfInBounds_toArray, List.set_cons_zero, List.set_cons_succ])
    go_cut [16] (fun v16 wc => ∃ (kq : Nat) (x16_7 : Int), v16 = .int .i64 x16_7 ∧ Aside0 (charabanclaw05_LogicDecimal.j0 kq a2 (Int.tmod (wrap64 (a0)) 100) (Int.tmod (wrap64 (a1)) 100) ((wrap64 ((wrap64 ((wrap64 (Int.tdiv (Int.tmod (wrap64 (a0)) 100) 10)) * 16)) + (Int.tmod (wrap64 (a0)) 10))) % 256) ((wrap64 ((wrap64 ((wrap64 (Int.tdiv (Int.tmod (wrap64 (a1)) 100) 10)) * 16)) + (Int.tmod (wrap64 (a1)) 10))) % 256) t125 t126 x16_7 = some r) ∧ Aside0 (kq ≤ k) ∧ Aside0 (Below w.heap.size w wc))
    case first =>
      have H := HC8.out
      clear HC8
      by_cases c12 : a2 = true
      · subst c12
        have H1 : (charabanclaw05_LogicDecimal.j0 k true (Int.tmod (wrap64 (a0)) 100) (Int.tmod (wrap64 (a1)) 100) ((wrap64 ((wrap64 ((wrap64 (Int.tdiv (Int.tmod (wrap64 (a0)) 100) 10)) * 16)) + (Int.tmod (wrap64 (a0)) 10))) % 256) ((wrap64 ((wrap64 ((wrap64 (Int.tdiv (Int.tmod (wrap64 (a1)) 100) 10)) * 16)) + (Int.tmod (wrap64 (a1)) 10))) % 256) t125 t126 (wrap64 ((wrap64 ((Int.tmod (wrap64 (a0)) 100) + (Int.tmod (wrap64 (a1)) 100))) + 1))) = some r := by rw [if_pos rfl] at H; exact H
        clear H
        have H := H1
        clear H1
        have H' := Aside0.mk H
        clear H
        go_wp2
        go_meet
        case rel => exact ⟨_, (wrap64 ((wrap64 ((Int.tmod (wrap64 (a0)) 100) + (Int.tmod (wrap64 (a1)) 100))) + 1)), (by first | rfl | (simp; done) | (simp [*]; done)), H', ⟨by first | omega | exact Nat.le_refl _⟩, ⟨by repeat (first | (with_reducible first | exact HB.out | apply below_alloc | apply pw_below_drewN | apply below_drew1) | exact HB.out)⟩⟩
      · replace c12 := Bool.eq_false_iff.mpr c12
        subst c12
        have H1 : (charabanclaw05_LogicDecimal.j0 k false (Int.tmod (wrap64 (a0)) 100) (Int.tmod (wrap64 (a1)) 100) ((wrap64 ((wrap64 ((wrap64 (Int.tdiv (Int.tmod (wrap64 (a0)) 100) 10)) * 16)) + (Int.tmod (wrap64 (a0)) 10))) % 256) ((wrap64 ((wrap64 ((wrap64 (Int.tdiv (Int.tmod (wrap64 (a1)) 100) 10)) * 16)) + (Int.tmod (wrap64 (a1)) 10))) % 256) t125 t126 (wrap64 ((Int.tmod (wrap64 (a0)) 100) + (Int.tmod (wrap64 (a1)) 100)))) = some r := by rw [if_neg (show ¬ (false = true) by decide)] at H; exact H
        clear H
        have H := H1
        clear H1
        have H' := Aside0.mk H
        clear H
        go_wp2
        go_meet
        case rel => exact ⟨_, (wrap64 ((Int.tmod (wrap64 (a0)) 100) + (Int.tmod (wrap64 (a1)) 100))), (by first | rfl | (simp; done) | (simp [*]; done)), H', ⟨by first | omega | exact Nat.le_refl _⟩, ⟨by repeat (first | (with_reducible first | exact HB.out | apply below_alloc | apply pw_below_drewN | apply below_drew1) | exact HB.out)⟩⟩
    case rest =>
      clear HC8
      try clear c1
      try clear c2
      try clear p2
      try clear c5
      try clear c6
      try clear p6
      try clear c7
      try clear c12
      obtain ⟨kq, x16_7, rfl, HA, HJ7, HB⟩ := hcut
      cases kq with
      | zero => exact absurd HA.out (by simp [charabanclaw05_LogicDecimal.j0])
      | succ kj7 =>
        have H := HA.out
        clear HA
        simp only [charabanclaw05_LogicDecimal.j0] at H
        have HC13 := Aside0.mk H
        clear H
        go_upto_region 13 with (fail)
        go_cut [82] (fun v82 wc => ∃ (kq : Nat) (x82_12 : Bool), v82 = .bool x82_12 ∧ Aside0 (charabanclaw05_LogicDecimal.j1 kq a2 (Int.tmod (wrap64 (a0)) 100) (Int.tmod (wrap64 (a1)) 100) ((wrap64 ((wrap64 ((wrap64 (Int.tdiv (Int.tmod (wrap64 (a0)) 100) 10)) * 16)) + (Int.tmod (wrap64 (a0)) 10))) % 256) ((wrap64 ((wrap64 ((wrap64 (Int.tdiv (Int.tmod (wrap64 (a1)) 100) 10)) * 16)) + (Int.tmod (wrap64 (a1)) 10))) % 256) x82_12 = some r) ∧ Aside0 (kq ≤ kj7) ∧ Aside0 (Below w.heap.size w wc))
        case first =>
          have H := HC13.out
          clear HC13
          by_cases c14 : (wrap64 ((((Int.tdiv t125 16) % 256) * 10) + (wrap64 (Int.tmod t125 16)))) = (Int.tmod x16_7 100)
          · rw [if_pos c14] at H
            have c14b0 : ((wrap64 ((((Int.tdiv t125 16) % 256) * 10) + (wrap64 (Int.tmod t125 16)))) == (Int.tmod x16_7 100)) = true := beq_iff_eq.mpr c14
            have c14b1 : ((wrap64 ((((Int.tdiv t125 16) % 256) * 10) + (wrap64 (Int.tmod t125 16)))) != (Int.tmod x16_7 100)) = false := bne_eq_false_iff_eq.mpr c14
            clear c14
            (first | rw [c14b0] | (simp only [i64_w, i32_w]; rw [c14b0]) | skip)
            have H' := Aside0.mk H
            clear H
            go_wp2
            go_meet
            case rel => exact ⟨_, ((((Go.bits .and .u8 t126 1) == 1) != (decide (x16_7 > 99)))), (by first | rfl | (simp; done) | (simp [*]; done)), H', ⟨by have := HJ7.out; first | omega | exact Nat.le_refl _⟩, ⟨by repeat (first | (with_reducible first | exact HB.out | apply below_alloc | apply pw_below_drewN | apply below_drew1) | exact HB.out)⟩⟩
          · rw [if_neg c14] at H
            have c14b0 : ((wrap64 ((((Int.tdiv t125 16) % 256) * 10) + (wrap64 (Int.tmod t125 16)))) == (Int.tmod x16_7 100)) = false := beq_eq_false_iff_ne.mpr c14
            have c14b1 : ((wrap64 ((((Int.tdiv t125 16) % 256) * 10) + (wrap64 (Int.tmod t125 16)))) != (Int.tmod x16_7 100)) = true := bne_iff_ne.mpr c14
            (first | rw [c14b0] | (simp only [i64_w, i32_w]; rw [c14b0]) | skip)
            have H' := Aside0.mk H
            clear H
            go_wp2
            go_meet
            case rel => exact ⟨_, (true), (by first | rfl | (simp; done) | (simp [*]; done)), H', ⟨by have := HJ7.out; first | omega | exact Nat.le_refl _⟩, ⟨by repeat (first | (with_reducible first | exact HB.out | apply below_alloc | apply pw_below_drewN | apply below_drew1) | exact HB.out)⟩⟩
        case rest =>
          clear HC13
          try clear c1
          try clear c2
          try clear p2
          try clear c5
          try clear c6
          try clear p6
          try clear c7
          try clear c12
          try clear c14
          try clear c14b0
          try clear c14b1
          try clear p2
          try clear p6
          obtain ⟨kq, x82_12, rfl, HA, HJ12, HB⟩ := hcut
          cases kq with
          | zero => exact absurd HA.out (by simp [charabanclaw05_LogicDecimal.j1])
          | succ kj12 =>
            have H := HA.out
            clear HA
            simp only [charabanclaw05_LogicDecimal.j1] at H
            by_cases c15 : x82_12 = true
            · subst c15
              have H1 : (some false) = some r := by rw [if_pos rfl] at H; exact H
              clear H
              have H := H1
              clear H1
              obtain rfl := Option.some.inj H
              go_wp2
              first | go_ret | go_returns
              exact ⟨by first | rfl | (simp [errW_none, errW_some] <;> rfl) | (simp [*, errW_none, errW_some] <;> rfl), by repeat (first | (with_reducible first | exact HB.out | apply below_alloc | apply pw_below_drewN | apply below_drew1) | exact HB.out)⟩
            · replace c15 := Bool.eq_false_iff.mpr c15
              subst c15
              have H1 : ((charabancref03_Sub.f ((wrap64 ((wrap64 ((wrap64 (Int.tdiv (Int.tmod (wrap64 (a0)) 100) 10)) * 16)) + (Int.tmod (wrap64 (a0)) 10))) % 256) ((wrap64 ((wrap64 ((wrap64 (Int.tdiv (Int.tmod (wrap64 (a1)) 100) 10)) * 16)) + (Int.tmod (wrap64 (a1)) 10))) % 256) a2).bind fun bt127 => ((logic_Daa.f bt127.1 bt127.2).bind fun bt129 => (if a2 = true then (if (wrap64 ((((Int.tdiv bt129.1 16) % 256) * 10) + (wrap64 (Int.tmod bt129.1 16)))) = (Int.tmod (wrap64 ((wrap64 ((wrap64 ((Int.tmod (wrap64 (a0)) 100) - (Int.tmod (wrap64 (a1)) 100))) - 1)) + 100)) 100) then (some (((Go.bits .and .u8 bt129.2 1) == 1) == (decide ((wrap64 ((wrap64 ((Int.tmod (wrap64 (a0)) 100) - (Int.tmod (wrap64 (a1)) 100))) - 1)) < 0)))) else (some false)) else (if (wrap64 ((((Int.tdiv bt129.1 16) % 256) * 10) + (wrap64 (Int.tmod bt129.1 16)))) = (Int.tmod (wrap64 ((wrap64 ((Int.tmod (wrap64 (a0)) 100) - (Int.tmod (wrap64 (a1)) 100))) + 100)) 100) then (some (((Go.bits .and .u8 bt129.2 1) == 1) == (decide ((wrap64 ((Int.tmod (wrap64 (a0)) 100) - (Int.tmod (wrap64 (a1)) 100))) < 0)))) else (some false))))) = some r := by rw [if_neg (show ¬ (false = true) by decide)] at H; exact H
              clear H
              have H := H1
              clear H1
              replace H := Option.bind_eq_some_iff.mp H
              obtain ⟨⟨t127, t128⟩, A160, H⟩ := H
              replace H : ((logic_Daa.f t127 t128).bind fun bt129 => (if a2 = true then (if (wrap64 ((((Int.tdiv bt129.1 16) % 256) * 10) + (wrap64 (Int.tmod bt129.1 16)))) = (Int.tmod (wrap64 ((wrap64 ((wrap64 ((Int.tmod (wrap64 (a0)) 100) - (Int.tmod (wrap64 (a1)) 100))) - 1)) + 100)) 100) then (some (((Go.bits .and .u8 bt129.2 1) == 1) == (decide ((wrap64 ((wrap64 ((Int.tmod (wrap64 (a0)) 100) - (Int.tmod (wrap64 (a1)) 100))) - 1)) < 0)))) else (some false)) else (if (wrap64 ((((Int.tdiv bt129.1 16) % 256) * 10) + (wrap64 (Int.tmod bt129.1 16)))) = (Int.tmod (wrap64 ((wrap64 ((Int.tmod (wrap64 (a0)) 100) - (Int.tmod (wrap64 (a1)) 100))) + 100)) 100) then (some (((Go.bits .and .u8 bt129.2 1) == 1) == (decide ((wrap64 ((Int.tmod (wrap64 (a0)) 100) - (Int.tmod (wrap64 (a1)) 100))) < 0)))) else (some false)))) = some r := H
              have A16 := Aside0.mk A160
              clear A160
              replace H := Option.bind_eq_some_iff.mp H
              obtain ⟨⟨t129, t130⟩, A170, H⟩ := H
              replace H : (if a2 = true then (if (wrap64 ((((Int.tdiv t129 16) % 256) * 10) + (wrap64 (Int.tmod t129 16)))) = (Int.tmod (wrap64 ((wrap64 ((wrap64 ((Int.tmod (wrap64 (a0)) 100) - (Int.tmod (wrap64 (a1)) 100))) - 1)) + 100)) 100) then (some (((Go.bits .and .u8 t130 1) == 1) == (decide ((wrap64 ((wrap64 ((Int.tmod (wrap64 (a0)) 100) - (Int.tmod (wrap64 (a1)) 100))) - 1)) < 0)))) else (some false)) else (if (wrap64 ((((Int.tdiv t129 16) % 256) * 10) + (wrap64 (Int.tmod t129 16)))) = (Int.tmod (wrap64 ((wrap64 ((Int.tmod (wrap64 (a0)) 100) - (Int.tmod (wrap64 (a1)) 100))) + 100)) 100) then (some (((Go.bits .and .u8 t130 1) == 1) == (decide ((wrap64 ((Int.tmod (wrap64 (a0)) 100) - (Int.tmod (wrap64 (a1)) 100))) < 0)))) else (some false))) = some r := H
              have A17 := Aside0.mk A170
              clear A170
              by_cases c18 : a2 = true
              · subst c18
                have H1 : (if (wrap64 ((((Int.tdiv t129 16) % 256) * 10) + (wrap64 (Int.tmod t129 16)))) = (Int.tmod (wrap64 ((wrap64 ((wrap64 ((Int.tmod (wrap64 (a0)) 100) - (Int.tmod (wrap64 (a1)) 100))) - 1)) + 100)) 100) then (some (((Go.bits .and .u8 t130 1) == 1) == (decide ((wrap64 ((wrap64 ((Int.tmod (wrap64 (a0)) 100) - (Int.tmod (wrap64 (a1)) 100))) - 1)) < 0)))) else (some false)) = some r := by rw [if_pos rfl] at H; exact H
                clear H
                have H := H1
                clear H1
                by_cases c19 : (wrap64 ((((Int.tdiv t129 16) % 256) * 10) + (wrap64 (Int.tmod t129 16)))) = (Int.tmod (wrap64 ((wrap64 ((wrap64 ((Int.tmod (wrap64 (a0)) 100) - (Int.tmod (wrap64 (a1)) 100))) - 1)) + 100)) 100)
                · rw [if_pos c19] at H
                  have c19b0 : ((wrap64 ((((Int.tdiv t129 16) % 256) * 10) + (wrap64 (Int.tmod t129 16)))) == (Int.tmod (wrap64 ((wrap64 ((wrap64 ((Int.tmod (wrap64 (a0)) 100) - (Int.tmod (wrap64 (a1)) 100))) - 1)) + 100)) 100)) = true := beq_iff_eq.mpr c19
                  have c19b1 : ((wrap64 ((((Int.tdiv t129 16) % 256) * 10) + (wrap64 (Int.tmod t129 16)))) != (Int.tmod (wrap64 ((wrap64 ((wrap64 ((Int.tmod (wrap64 (a0)) 100) - (Int.tmod (wrap64 (a1)) 100))) - 1)) + 100)) 100)) = false := bne_eq_false_iff_eq.mpr c19
                  clear c19
                  obtain rfl := Option.some.inj H
                  go_wp2_with (first | ((with_reducible refine gate_callee (f := 23) rfl ?_); refine goesL_ (some 87) rfl rfl Tryd.func23 (by kernel_rfl) rfl #[.int .u8 ((wrap64 ((wrap64 ((wrap64 (Int.tdiv (Int.tmod (wrap64 (a0)) 100) 10)) * 16)) + (Int.tmod (wrap64 (a0)) 10))) % 256), .int .u8 ((wrap64 ((wrap64 ((wrap64 (Int.tdiv (Int.tmod (wrap64 (a1)) 100) 10)) * 16)) + (Int.tmod (wrap64 (a1)) 10))) % 256), .bool true] rfl (by (try simp only [List.map_toArray, List.map_cons, List.map_nil]); first | done | rfl | (simp only [List.length_drop, List.length_take]; rfl)) ?_; (with_reducible refine (charabancref03_Sub.calls ((wrap64 ((wrap64 ((wrap64 (Int.tdiv (Int.tmod (wrap64 (a0)) 100) 10)) * 16)) + (Int.tmod (wrap64 (a0)) 10))) % 256) ((wrap64 ((wrap64 ((wrap64 (Int.tdiv (Int.tmod (wrap64 (a1)) 100) 10)) * 16)) + (Int.tmod (wrap64 (a1)) 10))) % 256) true t127 t128 _ A16.out).mono ?_); rintro e w20 ⟨rfl, hb⟩; refine ⟨_, rfl, ?_⟩; have n0_ := Aside0.mk (below_step (by repeat (first | (with_reducible first | exact HB.out | apply below_alloc | apply pw_below_drewN | apply below_drew1) | exact HB.out)) hb); clear HB; have HB := n0_; clear n0_; (try clear hb); (try clear hb2); (try clear hk); (try clear hi)) | ((with_reducible refine gate_callee (f := 16) rfl ?_); refine goesL_ (some 93) rfl rfl Tryd.func16 (by kernel_rfl) rfl #[.int .u8 t127, .int .u8 t128] rfl (by (try simp only [List.map_toArray, List.map_cons, List.map_nil]); first | done | rfl | (simp only [List.length_drop, List.length_take]; rfl)) ?_; (with_reducible refine (logic_Daa.calls t127 t128 t129 t130 _ A17.out (HL.later (by repeat (first | (with_reducible first | exact HB.out | apply below_alloc | apply pw_below_drewN | apply below_drew1) | exact HB.out)))).mono ?_); rintro e w21 ⟨rfl, hb⟩; refine ⟨_, rfl, ?_⟩; have n0_ := Aside0.mk (below_step (by repeat (first | (with_reducible first | exact HB.out | apply below_alloc | apply pw_below_drewN | apply below_drew1) | exact HB.out)) hb); clear HB; have HB := n0_; clear n0_; (try clear hb); (try clear hb2); (try clear hk); (try clear hi)))
                  first | go_ret | go_returns
                  exact ⟨by first | rfl | (simp [errW_none, errW_some] <;> rfl) | (simp [*, errW_none, errW_some] <;> rfl), by repeat (first | (with_reducible first | exact HB.out | apply below_alloc | apply pw_below_drewN | apply below_drew1) | exact HB.out)⟩
                · rw [if_neg c19] at H
                  have c19b0 : ((wrap64 ((((Int.tdiv t129 16) % 256) * 10) + (wrap64 (Int.tmod t129 16)))) == (Int.tmod (wrap64 ((wrap64 ((wrap64 ((Int.tmod (wrap64 (a0)) 100) - (Int.tmod (wrap64 (a1)) 100))) - 1)) + 100)) 100)) = false := beq_eq_false_iff_ne.mpr c19
                  have c19b1 : ((wrap64 ((((Int.tdiv t129 16) % 256) * 10) + (wrap64 (Int.tmod t129 16)))) != (Int.tmod (wrap64 ((wrap64 ((wrap64 ((Int.tmod (wrap64 (a0)) 100) - (Int.tmod (wrap64 (a1)) 100))) - 1)) + 100)) 100)) = true := bne_iff_ne.mpr c19
                  obtain rfl := Option.some.inj H
                  go_wp2_with (first | ((with_reducible refine gate_callee (f := 23) rfl ?_); refine goesL_ (some 87) rfl rfl Tryd.func23 (by kernel_rfl) rfl #[.int .u8 ((wrap64 ((wrap64 ((wrap64 (Int.tdiv (Int.tmod (wrap64 (a0)) 100) 10)) * 16)) + (Int.tmod (wrap64 (a0)) 10))) % 256), .int .u8 ((wrap64 ((wrap64 ((wrap64 (Int.tdiv (Int.tmod (wrap64 (a1)) 100) 10)) * 16)) + (Int.tmod (wrap64 (a1)) 10))) % 256), .bool true] rfl (by (try simp only [List.map_toArray, List.map_cons, List.map_nil]); first | done | rfl | (simp only [List.length_drop, List.length_take]; rfl)) ?_; (with_reducible refine (charabancref03_Sub.calls ((wrap64 ((wrap64 ((wrap64 (Int.tdiv (Int.tmod (wrap64 (a0)) 100) 10)) * 16)) + (Int.tmod (wrap64 (a0)) 10))) % 256) ((wrap64 ((wrap64 ((wrap64 (Int.tdiv (Int.tmod (wrap64 (a1)) 100) 10)) * 16)) + (Int.tmod (wrap64 (a1)) 10))) % 256) true t127 t128 _ A16.out).mono ?_); rintro e w22 ⟨rfl, hb⟩; refine ⟨_, rfl, ?_⟩; have n0_ := Aside0.mk (below_step (by repeat (first | (with_reducible first | exact HB.out | apply below_alloc | apply pw_below_drewN | apply below_drew1) | exact HB.out)) hb); clear HB; have HB := n0_; clear n0_; (try clear hb); (try clear hb2); (try clear hk); (try clear hi)) | ((with_reducible refine gate_callee (f := 16) rfl ?_); refine goesL_ (some 93) rfl rfl Tryd.func16 (by kernel_rfl) rfl #[.int .u8 t127, .int .u8 t128] rfl (by (try simp only [List.map_toArray, List.map_cons, List.map_nil]); first | done | rfl | (simp only [List.length_drop, List.length_take]; rfl)) ?_; (with_reducible refine (logic_Daa.calls t127 t128 t129 t130 _ A17.out (HL.later (by repeat (first | (with_reducible first | exact HB.out | apply below_alloc | apply pw_below_drewN | apply below_drew1) | exact HB.out)))).mono ?_); rintro e w23 ⟨rfl, hb⟩; refine ⟨_, rfl, ?_⟩; have n0_ := Aside0.mk (below_step (by repeat (first | (with_reducible first | exact HB.out | apply below_alloc | apply pw_below_drewN | apply below_drew1) | exact HB.out)) hb); clear HB; have HB := n0_; clear n0_; (try clear hb); (try clear hb2); (try clear hk); (try clear hi)))
                  first | go_ret | go_returns
                  exact ⟨by first | rfl | (simp [errW_none, errW_some] <;> rfl) | (simp [*, errW_none, errW_some] <;> rfl), by repeat (first | (with_reducible first | exact HB.out | apply below_alloc | apply pw_below_drewN | apply below_drew1) | exact HB.out)⟩
              · replace c18 := Bool.eq_false_iff.mpr c18
                subst c18
                have H1 : (if (wrap64 ((((Int.tdiv t129 16) % 256) * 10) + (wrap64 (Int.tmod t129 16)))) = (Int.tmod (wrap64 ((wrap64 ((Int.tmod (wrap64 (a0)) 100) - (Int.tmod (wrap64 (a1)) 100))) + 100)) 100) then (some (((Go.bits .and .u8 t130 1) == 1) == (decide ((wrap64 ((Int.tmod (wrap64 (a0)) 100) - (Int.tmod (wrap64 (a1)) 100))) < 0)))) else (some false)) = some r := by rw [if_neg (show ¬ (false = true) by decide)] at H; exact H
                clear H
                have H := H1
                clear H1
                by_cases c24 : (wrap64 ((((Int.tdiv t129 16) % 256) * 10) + (wrap64 (Int.tmod t129 16)))) = (Int.tmod (wrap64 ((wrap64 ((Int.tmod (wrap64 (a0)) 100) - (Int.tmod (wrap64 (a1)) 100))) + 100)) 100)
                · rw [if_pos c24] at H
                  have c24b0 : ((wrap64 ((((Int.tdiv t129 16) % 256) * 10) + (wrap64 (Int.tmod t129 16)))) == (Int.tmod (wrap64 ((wrap64 ((Int.tmod (wrap64 (a0)) 100) - (Int.tmod (wrap64 (a1)) 100))) + 100)) 100)) = true := beq_iff_eq.mpr c24
                  have c24b1 : ((wrap64 ((((Int.tdiv t129 16) % 256) * 10) + (wrap64 (Int.tmod t129 16)))) != (Int.tmod (wrap64 ((wrap64 ((Int.tmod (wrap64 (a0)) 100) - (Int.tmod (wrap64 (a1)) 100))) + 100)) 100)) = false := bne_eq_false_iff_eq.mpr c24
                  clear c24
                  obtain rfl := Option.some.inj H
                  go_wp2_with (first | ((with_reducible refine gate_callee (f := 23) rfl ?_); refine goesL_ (some 87) rfl rfl Tryd.func23 (by kernel_rfl) rfl #[.int .u8 ((wrap64 ((wrap64 ((wrap64 (Int.tdiv (Int.tmod (wrap64 (a0)) 100) 10)) * 16)) + (Int.tmod (wrap64 (a0)) 10))) % 256), .int .u8 ((wrap64 ((wrap64 ((wrap64 (Int.tdiv (Int.tmod (wrap64 (a1)) 100) 10)) * 16)) + (Int.tmod (wrap64 (a1)) 10))) % 256), .bool false] rfl (by (try simp only [List.map_toArray, List.map_cons, List.map_nil]); first | done | rfl | (simp only [List.length_drop, List.length_take]; rfl)) ?_; (with_reducible refine (charabancref03_Sub.calls ((wrap64 ((wrap64 ((wrap64 (Int.tdiv (Int.tmod (wrap64 (a0)) 100) 10)) * 16)) + (Int.tmod (wrap64 (a0)) 10))) % 256) ((wrap64 ((wrap64 ((wrap64 (Int.tdiv (Int.tmod (wrap64 (a1)) 100) 10)) * 16)) + (Int.tmod (wrap64 (a1)) 10))) % 256) false t127 t128 _ A16.out).mono ?_); rintro e w25 ⟨rfl, hb⟩; refine ⟨_, rfl, ?_⟩; have n0_ := Aside0.mk (below_step (by repeat (first | (with_reducible first | exact HB.out | apply below_alloc | apply pw_below_drewN | apply below_drew1) | exact HB.out)) hb); clear HB; have HB := n0_; clear n0_; (try clear hb); (try clear hb2); (try clear hk); (try clear hi)) | ((with_reducible refine gate_callee (f := 16) rfl ?_); refine goesL_ (some 93) rfl rfl Tryd.func16 (by kernel_rfl) rfl #[.int .u8 t127, .int .u8 t128] rfl (by (try simp only [List.map_toArray, List.map_cons, List.map_nil]); first | done | rfl | (simp only [List.length_drop, List.length_take]; rfl)) ?_; (with_reducible refine (logic_Daa.calls t127 t128 t129 t130 _ A17.out (HL.later (by repeat (first | (with_reducible first | exact HB.out | apply below_alloc | apply pw_below_drewN | apply below_drew1) | exact HB.out)))).mono ?_); rintro e w26 ⟨rfl, hb⟩; refine ⟨_, rfl, ?_⟩; have n0_ := Aside0.mk (below_step (by repeat (first | (with_reducible first | exact HB.out | apply below_alloc | apply pw_below_drewN | apply below_drew1) | exact HB.out)) hb); clear HB; have HB := n0_; clear n0_; (try clear hb); (try clear hb2); (try clear hk); (try clear hi)))
                  first | go_ret | go_returns
                  exact ⟨by first | rfl | (simp [errW_none, errW_some] <;> rfl) | (simp [*, errW_none, errW_some] <;> rfl), by repeat (first | (with_reducible first | exact HB.out | apply below_alloc | apply pw_below_drewN | apply below_drew1) | exact HB.out)⟩
                · rw [if_neg c24] at H
                  have c24b0 : ((wrap64 ((((Int.tdiv t129 16) % 256) * 10) + (wrap64 (Int.tmod t129 16)))) == (Int.tmod (wrap64 ((wrap64 ((Int.tmod (wrap64 (a0)) 100) - (Int.tmod (wrap64 (a1)) 100))) + 100)) 100)) = false := beq_eq_false_iff_ne.mpr c24
                  have c24b1 : ((wrap64 ((((Int.tdiv t129 16) % 256) * 10) + (wrap64 (Int.tmod t129 16)))) != (Int.tmod (wrap64 ((wrap64 ((Int.tmod (wrap64 (a0)) 100) - (Int.tmod (wrap64 (a1)) 100))) + 100)) 100)) = true := bne_iff_ne.mpr c24
                  obtain rfl := Option.some.inj H
                  go_wp2_with (first | ((with_reducible refine gate_callee (f := 23) rfl ?_); refine goesL_ (some 87) rfl rfl Tryd.func23 (by kernel_rfl) rfl #[.int .u8 ((wrap64 ((wrap64 ((wrap64 (Int.tdiv (Int.tmod (wrap64 (a0)) 100) 10)) * 16)) + (Int.tmod (wrap64 (a0)) 10))) % 256), .int .u8 ((wrap64 ((wrap64 ((wrap64 (Int.tdiv (Int.tmod (wrap64 (a1)) 100) 10)) * 16)) + (Int.tmod (wrap64 (a1)) 10))) % 256), .bool false] rfl (by (try simp only [List.map_toArray, List.map_cons, List.map_nil]); first | done | rfl | (simp only [List.length_drop, List.length_take]; rfl)) ?_; (with_reducible refine (charabancref03_Sub.calls ((wrap64 ((wrap64 ((wrap64 (Int.tdiv (Int.tmod (wrap64 (a0)) 100) 10)) * 16)) + (Int.tmod (wrap64 (a0)) 10))) % 256) ((wrap64 ((wrap64 ((wrap64 (Int.tdiv (Int.tmod (wrap64 (a1)) 100) 10)) * 16)) + (Int.tmod (wrap64 (a1)) 10))) % 256) false t127 t128 _ A16.out).mono ?_); rintro e w27 ⟨rfl, hb⟩; refine ⟨_, rfl, ?_⟩; have n0_ := Aside0.mk (below_step (by repeat (first | (with_reducible first | exact HB.out | apply below_alloc | apply pw_below_drewN | apply below_drew1) | exact HB.out)) hb); clear HB; have HB := n0_; clear n0_; (try clear hb); (try clear hb2); (try clear hk); (try clear hi)) | ((with_reducible refine gate_callee (f := 16) rfl ?_); refine goesL_ (some 93) rfl rfl Tryd.func16 (by kernel_rfl) rfl #[.int .u8 t127, .int .u8 t128] rfl (by (try simp only [List.map_toArray, List.map_cons, List.map_nil]); first | done | rfl | (simp only [List.length_drop, List.length_take]; rfl)) ?_; (with_reducible refine (logic_Daa.calls t127 t128 t129 t130 _ A17.out (HL.later (by repeat (first | (with_reducible first | exact HB.out | apply below_alloc | apply pw_below_drewN | apply below_drew1) | exact HB.out)))).mono ?_); rintro e w28 ⟨rfl, hb⟩; refine ⟨_, rfl, ?_⟩; have n0_ := Aside0.mk (below_step (by repeat (first | (with_reducible first | exact HB.out | apply below_alloc | apply pw_below_drewN | apply below_drew1) | exact HB.out)) hb); clear HB; have HB := n0_; clear n0_; (try clear hb); (try clear hb2); (try clear hk); (try clear hi)))
                  first | go_ret | go_returns
                  exact ⟨by first | rfl | (simp [errW_none, errW_some] <;> rfl) | (simp [*, errW_none, errW_some] <;> rfl), by repeat (first | (with_reducible first | exact HB.out | apply below_alloc | apply pw_below_drewN | apply below_drew1) | exact HB.out)⟩
  · replace c5 := Bool.eq_false_iff.mpr c5
    subst c5
    have H1 : (some false) = some r := by rw [if_neg (show ¬ (false = true) by decide)] at H; exact H
    clear H
    have H := H1
    clear H1
    obtain rfl := Option.some.inj H
    go_enter Tryd.func6, Tryd.ntmps6
    go_wp2_with (first | ((with_reducible refine gate_callee (f := 7) rfl ?_); refine goesL_ (some 22) rfl rfl Tryd.func7 (by kernel_rfl) rfl #[] rfl (by (try simp only [List.map_toArray, List.map_cons, List.map_nil]); first | done | rfl | (simp only [List.length_drop, List.length_take]; rfl)) ?_; (with_reducible refine (charabanclaw05_awake.calls  false _ A4.out (HL.later (by repeat (first | (with_reducible first | exact HB.out | apply below_alloc | apply pw_below_drewN | apply below_drew1) | exact HB.out)))).mono ?_); rintro e w29 ⟨rfl, hb⟩; refine ⟨_, rfl, ?_⟩; have n0_ := Aside0.mk (below_step (by repeat (first | (with_reducible first | exact HB.out | apply below_alloc | apply pw_below_drewN | apply below_drew1) | exact HB.out)) hb); clear HB; have HB := n0_; clear n0_; (try clear hb); (try clear hb2); (try clear hk); (try clear hi)))
    first | go_ret | go_returns
    exact ⟨by first | rfl | (simp [errW_none, errW_some] <;> rfl) | (simp [*, errW_none, errW_some] <;> rfl), by repeat (first | (with_reducible first | exact HB.out | apply below_alloc | apply pw_below_drewN | apply below_drew1) | exact HB.out)⟩

/-- THE ONE PURE STATEMENT of charabanclaw05_LogicDecimal: yours. -/
def charabanclaw05_LogicDecimal.Pure : Prop := ∀ (a0 : Int) (a1 : Int) (a2 : Bool), (Lit.int .u8 a0).wf = true → (Lit.int .u8 a1).wf = true → ∃ k, charabanclaw05_LogicDecimal.f k a0 a1 a2 = some true
theorem charabanclaw05_LogicDecimal.walk (P : charabanclaw05_LogicDecimal.Pure) (a0 : Int) (a1 : Int) (a2 : Bool) (w : World) (w0 : (Lit.int .u8 a0).wf = true) (w1 : (Lit.int .u8 a1).wf = true) (HL : Laid w) :
    Calls Tryd.prog 6 #[.int .u8 a0, .int .u8 a1, .bool a2] w fun e w' => e = .returned (.bool true) ∧ Below w.heap.size w w' := by
  obtain ⟨k, h⟩ := P a0 a1 a2 w0 w1
  refine (charabanclaw05_LogicDecimal.calls k a0 a1 a2 true w h HL).mono ?_
  rintro e w' ⟨rfl, hd⟩
  exact ⟨rfl, hd⟩

end Go.Proofs.YtkphidaoodedjaaDoor.PD
