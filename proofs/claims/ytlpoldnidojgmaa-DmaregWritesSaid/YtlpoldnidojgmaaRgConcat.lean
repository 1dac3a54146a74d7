/- slices.Grow from nothing, slices.Concat of two, by their contracts. -/
import Derived.Test.YtlpoldnidojgmaaRgWanted
import Derived.Lib.AppendZeros
namespace Go.Proofs.Ytlpoldnidojgmaa
open Go.RowKit
set_option linter.unusedVariables false
set_option linter.unusedSimpArgs false
set_option maxRecDepth 100000
set_option maxHeartbeats 4000000 in
theorem grow_any (n : Nat) (hn : n ≤ 30000) (w : World) : Calls Try.prog 86 #[.slice none 0 0, .int .i64 n] w fun e w' => ∃ v E, e = .returned v ∧ Own v [] E ∧ St w.heap.size 0 0 w E w' := by
  obtain ⟨i0, hi0, hz0, hz1, hz2⟩ := info_get infoInt
  have hS := St.start w.heap.size 0 0 w
  by_cases h0 : n = 0
  · subst h0
    go_enter Try.func86, Try.ntmps86
    go_wp2_with fail
    go_returns
    exact ⟨_, _, rfl, Own.none, hS⟩
  · have hn0 : (0 : Int) < (n : Int) := by omega
    have hr := fun (W : World) (ty : TypeId) => Lib.run_append_nil_zeros (P := Try.prog) (ty := ty) W 57 3 3 i0 (.int .i64 0) .i64 .i64 Try.underlying57 Try.underlying3 hi0 hz0 n (by omega) (by omega) (by omega) (by rw [hz2]; omega)
    have HR := Lib.hid hr
    clear hr
    go_enter Try.func86, Try.ntmps86
    go_wp2_with ((with_reducible refine to_app ?_); refine Wl.mk (Lib.wpList_append_run _ rfl _ _ _ _ rfl _ _ rfl rfl _ _ (HR.out _ _) ?_); have hge := grownCap_ge w n 0 3; have hle := grownCap_le_maxLen w n 0 3 (by simp only [maxLen]; omega); replace hS := hS.drew.new (Builtin.zeroCells (Value.int .i64 0).cells n ++ Builtin.zeroCells (Value.int .i64 0).cells (grownCap w n 0 3 - n)) 3; have hsz : (Builtin.zeroCells (Value.int .i64 0).cells n ++ Builtin.zeroCells (Value.int .i64 0).cells (grownCap w n 0 3 - n)).size = grownCap w n 0 3 := (by rw [Array.size_append, size_zeroCells, size_zeroCells]; simp [Value.cells]; omega); generalize Builtin.zeroCells (Value.int .i64 0).cells n ++ Builtin.zeroCells (Value.int .i64 0).cells (grownCap w n 0 3 - n) = Z at hS hsz ⊢; generalize grownCap w n 0 3 = G at hS hsz hge hle ⊢; have hG : (0 : Int) ≤ (G : Int) := (by omega); simp only [Act.put, List.setIfInBounds_toArray, List.set_cons_zero, List.set_cons_succ])
    go_returns
    exact ⟨_, _, rfl, .inr ⟨_, G, Z, rfl, Nat.zero_le _, hle, hsz, rfl, rfl⟩, hS⟩
set_option maxHeartbeats 8000000 in
theorem concat_any (A1 : Option Addr) (c1 : Nat) (L1 : List Int) (A2 : Option Addr) (c2 : Nat) (L2 : List Int) (h1 : L1.length ≤ 10000) (h2 : L2.length ≤ 10000) (d : Nat) (w : World) (k1 : w.cell? ⟨d, 0, none⟩ = some (.slice A1 L1.length c1)) (k2 : w.cell? ⟨d, 1, none⟩ = some (.slice A2 L2.length c2))
    (r1 : Ls 0 w (.slice A1 L1.length c1) (ints .i64 L1)) (r2 : Ls 0 w (.slice A2 L2.length c2) (ints .i64 L2)) :
    Calls Try.prog 78 #[.slice (some ⟨d, 0, none⟩) 2 2] w fun e w' => ∃ v E, e = .returned v ∧ Own v (ints .i64 (L1 ++ L2)) E ∧ St w.heap.size 0 0 w E w' := by
  obtain ⟨i0, hi0, hz0, hz1, hz2⟩ := info_get infoInt
  have hd : d < w.heap.size := World.block_lt_of_cell? w _ k1
  have hk1 : ∀ W, Below w.heap.size w W → W.cell? ⟨d, 0, none⟩ = some (.slice A1 L1.length c1) := fun W hW => (hW.cell (p := ⟨d, 0, none⟩) hd).trans k1
  have hk2 : ∀ W, Below w.heap.size w W → W.cell? ⟨d, 1, none⟩ = some (.slice A2 L2.length c2) := fun W hW => (hW.cell (p := ⟨d, 1, none⟩) hd).trans k2
  have HK1 := Lib.hid hk1
  have HK2 := Lib.hid hk2
  have R1 := Lib.hid r1
  have R2 := Lib.hid r2
  have hS := St.start w.heap.size 0 0 w
  have g1 : (ints .i64 L1).length = L1.length := ints_length _ _
  have g2 : (ints .i64 L2).length = L2.length := ints_length _ _
  have G1 := Lib.hid g1
  have G2 := Lib.hid g2
  clear k1 k2 hk1 hk2 r1 r2 g1 g2
  go_enter Try.func78, Try.ntmps78
  go_wp2_with fail
  go_loopw [3, 11] (fun s i wr => ∃ j : Nat, i = .int .i64 j ∧ j ≤ 2 ∧ s = .int .i64 ((if 0 < j then (L1.length : Int) else 0) + (if 1 < j then (L2.length : Int) else 0)) ∧ wr = w) (fun _ i _ => 2 - (intOf i).toNat)
  case atStart => exact ⟨0, rfl, Nat.zero_le _, rfl, rfl⟩
  case round =>
    obtain ⟨j, rfl, hj, rfl, rfl⟩ := hrel
    rcases (show j = 0 ∨ j = 1 ∨ j = 2 by omega) with rfl | rfl | rfl
    · have v1 := HK1.out wr (Below.refl _ _)
      simp only [Nat.lt_irrefl, if_false, Nat.zero_lt_one, Nat.not_lt_zero]
      go_wp2_with fail
      go_round
      case rel => exact ⟨1, rfl, by omega, by simp, by simp⟩
      case measure => simp [intOf]
    · have v2 := HK2.out wr (Below.refl _ _)
      simp only [Nat.lt_irrefl, if_false, Nat.zero_lt_one, if_true]
      go_wp2_with fail
      go_round
      case rel => exact ⟨2, rfl, by omega, by simp, by simp⟩
      case measure => simp [intOf]
    · simp only [show (0 : Nat) < 2 by omega, show (1 : Nat) < 2 by omega, if_true]
      obtain ⟨S, hSS⟩ : ∃ S : Nat, S = L1.length + L2.length := ⟨_, rfl⟩
      have en : ((L1.length : Nat) : Int) + ((L2.length : Nat) : Int) = (S : Int) := by omega
      have hS3 : S ≤ 30000 := by omega
      have hS4 : ¬ ((S : Int) < 0) := by omega
      rw [en]
      clear en hSS
      go_wp2_with fail
      refine (grow_any S hS3 _).mono ?_
      rintro e w1 ⟨v, E, rfl, hO, hE⟩
      clear hS
      go_wp2_with fail
      have HS0 := Lib.hid hE
      have HO0 := Lib.hid hO
      clear hE hO
      go_loopw [6, 27] (fun s i wr2 => ∃ (j : Nat) (E : List Ent), i = .int .i64 j ∧ j ≤ 2 ∧ Own s (ints .i64 ((if 0 < j then L1 else []) ++ (if 1 < j then L2 else []))) E ∧ St wr.heap.size 0 0 wr E wr2) (fun _ i _ => 2 - (intOf i).toNat)
      case atStart => exact ⟨0, _, rfl, Nat.zero_le _, HO0.out, HS0.out⟩
      case round =>
        clear HS0 HO0
        obtain ⟨j, E, rfl, hj, hO, hS⟩ := hrel
        rcases (show j = 0 ∨ j = 1 ∨ j = 2 by omega) with rfl | rfl | rfl
        · have v1 := HK1.out _ hS.below
          have hsrc := (R1.out.below hS.below).src (P := Try.prog) (tx := 57) Try.underlying57 (ints_one _ _)
          simp only [Nat.lt_irrefl, if_false, Nat.zero_lt_one, Nat.not_lt_zero, List.append_nil] at hO
          go_wp2_with ((with_reducible refine to_app ?_); refine Wl_app (es := []) hS hO 3 i0 (.int .i64 0) 8 Try.underlying57 hi0 hz0 hz1 hz2 rfl rfl _ _ hsrc (by simp [ints, maxLen]; omega) (by simp [ints]; omega) ?_; clear hS hO hsrc; intro v2 E2 wW hO hS; simp only [Act.put, List.setIfInBounds_toArray, List.set_cons_zero, List.set_cons_succ])
          go_round
          case rel => exact ⟨1, E2, rfl, by omega, by simpa [ints] using hO, hS⟩
          case measure => simp [intOf]
        · have v2 := HK2.out _ hS.below
          have hsrc := (R2.out.below hS.below).src (P := Try.prog) (tx := 57) Try.underlying57 (ints_one _ _)
          simp only [Nat.lt_irrefl, if_false, Nat.zero_lt_one, if_true, List.append_nil] at hO
          go_wp2_with ((with_reducible refine to_app ?_); refine Wl_app (es := []) hS hO 3 i0 (.int .i64 0) 8 Try.underlying57 hi0 hz0 hz1 hz2 rfl rfl _ _ hsrc (by simp [ints, maxLen]; omega) (by simp [ints]; omega) ?_; clear hS hO hsrc; intro v3 E2 wW hO hS; simp only [Act.put, List.setIfInBounds_toArray, List.set_cons_zero, List.set_cons_succ])
          go_round
          case rel => exact ⟨2, E2, rfl, by omega, by simpa [ints] using hO, hS⟩
          case measure => simp [intOf]
        · simp only [show (0 : Nat) < 2 by omega, show (1 : Nat) < 2 by omega, if_true] at hO
          go_wp2_with fail
          go_returns
          exact ⟨_, E, rfl, hO, hS⟩
end Go.Proofs.Ytlpoldnidojgmaa
