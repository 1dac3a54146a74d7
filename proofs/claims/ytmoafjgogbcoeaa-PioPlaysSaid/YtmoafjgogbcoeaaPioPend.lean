/- pio.Pending, charabancref24.Pending, pio.New, charabancref24.New, each by its contract. -/
import Derived.Test.YtmoafjgogbcoeaaPioBox
namespace Go.Proofs.Ytmoafjgogbcoeaa
open Go.RowKit
set_option linter.unusedVariables false
set_option maxRecDepth 100000

theorem info86c (p : M.Pi2) : (Try.prog.info? 86).map (·.size) = some p.a.size := by rw [pi_size]; kernel_rfl
theorem info83c (x : M.Po) : (Try.prog.info? 83).map (·.size) = some x.a.size := by rw [po_size]; kernel_rfl
theorem info78c (p : M.Pi2) : (Try.prog.info? 78).map (·.size) = some p.a.size := by rw [pi_size]; kernel_rfl
theorem info77 : (Try.prog.info? 77).map (·.size) = some 11 := by kernel_rfl
theorem info83 : (Try.prog.info? 83).map (·.size) = some 11 := by kernel_rfl
theorem zero86 : ∃ Z : Array Value, Z.size = 22 ∧ ∀ w : World, (zeroValue 86).run Try.prog w = .ok (.agg Z) w := ⟨_, by rfl, fun w => Try.zeroValue86 w⟩
theorem zero83 : ∃ Z : Array Value, Z.size = 11 ∧ ∀ w : World, (zeroValue 83).run Try.prog w = .ok (.agg Z) w := ⟨_, by rfl, fun w => Try.zeroValue83 w⟩
theorem ppend_cell {W : World} {B : Nat} {x : M.Po} (h : W.rangeAt B 0 x.a.toList) : W.cell? ⟨B, 10, none⟩ = some (.bool x.pend) := h 10 _ rfl
theorem ext77 (p : M.Pi2) (k : Nat) (hk : k < 2) : p.a.extract (11 * k) (11 * k + 11) = (p.at k).a := by
  rcases (show k = 0 ∨ k = 1 by omega) with rfl | rfl <;> rfl
theorem index78 (p : M.Pi2) (k : Nat) (hk : k < 2) (w : World) : (Instr.index 78 (.agg p.a) (.int .i64 (k : Int))).run Try.prog w = .ok (.agg (p.at k).a) w := by
  have hu : (underlying 78).run Try.prog w = .ok (.array 2 77) w := run_underlying Try.underlying78 w
  have hs : (sizeOf 77).run Try.prog w = .ok 11 w := by
    have := info77
    cases hq : Try.prog.info? 77 with
    | none => simp [hq] at this
    | some i => simp [hq] at this; simp [sizeOf, typeInfo, hq, this]
  have ha : (isAgg 77).run Try.prog w = .ok true w := by
    have h2 := run_underlying Try.underlying77 w
    simp [isAgg, Sem.run_bind, h2]
  have h0 : (0 : Int) ≤ k ∧ (k : Int) < ((2 : Nat) : Int) := by omega
  simp only [Instr.index, asIntOf, Sem.run_bind, Sem.run_pure, Result.andThen_ok, hu, if_pos h0, part, hs, ha, if_true, Int.toNat_natCast]
  rw [Nat.mul_comm, ext77 p k hk]
set_option maxHeartbeats 2000000 in
theorem ppend_any (p : M.Pi2) (w : World) : Calls Try.prog 57 #[.agg p.a] w fun e w' => e = .returned (.int .i64 (M.pPend p)) ∧ Below w.heap.size w w' := by
  have hs := pi_size p
  obtain ⟨Z, hZs, hZ'⟩ := zero77
  have hZ := Lib.hid hZ'
  clear hZ'
  have hp : M.pPend p = if p.p0.pend then 0 else if p.p1.pend then 1 else -1 := rfl
  have x0 : ∀ w, (Instr.index 78 (.agg p.a) (.int .i64 0)).run Try.prog w = .ok (.agg p.p0.a) w := index78 p 0 (by omega)
  have x1 : ∀ w, (Instr.index 78 (.agg p.a) (.int .i64 1)).run Try.prog w = .ok (.agg p.p1.a) w := index78 p 1 (by omega)
  cases h0 : p.p0.pend with
  | true =>
    have hr := Lib.hid (show M.pPend p = 0 by simp [hp, h0])
    clear hp
    go_enter Try.func57, Try.ntmps57
    go_wp2_with (first
      | ((with_reducible refine is_allocT 77 rfl ?_); refine wpList_alloc_row rfl _ rfl Z hZ.out ?_)
      | ((with_reducible refine is_loadT 78 rfl ?_); refine wpList_load_row rfl _ _ rfl _ _ rfl _ Try.underlying78 rfl p.a (range_newA _ _ _) (info78c _) ?_)
      | ((with_reducible refine is_storeT 77 rfl ?_); refine wpList_store_rowT rfl _ _ _ rfl _ _ p.p0.a rfl rfl (there_newB _ _ _ _ (by simp) (by rw [po_size]; omega)) (info77c _) (po_one _) ?_; intro W hW hT; have hcl := ppend_cell hW; have hbl := hT.below w.heap.size w (by go_size) (by simp; go_size) (by go_grown); have hzl := hbl.size; simp only [h0] at hcl; clear hW hT))
    refine wp_loop_rounds 3 ?_
    rw [rounds_succ]
    go_wp2_with (first
      | ((with_reducible refine is_allocT 77 rfl ?_); refine wpList_alloc_row rfl _ rfl Z hZ.out ?_)
      | ((with_reducible refine is_loadT 78 rfl ?_); refine wpList_load_row rfl _ _ rfl _ _ rfl _ Try.underlying78 rfl p.a (range_newA _ _ _) (info78c _) ?_)
      | ((with_reducible refine is_storeT 77 rfl ?_); refine wpList_store_rowT rfl _ _ _ rfl _ _ p.p0.a rfl rfl (there_newB _ _ _ _ (by simp) (by rw [po_size]; omega)) (info77c _) (po_one _) ?_; intro W hW hT; have hcl := ppend_cell hW; have hbl := hT.below w.heap.size w (by go_size) (by simp; go_size) (by go_grown); have hzl := hbl.size; simp only [h0] at hcl; clear hW hT))
    go_returns
    exact ⟨ret_int hr.out.symm, hbl⟩
  | false =>
    cases h1 : p.p1.pend with
    | true =>
      have hr := Lib.hid (show M.pPend p = 1 by simp [hp, h0, h1])
      clear hp
      go_enter Try.func57, Try.ntmps57
      go_wp2_with (first
      | ((with_reducible refine is_allocT 77 rfl ?_); refine wpList_alloc_row rfl _ rfl Z hZ.out ?_)
      | ((with_reducible refine is_loadT 78 rfl ?_); refine wpList_load_row rfl _ _ rfl _ _ rfl _ Try.underlying78 rfl p.a (range_newA _ _ _) (info78c _) ?_)
      | ((with_reducible refine is_storeT 77 rfl ?_); refine wpList_store_rowT rfl _ _ _ rfl _ _ p.p0.a rfl rfl (there_newB _ _ _ _ (by simp) (by rw [po_size]; omega)) (info77c _) (po_one _) ?_; intro W hW hT; have hcl := ppend_cell hW; have hbl := hT.below w.heap.size w (by go_size) (by simp; go_size) (by go_grown); have hzl := hbl.size; simp only [h0] at hcl; clear hW hT))
      refine wp_loop_rounds 3 ?_
      rw [rounds_succ]
      go_wp2_with (first
      | ((with_reducible refine is_allocT 77 rfl ?_); refine wpList_alloc_row rfl _ rfl Z hZ.out ?_)
      | ((with_reducible refine is_loadT 78 rfl ?_); refine wpList_load_row rfl _ _ rfl _ _ rfl _ Try.underlying78 rfl p.a (range_newA _ _ _) (info78c _) ?_)
      | ((with_reducible refine is_storeT 77 rfl ?_); refine wpList_store_rowT rfl _ _ _ rfl _ _ p.p0.a rfl rfl (there_newB _ _ _ _ (by simp) (by rw [po_size]; omega)) (info77c _) (po_one _) ?_; intro W hW hT; have hcl := ppend_cell hW; have hbl := hT.below w.heap.size w (by go_size) (by simp; go_size) (by go_grown); have hzl := hbl.size; simp only [h0] at hcl; clear hW hT))
      rw [rounds_succ]
      go_wp2_with (first
      | ((with_reducible refine is_allocT 77 rfl ?_); refine wpList_alloc_row rfl _ rfl Z hZ.out ?_)
      | ((with_reducible refine is_loadT 78 rfl ?_); refine wpList_load_row rfl _ _ rfl _ _ rfl _ Try.underlying78 rfl p.a (range_newA _ _ _) (info78c _) ?_)
      | ((with_reducible refine is_storeT 77 rfl ?_); refine wpList_store_rowT rfl _ _ _ rfl _ _ p.p1.a rfl rfl (there_newB _ _ _ _ (by simp) (by rw [po_size]; omega)) (info77c _) (po_one _) ?_; intro W hW hT; have hcl := ppend_cell hW; have hbl := hT.below w.heap.size w (by go_size) (by simp; go_size) (by go_grown); have hzl := hbl.size; simp only [h1] at hcl; clear hW hT))
      go_returns
      exact ⟨ret_int hr.out.symm, hbl⟩
    | false =>
      have hr := Lib.hid (show M.pPend p = -1 by simp [hp, h0, h1])
      clear hp
      go_enter Try.func57, Try.ntmps57
      go_wp2_with (first
      | ((with_reducible refine is_allocT 77 rfl ?_); refine wpList_alloc_row rfl _ rfl Z hZ.out ?_)
      | ((with_reducible refine is_loadT 78 rfl ?_); refine wpList_load_row rfl _ _ rfl _ _ rfl _ Try.underlying78 rfl p.a (range_newA _ _ _) (info78c _) ?_)
      | ((with_reducible refine is_storeT 77 rfl ?_); refine wpList_store_rowT rfl _ _ _ rfl _ _ p.p0.a rfl rfl (there_newB _ _ _ _ (by simp) (by rw [po_size]; omega)) (info77c _) (po_one _) ?_; intro W hW hT; have hcl := ppend_cell hW; have hbl := hT.below w.heap.size w (by go_size) (by simp; go_size) (by go_grown); have hzl := hbl.size; simp only [h0] at hcl; clear hW hT))
      refine wp_loop_rounds 3 ?_
      rw [rounds_succ]
      go_wp2_with (first
      | ((with_reducible refine is_allocT 77 rfl ?_); refine wpList_alloc_row rfl _ rfl Z hZ.out ?_)
      | ((with_reducible refine is_loadT 78 rfl ?_); refine wpList_load_row rfl _ _ rfl _ _ rfl _ Try.underlying78 rfl p.a (range_newA _ _ _) (info78c _) ?_)
      | ((with_reducible refine is_storeT 77 rfl ?_); refine wpList_store_rowT rfl _ _ _ rfl _ _ p.p0.a rfl rfl (there_newB _ _ _ _ (by simp) (by rw [po_size]; omega)) (info77c _) (po_one _) ?_; intro W hW hT; have hcl := ppend_cell hW; have hbl := hT.below w.heap.size w (by go_size) (by simp; go_size) (by go_grown); have hzl := hbl.size; simp only [h0] at hcl; clear hW hT))
      rw [rounds_succ]
      go_wp2_with (first
      | ((with_reducible refine is_allocT 77 rfl ?_); refine wpList_alloc_row rfl _ rfl Z hZ.out ?_)
      | ((with_reducible refine is_loadT 78 rfl ?_); refine wpList_load_row rfl _ _ rfl _ _ rfl _ Try.underlying78 rfl p.a (range_newA _ _ _) (info78c _) ?_)
      | ((with_reducible refine is_storeT 77 rfl ?_); refine wpList_store_rowT rfl _ _ _ rfl _ _ p.p1.a rfl rfl (there_newB _ _ _ _ (by simp) (by rw [po_size]; omega)) (info77c _) (po_one _) ?_; intro W hW hT; have hcl := ppend_cell hW; have hbl := hT.below w.heap.size w (by go_size) (by simp; go_size) (by go_grown); have hzl := hbl.size; simp only [h1] at hcl; clear hW hT))
      rw [rounds_succ]
      go_wp2_with fail
      go_returns
      exact ⟨ret_int hr.out.symm, hbl⟩
theorem rppend_any (p : M.Pi2) (w : World) : Calls Try.prog 58 #[.agg p.a] w fun e w' => e = .returned (.int .i64 (M.pPend p)) ∧ Below w.heap.size w w' := by
  have hs := pi_size p
  have g0 : p.a[10]'(by rw [hs]; decide) = .bool p.p0.pend := rfl
  have g1 : p.a[21]'(by rw [hs]; decide) = .bool p.p1.pend := rfl
  have hp : M.pPend p = if p.p0.pend then 0 else if p.p1.pend then 1 else -1 := rfl
  cases h0 : p.p0.pend <;> cases h1 : p.p1.pend
  all_goals
    rw [h0] at g0
    rw [h1] at g1
    simp only [h0, h1] at hp
    have hr := Lib.hid hp
    clear hp h0 h1
    go_enter Try.func58, Try.ntmps58
    go_wp2_with fail
    go_returns
    exact ⟨ret_int hr.out.symm, by go_grown⟩
end Go.Proofs.Ytmoafjgogbcoeaa
