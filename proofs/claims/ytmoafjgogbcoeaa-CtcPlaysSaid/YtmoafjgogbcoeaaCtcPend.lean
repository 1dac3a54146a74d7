/- ctc.Pending by its contract. -/
import Derived.Test.YtmoafjgogbcoeaaCtcRead
namespace Go.Proofs.Ytmoafjgogbcoeaa
open Go.RowKit
set_option linter.unusedVariables false
set_option maxRecDepth 100000
theorem ext44 (c : M.Ct) (k : Nat) (hk : k < 4) : c.a4.extract (8 * k) (8 * k + 8) = (c.at k).a := by
  rcases (show k = 0 ∨ k = 1 ∨ k = 2 ∨ k = 3 by omega) with rfl | rfl | rfl | rfl <;> rfl
theorem index45 (c : M.Ct) (k : Nat) (hk : k < 4) (w : World) : (Instr.index 45 (.agg c.a4) (.int .i64 (k : Int))).run Try.prog w = .ok (.agg (c.at k).a) w := by
  have hu : (underlying 45).run Try.prog w = .ok (.array 4 44) w := run_underlying Try.underlying45 w
  have hs : (sizeOf 44).run Try.prog w = .ok 8 w := by
    have := info44
    cases hq : Try.prog.info? 44 with
    | none => simp [hq] at this
    | some i => simp [hq] at this; simp [sizeOf, typeInfo, hq, this]
  have ha : (isAgg 44).run Try.prog w = .ok true w := by
    have h2 := run_underlying Try.underlying44 w
    simp [isAgg, Sem.run_bind, h2]
  have h0 : (0 : Int) ≤ k ∧ (k : Int) < ((4 : Nat) : Int) := by omega
  simp only [Instr.index, asIntOf, Sem.run_bind, Sem.run_pure, Result.andThen_ok, hu, if_pos h0, part, hs, ha, if_true, Int.toNat_natCast]
  rw [Nat.mul_comm, ext44 c k hk]
set_option maxHeartbeats 2000000 in
theorem cpend_any (c : M.Ct) (w : World) : Calls Try.prog 40 #[.agg c.a] w fun e w' => e = .returned (.int .i64 (M.pendC c)) ∧ Below w.heap.size w w' := by
  have hs := ct_size c
  have hs4 := a4_size c
  obtain ⟨Z, hZs, hZ'⟩ := zero44
  have hZ := Lib.hid hZ'
  clear hZ'
  have hp : M.pendC c = if c.c0.pend then 0 else if c.c1.pend then 1 else if c.c2.pend then 2 else if c.c3.pend then 3 else -1 := rfl
  have x0 : ∀ w, (Instr.index 45 (.agg c.a4) (.int .i64 0)).run Try.prog w = .ok (.agg c.c0.a) w := index45 c 0 (by omega)
  have x1 : ∀ w, (Instr.index 45 (.agg c.a4) (.int .i64 1)).run Try.prog w = .ok (.agg c.c1.a) w := index45 c 1 (by omega)
  have x2 : ∀ w, (Instr.index 45 (.agg c.a4) (.int .i64 2)).run Try.prog w = .ok (.agg c.c2.a) w := index45 c 2 (by omega)
  have x3 : ∀ w, (Instr.index 45 (.agg c.a4) (.int .i64 3)).run Try.prog w = .ok (.agg c.c3.a) w := index45 c 3 (by omega)
  cases h0 : c.c0.pend with
  | true =>
    have hr := Lib.hid (show M.pendC c = 0 by simp [hp, h0])
    clear hp
    go_enter Try.func40, Try.ntmps40
    go_wp2_with (first
      | ((with_reducible refine is_allocT 44 rfl ?_); refine wpList_alloc_row rfl _ rfl Z hZ.out ?_)
      | ((with_reducible refine is_loadT 45 rfl ?_); refine wpList_load_row rfl _ _ rfl _ _ rfl _ Try.underlying45 rfl c.a4 (range_a4 (range_newA _ _ _)) (info45c _) ?_)
      | ((with_reducible refine is_storeT 44 rfl ?_); refine wpList_store_rowT rfl _ _ _ rfl _ _ c.c0.a rfl rfl (there_newB _ _ _ _ (by simp) (by rw [ch_size]; omega)) (info44c _) (ch_one _) ?_; intro W hW hT; have hcl := pend_cell hW; have hbl := hT.below w.heap.size w (by go_size) (by simp; go_size) (by go_grown); have hzl := hbl.size; simp only [h0] at hcl; clear hW hT))
    refine wp_loop_rounds 5 ?_
    rw [rounds_succ]
    go_wp2_with (first
      | ((with_reducible refine is_allocT 44 rfl ?_); refine wpList_alloc_row rfl _ rfl Z hZ.out ?_)
      | ((with_reducible refine is_loadT 45 rfl ?_); refine wpList_load_row rfl _ _ rfl _ _ rfl _ Try.underlying45 rfl c.a4 (range_a4 (range_newA _ _ _)) (info45c _) ?_)
      | ((with_reducible refine is_storeT 44 rfl ?_); refine wpList_store_rowT rfl _ _ _ rfl _ _ c.c0.a rfl rfl (there_newB _ _ _ _ (by simp) (by rw [ch_size]; omega)) (info44c _) (ch_one _) ?_; intro W hW hT; have hcl := pend_cell hW; have hbl := hT.below w.heap.size w (by go_size) (by simp; go_size) (by go_grown); have hzl := hbl.size; simp only [h0] at hcl; clear hW hT))
    go_returns
    exact ⟨ret_int hr.out.symm, hbl⟩
  | false =>
    cases h1 : c.c1.pend with
    | true =>
      have hr := Lib.hid (show M.pendC c = 1 by simp [hp, h0, h1])
      clear hp
      go_enter Try.func40, Try.ntmps40
      go_wp2_with (first
      | ((with_reducible refine is_allocT 44 rfl ?_); refine wpList_alloc_row rfl _ rfl Z hZ.out ?_)
      | ((with_reducible refine is_loadT 45 rfl ?_); refine wpList_load_row rfl _ _ rfl _ _ rfl _ Try.underlying45 rfl c.a4 (range_a4 (range_newA _ _ _)) (info45c _) ?_)
      | ((with_reducible refine is_storeT 44 rfl ?_); refine wpList_store_rowT rfl _ _ _ rfl _ _ c.c0.a rfl rfl (there_newB _ _ _ _ (by simp) (by rw [ch_size]; omega)) (info44c _) (ch_one _) ?_; intro W hW hT; have hcl := pend_cell hW; have hbl := hT.below w.heap.size w (by go_size) (by simp; go_size) (by go_grown); have hzl := hbl.size; simp only [h0] at hcl; clear hW hT))
      refine wp_loop_rounds 5 ?_
      rw [rounds_succ]
      go_wp2_with (first
      | ((with_reducible refine is_allocT 44 rfl ?_); refine wpList_alloc_row rfl _ rfl Z hZ.out ?_)
      | ((with_reducible refine is_loadT 45 rfl ?_); refine wpList_load_row rfl _ _ rfl _ _ rfl _ Try.underlying45 rfl c.a4 (range_a4 (range_newA _ _ _)) (info45c _) ?_)
      | ((with_reducible refine is_storeT 44 rfl ?_); refine wpList_store_rowT rfl _ _ _ rfl _ _ c.c0.a rfl rfl (there_newB _ _ _ _ (by simp) (by rw [ch_size]; omega)) (info44c _) (ch_one _) ?_; intro W hW hT; have hcl := pend_cell hW; have hbl := hT.below w.heap.size w (by go_size) (by simp; go_size) (by go_grown); have hzl := hbl.size; simp only [h0] at hcl; clear hW hT))
      rw [rounds_succ]
      go_wp2_with (first
      | ((with_reducible refine is_allocT 44 rfl ?_); refine wpList_alloc_row rfl _ rfl Z hZ.out ?_)
      | ((with_reducible refine is_loadT 45 rfl ?_); refine wpList_load_row rfl _ _ rfl _ _ rfl _ Try.underlying45 rfl c.a4 (range_a4 (range_newA _ _ _)) (info45c _) ?_)
      | ((with_reducible refine is_storeT 44 rfl ?_); refine wpList_store_rowT rfl _ _ _ rfl _ _ c.c1.a rfl rfl (there_newB _ _ _ _ (by simp) (by rw [ch_size]; omega)) (info44c _) (ch_one _) ?_; intro W hW hT; have hcl := pend_cell hW; have hbl := hT.below w.heap.size w (by go_size) (by simp; go_size) (by go_grown); have hzl := hbl.size; simp only [h1] at hcl; clear hW hT))
      go_returns
      exact ⟨ret_int hr.out.symm, hbl⟩
    | false =>
      cases h2 : c.c2.pend with
      | true =>
        have hr := Lib.hid (show M.pendC c = 2 by simp [hp, h0, h1, h2])
        clear hp
        go_enter Try.func40, Try.ntmps40
        go_wp2_with (first
      | ((with_reducible refine is_allocT 44 rfl ?_); refine wpList_alloc_row rfl _ rfl Z hZ.out ?_)
      | ((with_reducible refine is_loadT 45 rfl ?_); refine wpList_load_row rfl _ _ rfl _ _ rfl _ Try.underlying45 rfl c.a4 (range_a4 (range_newA _ _ _)) (info45c _) ?_)
      | ((with_reducible refine is_storeT 44 rfl ?_); refine wpList_store_rowT rfl _ _ _ rfl _ _ c.c0.a rfl rfl (there_newB _ _ _ _ (by simp) (by rw [ch_size]; omega)) (info44c _) (ch_one _) ?_; intro W hW hT; have hcl := pend_cell hW; have hbl := hT.below w.heap.size w (by go_size) (by simp; go_size) (by go_grown); have hzl := hbl.size; simp only [h0] at hcl; clear hW hT))
        refine wp_loop_rounds 5 ?_
        rw [rounds_succ]
        go_wp2_with (first
      | ((with_reducible refine is_allocT 44 rfl ?_); refine wpList_alloc_row rfl _ rfl Z hZ.out ?_)
      | ((with_reducible refine is_loadT 45 rfl ?_); refine wpList_load_row rfl _ _ rfl _ _ rfl _ Try.underlying45 rfl c.a4 (range_a4 (range_newA _ _ _)) (info45c _) ?_)
      | ((with_reducible refine is_storeT 44 rfl ?_); refine wpList_store_rowT rfl _ _ _ rfl _ _ c.c0.a rfl rfl (there_newB _ _ _ _ (by simp) (by rw [ch_size]; omega)) (info44c _) (ch_one _) ?_; intro W hW hT; have hcl := pend_cell hW; have hbl := hT.below w.heap.size w (by go_size) (by simp; go_size) (by go_grown); have hzl := hbl.size; simp only [h0] at hcl; clear hW hT))
        rw [rounds_succ]
        go_wp2_with (first
      | ((with_reducible refine is_allocT 44 rfl ?_); refine wpList_alloc_row rfl _ rfl Z hZ.out ?_)
      | ((with_reducible refine is_loadT 45 rfl ?_); refine wpList_load_row rfl _ _ rfl _ _ rfl _ Try.underlying45 rfl c.a4 (range_a4 (range_newA _ _ _)) (info45c _) ?_)
      | ((with_reducible refine is_storeT 44 rfl ?_); refine wpList_store_rowT rfl _ _ _ rfl _ _ c.c1.a rfl rfl (there_newB _ _ _ _ (by simp) (by rw [ch_size]; omega)) (info44c _) (ch_one _) ?_; intro W hW hT; have hcl := pend_cell hW; have hbl := hT.below w.heap.size w (by go_size) (by simp; go_size) (by go_grown); have hzl := hbl.size; simp only [h1] at hcl; clear hW hT))
        rw [rounds_succ]
        go_wp2_with (first
      | ((with_reducible refine is_allocT 44 rfl ?_); refine wpList_alloc_row rfl _ rfl Z hZ.out ?_)
      | ((with_reducible refine is_loadT 45 rfl ?_); refine wpList_load_row rfl _ _ rfl _ _ rfl _ Try.underlying45 rfl c.a4 (range_a4 (range_newA _ _ _)) (info45c _) ?_)
      | ((with_reducible refine is_storeT 44 rfl ?_); refine wpList_store_rowT rfl _ _ _ rfl _ _ c.c2.a rfl rfl (there_newB _ _ _ _ (by simp) (by rw [ch_size]; omega)) (info44c _) (ch_one _) ?_; intro W hW hT; have hcl := pend_cell hW; have hbl := hT.below w.heap.size w (by go_size) (by simp; go_size) (by go_grown); have hzl := hbl.size; simp only [h2] at hcl; clear hW hT))
        go_returns
        exact ⟨ret_int hr.out.symm, hbl⟩
      | false =>
        cases h3 : c.c3.pend with
        | true =>
          have hr := Lib.hid (show M.pendC c = 3 by simp [hp, h0, h1, h2, h3])
          clear hp
          go_enter Try.func40, Try.ntmps40
          go_wp2_with (first
      | ((with_reducible refine is_allocT 44 rfl ?_); refine wpList_alloc_row rfl _ rfl Z hZ.out ?_)
      | ((with_reducible refine is_loadT 45 rfl ?_); refine wpList_load_row rfl _ _ rfl _ _ rfl _ Try.underlying45 rfl c.a4 (range_a4 (range_newA _ _ _)) (info45c _) ?_)
      | ((with_reducible refine is_storeT 44 rfl ?_); refine wpList_store_rowT rfl _ _ _ rfl _ _ c.c0.a rfl rfl (there_newB _ _ _ _ (by simp) (by rw [ch_size]; omega)) (info44c _) (ch_one _) ?_; intro W hW hT; have hcl := pend_cell hW; have hbl := hT.below w.heap.size w (by go_size) (by simp; go_size) (by go_grown); have hzl := hbl.size; simp only [h0] at hcl; clear hW hT))
          refine wp_loop_rounds 5 ?_
          rw [rounds_succ]
          go_wp2_with (first
      | ((with_reducible refine is_allocT 44 rfl ?_); refine wpList_alloc_row rfl _ rfl Z hZ.out ?_)
      | ((with_reducible refine is_loadT 45 rfl ?_); refine wpList_load_row rfl _ _ rfl _ _ rfl _ Try.underlying45 rfl c.a4 (range_a4 (range_newA _ _ _)) (info45c _) ?_)
      | ((with_reducible refine is_storeT 44 rfl ?_); refine wpList_store_rowT rfl _ _ _ rfl _ _ c.c0.a rfl rfl (there_newB _ _ _ _ (by simp) (by rw [ch_size]; omega)) (info44c _) (ch_one _) ?_; intro W hW hT; have hcl := pend_cell hW; have hbl := hT.below w.heap.size w (by go_size) (by simp; go_size) (by go_grown); have hzl := hbl.size; simp only [h0] at hcl; clear hW hT))
          rw [rounds_succ]
          go_wp2_with (first
      | ((with_reducible refine is_allocT 44 rfl ?_); refine wpList_alloc_row rfl _ rfl Z hZ.out ?_)
      | ((with_reducible refine is_loadT 45 rfl ?_); refine wpList_load_row rfl _ _ rfl _ _ rfl _ Try.underlying45 rfl c.a4 (range_a4 (range_newA _ _ _)) (info45c _) ?_)
      | ((with_reducible refine is_storeT 44 rfl ?_); refine wpList_store_rowT rfl _ _ _ rfl _ _ c.c1.a rfl rfl (there_newB _ _ _ _ (by simp) (by rw [ch_size]; omega)) (info44c _) (ch_one _) ?_; intro W hW hT; have hcl := pend_cell hW; have hbl := hT.below w.heap.size w (by go_size) (by simp; go_size) (by go_grown); have hzl := hbl.size; simp only [h1] at hcl; clear hW hT))
          rw [rounds_succ]
          go_wp2_with (first
      | ((with_reducible refine is_allocT 44 rfl ?_); refine wpList_alloc_row rfl _ rfl Z hZ.out ?_)
      | ((with_reducible refine is_loadT 45 rfl ?_); refine wpList_load_row rfl _ _ rfl _ _ rfl _ Try.underlying45 rfl c.a4 (range_a4 (range_newA _ _ _)) (info45c _) ?_)
      | ((with_reducible refine is_storeT 44 rfl ?_); refine wpList_store_rowT rfl _ _ _ rfl _ _ c.c2.a rfl rfl (there_newB _ _ _ _ (by simp) (by rw [ch_size]; omega)) (info44c _) (ch_one _) ?_; intro W hW hT; have hcl := pend_cell hW; have hbl := hT.below w.heap.size w (by go_size) (by simp; go_size) (by go_grown); have hzl := hbl.size; simp only [h2] at hcl; clear hW hT))
          rw [rounds_succ]
          go_wp2_with (first
      | ((with_reducible refine is_allocT 44 rfl ?_); refine wpList_alloc_row rfl _ rfl Z hZ.out ?_)
      | ((with_reducible refine is_loadT 45 rfl ?_); refine wpList_load_row rfl _ _ rfl _ _ rfl _ Try.underlying45 rfl c.a4 (range_a4 (range_newA _ _ _)) (info45c _) ?_)
      | ((with_reducible refine is_storeT 44 rfl ?_); refine wpList_store_rowT rfl _ _ _ rfl _ _ c.c3.a rfl rfl (there_newB _ _ _ _ (by simp) (by rw [ch_size]; omega)) (info44c _) (ch_one _) ?_; intro W hW hT; have hcl := pend_cell hW; have hbl := hT.below w.heap.size w (by go_size) (by simp; go_size) (by go_grown); have hzl := hbl.size; simp only [h3] at hcl; clear hW hT))
          go_returns
          exact ⟨ret_int hr.out.symm, hbl⟩
        | false =>
          have hr := Lib.hid (show M.pendC c = -1 by simp [hp, h0, h1, h2, h3])
          clear hp
          go_enter Try.func40, Try.ntmps40
          go_wp2_with (first
      | ((with_reducible refine is_allocT 44 rfl ?_); refine wpList_alloc_row rfl _ rfl Z hZ.out ?_)
      | ((with_reducible refine is_loadT 45 rfl ?_); refine wpList_load_row rfl _ _ rfl _ _ rfl _ Try.underlying45 rfl c.a4 (range_a4 (range_newA _ _ _)) (info45c _) ?_)
      | ((with_reducible refine is_storeT 44 rfl ?_); refine wpList_store_rowT rfl _ _ _ rfl _ _ c.c0.a rfl rfl (there_newB _ _ _ _ (by simp) (by rw [ch_size]; omega)) (info44c _) (ch_one _) ?_; intro W hW hT; have hcl := pend_cell hW; have hbl := hT.below w.heap.size w (by go_size) (by simp; go_size) (by go_grown); have hzl := hbl.size; simp only [h0] at hcl; clear hW hT))
          refine wp_loop_rounds 5 ?_
          rw [rounds_succ]
          go_wp2_with (first
      | ((with_reducible refine is_allocT 44 rfl ?_); refine wpList_alloc_row rfl _ rfl Z hZ.out ?_)
      | ((with_reducible refine is_loadT 45 rfl ?_); refine wpList_load_row rfl _ _ rfl _ _ rfl _ Try.underlying45 rfl c.a4 (range_a4 (range_newA _ _ _)) (info45c _) ?_)
      | ((with_reducible refine is_storeT 44 rfl ?_); refine wpList_store_rowT rfl _ _ _ rfl _ _ c.c0.a rfl rfl (there_newB _ _ _ _ (by simp) (by rw [ch_size]; omega)) (info44c _) (ch_one _) ?_; intro W hW hT; have hcl := pend_cell hW; have hbl := hT.below w.heap.size w (by go_size) (by simp; go_size) (by go_grown); have hzl := hbl.size; simp only [h0] at hcl; clear hW hT))
          rw [rounds_succ]
          go_wp2_with (first
      | ((with_reducible refine is_allocT 44 rfl ?_); refine wpList_alloc_row rfl _ rfl Z hZ.out ?_)
      | ((with_reducible refine is_loadT 45 rfl ?_); refine wpList_load_row rfl _ _ rfl _ _ rfl _ Try.underlying45 rfl c.a4 (range_a4 (range_newA _ _ _)) (info45c _) ?_)
      | ((with_reducible refine is_storeT 44 rfl ?_); refine wpList_store_rowT rfl _ _ _ rfl _ _ c.c1.a rfl rfl (there_newB _ _ _ _ (by simp) (by rw [ch_size]; omega)) (info44c _) (ch_one _) ?_; intro W hW hT; have hcl := pend_cell hW; have hbl := hT.below w.heap.size w (by go_size) (by simp; go_size) (by go_grown); have hzl := hbl.size; simp only [h1] at hcl; clear hW hT))
          rw [rounds_succ]
          go_wp2_with (first
      | ((with_reducible refine is_allocT 44 rfl ?_); refine wpList_alloc_row rfl _ rfl Z hZ.out ?_)
      | ((with_reducible refine is_loadT 45 rfl ?_); refine wpList_load_row rfl _ _ rfl _ _ rfl _ Try.underlying45 rfl c.a4 (range_a4 (range_newA _ _ _)) (info45c _) ?_)
      | ((with_reducible refine is_storeT 44 rfl ?_); refine wpList_store_rowT rfl _ _ _ rfl _ _ c.c2.a rfl rfl (there_newB _ _ _ _ (by simp) (by rw [ch_size]; omega)) (info44c _) (ch_one _) ?_; intro W hW hT; have hcl := pend_cell hW; have hbl := hT.below w.heap.size w (by go_size) (by simp; go_size) (by go_grown); have hzl := hbl.size; simp only [h2] at hcl; clear hW hT))
          rw [rounds_succ]
          go_wp2_with (first
      | ((with_reducible refine is_allocT 44 rfl ?_); refine wpList_alloc_row rfl _ rfl Z hZ.out ?_)
      | ((with_reducible refine is_loadT 45 rfl ?_); refine wpList_load_row rfl _ _ rfl _ _ rfl _ Try.underlying45 rfl c.a4 (range_a4 (range_newA _ _ _)) (info45c _) ?_)
      | ((with_reducible refine is_storeT 44 rfl ?_); refine wpList_store_rowT rfl _ _ _ rfl _ _ c.c3.a rfl rfl (there_newB _ _ _ _ (by simp) (by rw [ch_size]; omega)) (info44c _) (ch_one _) ?_; intro W hW hT; have hcl := pend_cell hW; have hbl := hT.below w.heap.size w (by go_size) (by simp; go_size) (by go_grown); have hzl := hbl.size; simp only [h3] at hcl; clear hW hT))
          rw [rounds_succ]
          go_wp2_with fail
          go_returns
          exact ⟨ret_int hr.out.symm, hbl⟩
end Go.Proofs.Ytmoafjgogbcoeaa
