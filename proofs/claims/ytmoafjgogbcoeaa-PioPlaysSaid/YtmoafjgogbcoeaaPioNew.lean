/- pio.New, charabancref24.New, each by its contract. -/
import Derived.Test.YtmoafjgogbcoeaaPioPend
namespace Go.Proofs.Ytmoafjgogbcoeaa
open Go.RowKit
set_option linter.unusedVariables false
set_option maxRecDepth 100000
set_option maxHeartbeats 2000000 in
theorem pnew_any (w : World) : Calls Try.prog 49 #[] w fun e w' => e = .returned (.agg M.pio0.a) ∧ Below w.heap.size w w' := by
  obtain ⟨Z, hZs, hZ'⟩ := zero80
  have hZ := Lib.hid hZ'
  obtain ⟨Y, hYs, hY'⟩ := zero77
  have hY := Lib.hid hY'
  clear hZ' hY'
  have h22 := Lib.hid (Nat.le_of_eq hZs.symm)
  have h11 := Lib.hid (Nat.le_of_eq hYs.symm)
  clear hZs hYs
  go_enter Try.func49, Try.ntmps49
  go_wp2_with (first
      | ((with_reducible refine is_allocT 80 rfl ?_); refine wpList_alloc_row rfl _ rfl Z hZ.out ?_)
      | ((with_reducible refine is_allocT 77 rfl ?_); refine wpList_alloc_row rfl _ rfl Y hY.out ?_)
      | ((with_reducible refine is_storeT 77 rfl ?_); refine wpList_store_rowT rfl _ _ _ rfl _ _ M.po0.a rfl rfl (by rw [po_size]; exact there_newB _ _ _ _ (by simp) h11.out) (info77c _) (po_one _) ?_; intro W hW hT; simp only [World.size_alloc] at hW hT; have z1 := hT.size; simp at z1; have t1 := there_touch (there_allocA (there_newB (b := w.heap.size) w Z 80 _ rfl h22.out) _) hT (by simp; omega) (by omega); have b1 := hT.below w.heap.size w (by omega) (by simp; omega) (by go_grown); clear hT)
      | ((with_reducible refine is_loadT 77 rfl ?_); refine wpList_load_row rfl _ _ rfl _ _ rfl _ Try.underlying77 rfl M.po0.a (by first | exact hW | (simp only [World.size_alloc]; exact hW)) (info77c _) ?_)
      | ((with_reducible refine is_storeT 80 rfl ?_); refine wpList_store_rowT rfl _ _ _ rfl _ _ M.pio0.a rfl rfl (by rw [pi_size]; exact t1) (info80c _) (pi_one _) ?_; intro W2 hW2 hT2))
  refine bodyPost_ret (results_row rfl _ _ _ _ M.pio0.a _ rfl hW2 Try.underlying80 rfl (info80c _)) rfl ?_
  exact ⟨rfl, hT2.below _ _ (by omega) (by omega) b1⟩
set_option maxHeartbeats 2000000 in
theorem rpnew_any (w : World) : Calls Try.prog 50 #[] w fun e w' => e = .returned (.agg M.pio0.a) ∧ Below w.heap.size w w' := by
  obtain ⟨Z, hZs, hZ'⟩ := zero86
  have hZ := Lib.hid hZ'
  obtain ⟨Y, hYs, hY'⟩ := zero83
  have hY := Lib.hid hY'
  clear hZ' hY'
  have h22 := Lib.hid (Nat.le_of_eq hZs.symm)
  have h11 := Lib.hid (Nat.le_of_eq hYs.symm)
  clear hZs hYs
  go_enter Try.func50, Try.ntmps50
  go_wp2_with (first
      | ((with_reducible refine is_allocT 86 rfl ?_); refine wpList_alloc_row rfl _ rfl Z hZ.out ?_)
      | ((with_reducible refine is_allocT 83 rfl ?_); refine wpList_alloc_row rfl _ rfl Y hY.out ?_)
      | ((with_reducible refine is_storeT 83 rfl ?_); refine wpList_store_rowT rfl _ _ _ rfl _ _ M.po0.a rfl rfl (by rw [po_size]; exact there_newB _ _ _ _ (by simp) h11.out) (info83c _) (po_one _) ?_; intro W hW hT; simp only [World.size_alloc] at hW hT; have z1 := hT.size; simp at z1; have t1 := there_touch (there_allocA (there_newB (b := w.heap.size) w Z 86 _ rfl h22.out) _) hT (by simp; omega) (by omega); have b1 := hT.below w.heap.size w (by omega) (by simp; omega) (by go_grown); clear hT)
      | ((with_reducible refine is_loadT 83 rfl ?_); refine wpList_load_row rfl _ _ rfl _ _ rfl _ Try.underlying83 rfl M.po0.a (by first | exact hW | (simp only [World.size_alloc]; exact hW)) (info83c _) ?_)
      | ((with_reducible refine is_storeT 86 rfl ?_); refine wpList_store_rowT rfl _ _ _ rfl _ _ M.pio0.a rfl rfl (by rw [pi_size]; exact t1) (info86c _) (pi_one _) ?_; intro W2 hW2 hT2))
  refine bodyPost_ret (results_row rfl _ _ _ _ M.pio0.a _ rfl hW2 Try.underlying86 rfl (info86c _)) rfl ?_
  exact ⟨rfl, hT2.below _ _ (by omega) (by omega) b1⟩
end Go.Proofs.Ytmoafjgogbcoeaa
