/- charabancref23.Write by its contract: the vector, and the constant that was waited for. -/
import Derived.Test.YtmoafjgogbcoeaaCtcRefW
namespace Go.Proofs.Ytmoafjgogbcoeaa
open Go.RowKit
set_option linter.unusedVariables false
set_option maxRecDepth 100000
set_option maxHeartbeats 4000000 in
theorem rwrite_vec (c : M.Ct) (hc : c.ok) (b : Int) (h0 : 0 ≤ b) (h1 : b ≤ 255) (hw : (c.at 0).wants = false) (hb : M.is b 0 = false) (w : World) : Calls Try.prog 33 #[.agg c.a, .int .i64 0, .int .u8 b] w fun e w' =>
    e = .returned (.agg (({ c with vec := b / 8 * 8 } : M.Ct).set (c.at 0) 0).a) ∧ Below w.heap.size w w' := by
  obtain ⟨Z, hZs, hZ'⟩ := zero51
  have hZ := Lib.hid hZ'
  obtain ⟨Z8, hZ8s, hZ8'⟩ := zero48
  have hZ8 := Lib.hid hZ8'
  clear hZ' hZ8'
  have hs := ct_size c
  have hlt : 0 < 4 := by omega
  obtain ⟨X, hXd⟩ : ∃ X, X = c.at 0 := ⟨_, rfl⟩
  have hxok := M.at_ok hc 0
  rw [← hXd] at hxok
  have hi0 := fun W => refis_any b 0 h0 h1 W
  rw [hb] at hi0
  rw [← hXd] at hw ⊢
  obtain ⟨con, cst, cnt, pre, runs, waits, wants, pend⟩ := X
  simp only at hw
  subst hw
  have hXD := Lib.hid hXd
  have Hi0 := Lib.hid hi0
  clear hXd hi0 hb
  · go_enter Try.func33, Try.ntmps33
    go_wp2_with (first
      | ((with_reducible refine is_allocT 51 rfl ?_); refine wpList_alloc_row rfl _ rfl Z hZ.out ?_)
      | ((with_reducible refine is_allocT 48 rfl ?_); refine wpList_alloc_row rfl _ rfl Z8 hZ8.out ?_)
      | ((with_reducible refine is_loadT 48 rfl ?_); refine wpList_load_row rfl _ _ rfl _ _ rfl _ Try.underlying48 rfl (M.Ch.mk con cst cnt pre runs waits false pend).a (by rw [hXD.out]; exact ct_at ((ct_new _ _ _).alloc _).1 0 hlt) (info48c _) ?_)
      | ((with_reducible refine is_storeT 48 rfl ?_); refine wpList_store_rowT rfl _ _ _ rfl _ _ (M.Ch.mk con cst cnt pre runs waits false pend).a rfl rfl (there_newB _ _ _ _ rfl (by rw [ch_size]; omega)) (info48c _) (ch_one _) ?_; intro W hW hT;
          have hf := Free.touch (free_new ((w.alloc (.cells c.a 51)).alloc (.cells Z 51)) Z8 48 8) hT (by simp); simp only [World.size_alloc] at hW hT hf; obtain ⟨c0, c1, c2, c3, c4, c5, c6, c7⟩ := ch_cells0 hW; obtain ⟨f0, f1, f2, f3, f4, f5, f6, f7⟩ := ch_free0 hf;
          have hbox := Lib.hid (CtAt.touch (((ct_new w c 51).alloc (.cells Z 51)).alloc (.cells Z8 48)) hT (by omega)); have hres := Lib.hid (there_touch (there_allocA (there_newB (b := w.heap.size + 1) (w.alloc (.cells c.a 51)) Z 51 33 (by simp) (by omega)) (.cells Z8 48)) hT (by simp) (by omega));
          have hbel := hT.below w.heap.size w (by omega) (by simp; omega) (by go_grown); have hsz : w.heap.size + 1 + 1 + 1 ≤ W.heap.size := Nat.le_trans (by simp) hT.size; clear hW hT hf))
    refine (Hi0.out _).mono ?_
    rintro e w1 ⟨rfl, rfl⟩
    have hvc := (hbox.out.pend).2.2.2.2
    have hvf : W.frozen? ⟨w.heap.size, 32, none⟩ = false := hbox.out.2.1 32 (by omega)
    have hcv : CtAt (W.setCell ⟨w.heap.size, 32, none⟩ (.int .u8 (b / 8 * 8))) w.heap.size { c with vec := b / 8 * 8 } := ⟨ct_vec hbox.out _, fun j hj => by rw [World.frozen?_setCell]; exact hbox.out.2.1 j hj, by simp; omega⟩
    have hbx0 := Lib.hid hcv
    clear hcv
    go_wp2_with (first
      | ((with_reducible refine is_loadT 48 rfl ?_); refine wpList_load_row rfl _ _ rfl _ _ rfl _ Try.underlying48 rfl (M.Ch.mk con cst cnt pre runs waits false pend).a (ch_range0 (by go_cell) (by go_cell) (by go_cell) (by go_cell) (by go_cell) (by go_cell) (by go_cell) (by go_cell)) (info48c _) ?_)
      | ((with_reducible refine is_storeT 48 rfl ?_); refine wpList_store_rowT rfl _ _ _ rfl _ 0 (M.Ch.mk con cst cnt pre runs waits false pend).a rfl rfl (by rw [ch_size]; exact there_of (ct_at hbx0.out.1 0 hlt) (hbx0.out.2.1.part _ _ (by omega) (by omega)) (Nat.le_refl _)) (info48c _) (ch_one _) ?_;
          intro W3 hW3 hT3; rw [ch_size] at hT3; have hbx := Lib.hid (ct_turn hbx0.out 0 hlt hW3 hT3).1; have hrs := Lib.hid (there_touch (there_set hres.out _ _) hT3 (by go_size) (by omega)); have hbl := hT3.below w.heap.size w (by omega) (by go_size) (hbel.setCell (p := ⟨w.heap.size, 32, none⟩) (Nat.le_refl _) _); have hsz3 : w.heap.size + 1 + 1 + 1 ≤ W3.heap.size := Nat.le_trans (by go_size) hT3.size; clear hW3 hT3)
      | ((with_reducible refine is_loadT 51 rfl ?_); refine wpList_load_row rfl _ _ rfl _ _ rfl _ Try.underlying51 rfl _ hbx.out.1 (info51c _) ?_)
      | ((with_reducible refine is_storeT 51 rfl ?_); refine wpList_store_rowT rfl _ _ _ rfl _ _ _ rfl rfl (by rw [ct_size]; exact hrs.out) (info51c _) (ct_one _) ?_; intro W4 hW4 hT4))
    refine bodyPost_ret (results_row rfl _ _ _ _ _ _ rfl hW4 Try.underlying51 rfl (info51c _)) rfl ?_
    exact ⟨rfl, hT4.below _ _ (by omega) (by omega) hbl⟩
end Go.Proofs.Ytmoafjgogbcoeaa
