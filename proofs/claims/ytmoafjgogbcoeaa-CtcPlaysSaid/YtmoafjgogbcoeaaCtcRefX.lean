/- charabancref23.Write by its contract: the constant that was waited for. -/
import Derived.Test.YtmoafjgogbcoeaaCtcRefW
import Derived.Test.YtmoafjgogbcoeaaRowOpsG
namespace Go.Proofs.Ytmoafjgogbcoeaa
open Go.RowKit
set_option linter.unusedVariables false
set_option maxRecDepth 100000
theorem cell_al {w : World} {a : Addr} {v : Value} (ob : Obj) (h : w.cell? a = some v) : (w.alloc ob).cell? a = some v := (World.cell?_alloc_lt _ _ _ (World.block_lt_of_cell? w a h)).trans h
set_option maxHeartbeats 8000000 in
theorem rwrite_wants (c : M.Ct) (hc : c.ok) (k : Nat) (hlt : k < 4) (b : Int) (h0 : 0 ≤ b) (h1 : b ≤ 255) (hw : (c.at k).wants = true) (w : World) : Calls Try.prog 33 #[.agg c.a, .int .i64 k, .int .u8 b] w fun e w' =>
    e = .returned (.agg (c.set (M.told (c.at k) b) k).a) ∧ Below w.heap.size w w' := by
  obtain ⟨Z, hZs, hZ'⟩ := zero51
  have hZ := Lib.hid hZ'
  obtain ⟨Z8, hZ8s, hZ8'⟩ := zero48
  have hZ8 := Lib.hid hZ8'
  clear hZ' hZ8'
  have hs := ct_size c
  have hlt' : (k : Int) < 4 := by omega
  have hlt0 : (0 : Int) ≤ (k : Int) := by omega
  have hkk : k * 8 = 8 * k := Nat.mul_comm _ _
  obtain ⟨X, hXd⟩ : ∃ X, X = c.at k := ⟨_, rfl⟩
  have hxok := M.at_ok hc k
  rw [← hXd] at hxok
  have hi0 := fun W => refis_any b 0 h0 h1 W
  rw [← hXd] at hw ⊢
  obtain ⟨con, cst, cnt, pre, runs, waits, wants, pend⟩ := X
  simp only at hw
  subst hw
  have hXD := Lib.hid hXd
  have Hi0 := Lib.hid hi0
  have hwh := rwhole_any b h0 h1
  have hh6 := fun W => rhas_any ⟨con, b, M.whole b, 0, runs, waits, false, pend⟩ 6 hxok.1.1 hxok.1.2 W
  have hh3 := fun W => rhas_any ⟨con, b, M.whole b, 0, runs, waits, false, pend⟩ 3 hxok.1.1 hxok.1.2 W
  have hX : M.told ⟨con, cst, cnt, pre, runs, waits, true, pend⟩ b = ⟨con, b, M.whole b, 0, !(!M.is con 6 && M.is con 3), (!M.is con 6 && M.is con 3), false, pend⟩ := rfl
  rw [hX]
  obtain ⟨m, hm⟩ : ∃ m, m = M.whole b := ⟨_, rfl⟩
  simp only [← hm] at hh6 hh3 hwh ⊢
  clear hXd hi0 hX hm
  have Hw := Lib.hid hwh
  clear hwh
  cases c6 : M.is con 6 with
  | true =>
    simp only [c6] at hh6
    have H6 := Lib.hid hh6
    clear hh6 hh3 c6
    simp only [Bool.not_true, Bool.false_and, Bool.not_false]
    go_enter Try.func33, Try.ntmps33
    go_wp2_with (first
      | ((with_reducible refine is_allocT 51 rfl ?_); refine wpList_alloc_row rfl _ rfl Z hZ.out ?_)
      | ((with_reducible refine is_allocT 48 rfl ?_); refine wpList_alloc_row rfl _ rfl Z8 hZ8.out ?_)
      | ((with_reducible refine is_loadT 48 rfl ?_); refine wpList_load_row rfl _ _ rfl _ _ rfl _ Try.underlying48 rfl (M.Ch.mk con cst cnt pre runs waits true pend).a (by rw [hXD.out]; exact ct_at ((ct_new _ _ _).alloc _).1 k hlt) (info48c _) ?_)
      | ((with_reducible refine is_storeT 48 rfl ?_); refine wpList_store_rowT rfl _ _ _ rfl _ _ (M.Ch.mk con cst cnt pre runs waits true pend).a rfl rfl (there_newB _ _ _ _ rfl (by rw [ch_size]; omega)) (info48c _) (ch_one _) ?_; intro W hW hT;
          have hf := Free.touch (free_new ((w.alloc (.cells c.a 51)).alloc (.cells Z 51)) Z8 48 8) hT (by simp); simp only [World.size_alloc] at hW hT hf; obtain ⟨c0, c1, c2, c3, c4, c5, c6, c7⟩ := ch_cells0 hW; obtain ⟨f0, f1, f2, f3, f4, f5, f6, f7⟩ := ch_free0 hf;
          have hbox := Lib.hid (CtAt.touch (((ct_new w c 51).alloc (.cells Z 51)).alloc (.cells Z8 48)) hT (by omega)); have hres := Lib.hid (there_touch (there_allocA (there_newB (b := w.heap.size + 1) (w.alloc (.cells c.a 51)) Z 51 33 (by simp) (by omega)) (.cells Z8 48)) hT (by simp) (by omega));
          have hbel := hT.below w.heap.size w (by omega) (by simp; omega) (by go_grown); have hsz : w.heap.size + 1 + 1 + 1 ≤ W.heap.size := Nat.le_trans (by simp) hT.size; have hne1 : ¬ (w.heap.size + 1 + 1 = W.heap.size) := (by omega); have hne2 : ¬ (W.heap.size = w.heap.size + 1 + 1) := (by omega); have hlt3 : w.heap.size + 1 + 1 < W.heap.size := (by omega); have hne3 : ¬ (w.heap.size + 1 + 1 = W.heap.size + 1) := (by omega); have hne4 : ¬ (W.heap.size + 1 = w.heap.size + 1 + 1) := (by omega); have hne5 : ¬ (w.heap.size + 1 = W.heap.size) := (by omega); have hne6 : ¬ (W.heap.size = w.heap.size + 1) := (by omega); clear hW hT hf))
    refine (Hi0.out _).mono ?_
    rintro e w1 ⟨rfl, rfl⟩
    go_wp2_with fail
    refine (Hw.out _).mono ?_
    rintro e w1 ⟨rfl, rfl⟩
    go_wp2_with ((with_reducible refine is_loadT 48 rfl ?_); refine wpList_load_row rfl _ _ rfl _ _ rfl _ Try.underlying48 rfl (M.Ch.mk con b m 0 runs waits false pend).a (ch_range0 (by go_cell) (by go_cell) (by go_cell) (by go_cell) (by go_cell) (by go_cell) (by go_cell) (by go_cell)) (info48c _) ?_)
    refine (H6.out _).mono ?_
    rintro e w1 ⟨rfl, rfl⟩
    go_wp2_with (first
      | ((with_reducible refine is_loadT 48 rfl ?_); refine wpList_load_row rfl _ _ rfl _ _ rfl _ Try.underlying48 rfl (M.Ch.mk con b m 0 true false false pend).a (ch_range0 (by go_cell) (by go_cell) (by go_cell) (by go_cell) (by go_cell) (by go_cell) (by go_cell) (by go_cell)) (info48c _) ?_)
      | ((with_reducible refine is_storeT 48 rfl ?_); refine wpList_store_rowT rfl _ _ _ rfl _ (8 * k) (M.Ch.mk con b m 0 true false false pend).a rfl rfl (by rw [ch_size]; exact there_of (ct_at (CtAt.touch (b := w.heap.size + 1 + 1) (o := 0) (n := 8) hbox.out (by repeat' (first | (with_reducible exact Touch.refl _ _ _ _) | (with_reducible assumption) | (with_reducible refine Touch.alloc ?_ _) | (with_reducible refine Touch.setCell ?_ _ (by omega) (by omega) _))) (by omega)).1 k hlt) ((CtAt.touch (b := w.heap.size + 1 + 1) (o := 0) (n := 8) hbox.out (by repeat' (first | (with_reducible exact Touch.refl _ _ _ _) | (with_reducible assumption) | (with_reducible refine Touch.alloc ?_ _) | (with_reducible refine Touch.setCell ?_ _ (by omega) (by omega) _))) (by omega)).2.1.part _ _ (by omega) (by omega)) (Nat.le_refl _)) (info48c _) (ch_one _) ?_;
          intro W3 hW3 hT3; rw [ch_size] at hT3; have hbx := Lib.hid (ct_turn (CtAt.touch (b := w.heap.size + 1 + 1) (o := 0) (n := 8) hbox.out (by repeat' (first | (with_reducible exact Touch.refl _ _ _ _) | (with_reducible assumption) | (with_reducible refine Touch.alloc ?_ _) | (with_reducible refine Touch.setCell ?_ _ (by omega) (by omega) _))) (by omega)) k hlt hW3 hT3).1; have hrs := Lib.hid (there_touch (there_touch (B := w.heap.size + 1 + 1) (o := 0) (n := 8) hres.out (by repeat' (first | (with_reducible exact Touch.refl _ _ _ _) | (with_reducible assumption) | (with_reducible refine Touch.alloc ?_ _) | (with_reducible refine Touch.setCell ?_ _ (by omega) (by omega) _))) (by omega) (by omega)) hT3 (by go_size) (by omega)); have hbl := hT3.below w.heap.size w (by omega) (by go_size) (Touch.below (B := w.heap.size + 1 + 1) (o := 0) (n := 8) (w := W) (by repeat' (first | (with_reducible exact Touch.refl _ _ _ _) | (with_reducible assumption) | (with_reducible refine Touch.alloc ?_ _) | (with_reducible refine Touch.setCell ?_ _ (by omega) (by omega) _))) _ _ (by omega) (by omega) hbel); have hsz3 : w.heap.size + 1 + 1 + 1 ≤ W3.heap.size := Nat.le_trans (by go_size) hT3.size; clear hW3 hT3)
      | ((with_reducible refine is_loadT 51 rfl ?_); refine wpList_load_row rfl _ _ rfl _ _ rfl _ Try.underlying51 rfl _ hbx.out.1 (info51c _) ?_)
      | ((with_reducible refine is_storeT 51 rfl ?_); refine wpList_store_rowT rfl _ _ _ rfl _ _ _ rfl rfl (by rw [ct_size]; exact hrs.out) (info51c _) (ct_one _) ?_; intro W4 hW4 hT4))
    refine bodyPost_ret (results_row rfl _ _ _ _ _ _ rfl hW4 Try.underlying51 rfl (info51c _)) rfl ?_
    exact ⟨rfl, hT4.below _ _ (by omega) (by omega) hbl⟩
  | false =>
    simp only [c6] at hh6
    have H6 := Lib.hid hh6
    clear hh6 c6
    simp only [Bool.not_false, Bool.true_and]
    revert hh3
    cases M.is con 3
    all_goals
     intro hh3
     have H3 := Lib.hid hh3
     clear hh3
     simp only [Bool.not_false, Bool.not_true]
    go_enter Try.func33, Try.ntmps33
    go_wp2_with (first
      | ((with_reducible refine is_allocT 51 rfl ?_); refine wpList_alloc_row rfl _ rfl Z hZ.out ?_)
      | ((with_reducible refine is_allocT 48 rfl ?_); refine wpList_alloc_row rfl _ rfl Z8 hZ8.out ?_)
      | ((with_reducible refine is_loadT 48 rfl ?_); refine wpList_load_row rfl _ _ rfl _ _ rfl _ Try.underlying48 rfl (M.Ch.mk con cst cnt pre runs waits true pend).a (by rw [hXD.out]; exact ct_at ((ct_new _ _ _).alloc _).1 k hlt) (info48c _) ?_)
      | ((with_reducible refine is_storeT 48 rfl ?_); refine wpList_store_rowT rfl _ _ _ rfl _ _ (M.Ch.mk con cst cnt pre runs waits true pend).a rfl rfl (there_newB _ _ _ _ rfl (by rw [ch_size]; omega)) (info48c _) (ch_one _) ?_; intro W hW hT;
          have hf := Free.touch (free_new ((w.alloc (.cells c.a 51)).alloc (.cells Z 51)) Z8 48 8) hT (by simp); simp only [World.size_alloc] at hW hT hf; obtain ⟨c0, c1, c2, c3, c4, c5, c6, c7⟩ := ch_cells0 hW; obtain ⟨f0, f1, f2, f3, f4, f5, f6, f7⟩ := ch_free0 hf;
          have hbox := Lib.hid (CtAt.touch (((ct_new w c 51).alloc (.cells Z 51)).alloc (.cells Z8 48)) hT (by omega)); have hres := Lib.hid (there_touch (there_allocA (there_newB (b := w.heap.size + 1) (w.alloc (.cells c.a 51)) Z 51 33 (by simp) (by omega)) (.cells Z8 48)) hT (by simp) (by omega));
          have hbel := hT.below w.heap.size w (by omega) (by simp; omega) (by go_grown); have hsz : w.heap.size + 1 + 1 + 1 ≤ W.heap.size := Nat.le_trans (by simp) hT.size; have hne1 : ¬ (w.heap.size + 1 + 1 = W.heap.size) := (by omega); have hne2 : ¬ (W.heap.size = w.heap.size + 1 + 1) := (by omega); have hlt3 : w.heap.size + 1 + 1 < W.heap.size := (by omega); have hne3 : ¬ (w.heap.size + 1 + 1 = W.heap.size + 1) := (by omega); have hne4 : ¬ (W.heap.size + 1 = w.heap.size + 1 + 1) := (by omega); have hne5 : ¬ (w.heap.size + 1 = W.heap.size) := (by omega); have hne6 : ¬ (W.heap.size = w.heap.size + 1) := (by omega); clear hW hT hf))
    refine (Hi0.out _).mono ?_
    rintro e w1 ⟨rfl, rfl⟩
    go_wp2_with fail
    refine (Hw.out _).mono ?_
    rintro e w1 ⟨rfl, rfl⟩
    go_wp2_with ((with_reducible refine is_loadT 48 rfl ?_); refine wpList_load_row rfl _ _ rfl _ _ rfl _ Try.underlying48 rfl (M.Ch.mk con b m 0 runs waits false pend).a (ch_range0 (by go_cell) (by go_cell) (by go_cell) (by go_cell) (by go_cell) (by go_cell) (by go_cell) (by go_cell)) (info48c _) ?_)
    refine (H6.out _).mono ?_
    rintro e w1 ⟨rfl, rfl⟩
    go_wp2_with ((with_reducible refine is_loadG 48 rfl ?_); refine wpList_load_rowG (by rfl) _ _ rfl _ _ rfl _ Try.underlying48 rfl (M.Ch.mk con b m 0 runs waits false pend).a (ch_range0 (by go_cell) (by go_cell) (by go_cell) (by go_cell) (by go_cell) (by go_cell) (by go_cell) (by go_cell)) (info48c _) ?_)
    refine (H3.out _).mono ?_
    rintro e w1 ⟨rfl, hw1⟩
    have d0 : w1.cell? ⟨w.heap.size + 1 + 1, 0, none⟩ = some (.int .u8 con) := by rw [hw1]; refine cell_al _ (cell_al _ ?_); go_cell
    have d1 : w1.cell? ⟨w.heap.size + 1 + 1, 1, none⟩ = some (.int .u8 b) := by rw [hw1]; refine cell_al _ (cell_al _ ?_); go_cell
    have d2 : w1.cell? ⟨w.heap.size + 1 + 1, 2, none⟩ = some (.int .i64 m) := by rw [hw1]; refine cell_al _ (cell_al _ ?_); go_cell
    have d3 : w1.cell? ⟨w.heap.size + 1 + 1, 3, none⟩ = some (.int .i64 0) := by rw [hw1]; refine cell_al _ (cell_al _ ?_); go_cell
    have d4 : w1.cell? ⟨w.heap.size + 1 + 1, 4, none⟩ = some (.bool runs) := by rw [hw1]; refine cell_al _ (cell_al _ ?_); go_cell
    have d5 : w1.cell? ⟨w.heap.size + 1 + 1, 5, none⟩ = some (.bool waits) := by rw [hw1]; refine cell_al _ (cell_al _ ?_); go_cell
    have d6 : w1.cell? ⟨w.heap.size + 1 + 1, 6, none⟩ = some (.bool false) := by rw [hw1]; refine cell_al _ (cell_al _ ?_); go_cell
    have d7 : w1.cell? ⟨w.heap.size + 1 + 1, 7, none⟩ = some (.bool pend) := by rw [hw1]; refine cell_al _ (cell_al _ ?_); go_cell
    have ht1 : Touch (w.heap.size + 1 + 1) 0 8 W w1 := by rw [hw1]; exact (by repeat' (first | (with_reducible exact Touch.refl _ _ _ _) | (with_reducible refine Touch.alloc ?_ _) | (with_reducible refine Touch.setCell ?_ _ (by omega) (by omega) _)))
    have e4 : w1.frozen? ⟨w.heap.size + 1 + 1, 4, none⟩ = false := (ht1.frozen ⟨w.heap.size + 1 + 1, 4, none⟩ (by show w.heap.size + 1 + 1 < W.heap.size; omega)).trans f4
    have e5 : w1.frozen? ⟨w.heap.size + 1 + 1, 5, none⟩ = false := (ht1.frozen ⟨w.heap.size + 1 + 1, 5, none⟩ (by show w.heap.size + 1 + 1 < W.heap.size; omega)).trans f5
    have hz1 := ht1.size
    clear hw1
    go_wp2_with (first
      | ((with_reducible refine is_loadT 48 rfl ?_); refine wpList_load_row rfl _ _ rfl _ _ rfl _ Try.underlying48 rfl (M.Ch.mk con b m 0 true false false pend).a (ch_range0 (by go_cell) (by go_cell) (by go_cell) (by go_cell) (by go_cell) (by go_cell) (by go_cell) (by go_cell)) (info48c _) ?_)
      | ((with_reducible refine is_storeT 48 rfl ?_); refine wpList_store_rowT rfl _ _ _ rfl _ (8 * k) (M.Ch.mk con b m 0 true false false pend).a rfl rfl (by rw [ch_size]; exact there_of (ct_at (CtAt.touch (b := w.heap.size + 1 + 1) (o := 0) (n := 8) hbox.out (by repeat' (first | (with_reducible exact Touch.refl _ _ _ _) | (with_reducible assumption) | (with_reducible refine Touch.alloc ?_ _) | (with_reducible refine Touch.setCell ?_ _ (by omega) (by omega) _))) (by omega)).1 k hlt) ((CtAt.touch (b := w.heap.size + 1 + 1) (o := 0) (n := 8) hbox.out (by repeat' (first | (with_reducible exact Touch.refl _ _ _ _) | (with_reducible assumption) | (with_reducible refine Touch.alloc ?_ _) | (with_reducible refine Touch.setCell ?_ _ (by omega) (by omega) _))) (by omega)).2.1.part _ _ (by omega) (by omega)) (Nat.le_refl _)) (info48c _) (ch_one _) ?_;
          intro W3 hW3 hT3; rw [ch_size] at hT3; have hbx := Lib.hid (ct_turn (CtAt.touch (b := w.heap.size + 1 + 1) (o := 0) (n := 8) hbox.out (by repeat' (first | (with_reducible exact Touch.refl _ _ _ _) | (with_reducible assumption) | (with_reducible refine Touch.alloc ?_ _) | (with_reducible refine Touch.setCell ?_ _ (by omega) (by omega) _))) (by omega)) k hlt hW3 hT3).1; have hrs := Lib.hid (there_touch (there_touch (B := w.heap.size + 1 + 1) (o := 0) (n := 8) hres.out (by repeat' (first | (with_reducible exact Touch.refl _ _ _ _) | (with_reducible assumption) | (with_reducible refine Touch.alloc ?_ _) | (with_reducible refine Touch.setCell ?_ _ (by omega) (by omega) _))) (by omega) (by omega)) hT3 (by go_size) (by omega)); have hbl := hT3.below w.heap.size w (by omega) (by go_size) (Touch.below (B := w.heap.size + 1 + 1) (o := 0) (n := 8) (w := W) (by repeat' (first | (with_reducible exact Touch.refl _ _ _ _) | (with_reducible assumption) | (with_reducible refine Touch.alloc ?_ _) | (with_reducible refine Touch.setCell ?_ _ (by omega) (by omega) _))) _ _ (by omega) (by omega) hbel); have hsz3 : w.heap.size + 1 + 1 + 1 ≤ W3.heap.size := Nat.le_trans (by go_size) hT3.size; clear hW3 hT3)
      | ((with_reducible refine is_loadT 51 rfl ?_); refine wpList_load_row rfl _ _ rfl _ _ rfl _ Try.underlying51 rfl _ hbx.out.1 (info51c _) ?_)
      | ((with_reducible refine is_storeT 51 rfl ?_); refine wpList_store_rowT rfl _ _ _ rfl _ _ _ rfl rfl (by rw [ct_size]; exact hrs.out) (info51c _) (ct_one _) ?_; intro W4 hW4 hT4))
    refine bodyPost_ret (results_row rfl _ _ _ _ _ _ rfl hW4 Try.underlying51 rfl (info51c _)) rfl ?_
    exact ⟨rfl, hT4.below _ _ (by omega) (by omega) hbl⟩
    go_enter Try.func33, Try.ntmps33
    go_wp2_with (first
      | ((with_reducible refine is_allocT 51 rfl ?_); refine wpList_alloc_row rfl _ rfl Z hZ.out ?_)
      | ((with_reducible refine is_allocT 48 rfl ?_); refine wpList_alloc_row rfl _ rfl Z8 hZ8.out ?_)
      | ((with_reducible refine is_loadT 48 rfl ?_); refine wpList_load_row rfl _ _ rfl _ _ rfl _ Try.underlying48 rfl (M.Ch.mk con cst cnt pre runs waits true pend).a (by rw [hXD.out]; exact ct_at ((ct_new _ _ _).alloc _).1 k hlt) (info48c _) ?_)
      | ((with_reducible refine is_storeT 48 rfl ?_); refine wpList_store_rowT rfl _ _ _ rfl _ _ (M.Ch.mk con cst cnt pre runs waits true pend).a rfl rfl (there_newB _ _ _ _ rfl (by rw [ch_size]; omega)) (info48c _) (ch_one _) ?_; intro W hW hT;
          have hf := Free.touch (free_new ((w.alloc (.cells c.a 51)).alloc (.cells Z 51)) Z8 48 8) hT (by simp); simp only [World.size_alloc] at hW hT hf; obtain ⟨c0, c1, c2, c3, c4, c5, c6, c7⟩ := ch_cells0 hW; obtain ⟨f0, f1, f2, f3, f4, f5, f6, f7⟩ := ch_free0 hf;
          have hbox := Lib.hid (CtAt.touch (((ct_new w c 51).alloc (.cells Z 51)).alloc (.cells Z8 48)) hT (by omega)); have hres := Lib.hid (there_touch (there_allocA (there_newB (b := w.heap.size + 1) (w.alloc (.cells c.a 51)) Z 51 33 (by simp) (by omega)) (.cells Z8 48)) hT (by simp) (by omega));
          have hbel := hT.below w.heap.size w (by omega) (by simp; omega) (by go_grown); have hsz : w.heap.size + 1 + 1 + 1 ≤ W.heap.size := Nat.le_trans (by simp) hT.size; have hne1 : ¬ (w.heap.size + 1 + 1 = W.heap.size) := (by omega); have hne2 : ¬ (W.heap.size = w.heap.size + 1 + 1) := (by omega); have hlt3 : w.heap.size + 1 + 1 < W.heap.size := (by omega); have hne3 : ¬ (w.heap.size + 1 + 1 = W.heap.size + 1) := (by omega); have hne4 : ¬ (W.heap.size + 1 = w.heap.size + 1 + 1) := (by omega); have hne5 : ¬ (w.heap.size + 1 = W.heap.size) := (by omega); have hne6 : ¬ (W.heap.size = w.heap.size + 1) := (by omega); clear hW hT hf))
    refine (Hi0.out _).mono ?_
    rintro e w1 ⟨rfl, rfl⟩
    go_wp2_with fail
    refine (Hw.out _).mono ?_
    rintro e w1 ⟨rfl, rfl⟩
    go_wp2_with ((with_reducible refine is_loadT 48 rfl ?_); refine wpList_load_row rfl _ _ rfl _ _ rfl _ Try.underlying48 rfl (M.Ch.mk con b m 0 runs waits false pend).a (ch_range0 (by go_cell) (by go_cell) (by go_cell) (by go_cell) (by go_cell) (by go_cell) (by go_cell) (by go_cell)) (info48c _) ?_)
    refine (H6.out _).mono ?_
    rintro e w1 ⟨rfl, rfl⟩
    go_wp2_with ((with_reducible refine is_loadG 48 rfl ?_); refine wpList_load_rowG (by rfl) _ _ rfl _ _ rfl _ Try.underlying48 rfl (M.Ch.mk con b m 0 runs waits false pend).a (ch_range0 (by go_cell) (by go_cell) (by go_cell) (by go_cell) (by go_cell) (by go_cell) (by go_cell) (by go_cell)) (info48c _) ?_)
    refine (H3.out _).mono ?_
    rintro e w1 ⟨rfl, hw1⟩
    have d0 : w1.cell? ⟨w.heap.size + 1 + 1, 0, none⟩ = some (.int .u8 con) := by rw [hw1]; refine cell_al _ (cell_al _ ?_); go_cell
    have d1 : w1.cell? ⟨w.heap.size + 1 + 1, 1, none⟩ = some (.int .u8 b) := by rw [hw1]; refine cell_al _ (cell_al _ ?_); go_cell
    have d2 : w1.cell? ⟨w.heap.size + 1 + 1, 2, none⟩ = some (.int .i64 m) := by rw [hw1]; refine cell_al _ (cell_al _ ?_); go_cell
    have d3 : w1.cell? ⟨w.heap.size + 1 + 1, 3, none⟩ = some (.int .i64 0) := by rw [hw1]; refine cell_al _ (cell_al _ ?_); go_cell
    have d4 : w1.cell? ⟨w.heap.size + 1 + 1, 4, none⟩ = some (.bool runs) := by rw [hw1]; refine cell_al _ (cell_al _ ?_); go_cell
    have d5 : w1.cell? ⟨w.heap.size + 1 + 1, 5, none⟩ = some (.bool waits) := by rw [hw1]; refine cell_al _ (cell_al _ ?_); go_cell
    have d6 : w1.cell? ⟨w.heap.size + 1 + 1, 6, none⟩ = some (.bool false) := by rw [hw1]; refine cell_al _ (cell_al _ ?_); go_cell
    have d7 : w1.cell? ⟨w.heap.size + 1 + 1, 7, none⟩ = some (.bool pend) := by rw [hw1]; refine cell_al _ (cell_al _ ?_); go_cell
    have ht1 : Touch (w.heap.size + 1 + 1) 0 8 W w1 := by rw [hw1]; exact (by repeat' (first | (with_reducible exact Touch.refl _ _ _ _) | (with_reducible refine Touch.alloc ?_ _) | (with_reducible refine Touch.setCell ?_ _ (by omega) (by omega) _)))
    have e4 : w1.frozen? ⟨w.heap.size + 1 + 1, 4, none⟩ = false := (ht1.frozen ⟨w.heap.size + 1 + 1, 4, none⟩ (by show w.heap.size + 1 + 1 < W.heap.size; omega)).trans f4
    have e5 : w1.frozen? ⟨w.heap.size + 1 + 1, 5, none⟩ = false := (ht1.frozen ⟨w.heap.size + 1 + 1, 5, none⟩ (by show w.heap.size + 1 + 1 < W.heap.size; omega)).trans f5
    have hz1 := ht1.size
    clear hw1
    go_wp2_with (first
      | ((with_reducible refine is_loadT 48 rfl ?_); refine wpList_load_row rfl _ _ rfl _ _ rfl _ Try.underlying48 rfl (M.Ch.mk con b m 0 false true false pend).a (ch_range0 (by go_cell) (by go_cell) (by go_cell) (by go_cell) (by go_cell) (by go_cell) (by go_cell) (by go_cell)) (info48c _) ?_)
      | ((with_reducible refine is_storeT 48 rfl ?_); refine wpList_store_rowT rfl _ _ _ rfl _ (8 * k) (M.Ch.mk con b m 0 false true false pend).a rfl rfl (by rw [ch_size]; exact there_of (ct_at (CtAt.touch (b := w.heap.size + 1 + 1) (o := 0) (n := 8) hbox.out (by repeat' (first | (with_reducible exact Touch.refl _ _ _ _) | (with_reducible assumption) | (with_reducible refine Touch.alloc ?_ _) | (with_reducible refine Touch.setCell ?_ _ (by omega) (by omega) _))) (by omega)).1 k hlt) ((CtAt.touch (b := w.heap.size + 1 + 1) (o := 0) (n := 8) hbox.out (by repeat' (first | (with_reducible exact Touch.refl _ _ _ _) | (with_reducible assumption) | (with_reducible refine Touch.alloc ?_ _) | (with_reducible refine Touch.setCell ?_ _ (by omega) (by omega) _))) (by omega)).2.1.part _ _ (by omega) (by omega)) (Nat.le_refl _)) (info48c _) (ch_one _) ?_;
          intro W3 hW3 hT3; rw [ch_size] at hT3; have hbx := Lib.hid (ct_turn (CtAt.touch (b := w.heap.size + 1 + 1) (o := 0) (n := 8) hbox.out (by repeat' (first | (with_reducible exact Touch.refl _ _ _ _) | (with_reducible assumption) | (with_reducible refine Touch.alloc ?_ _) | (with_reducible refine Touch.setCell ?_ _ (by omega) (by omega) _))) (by omega)) k hlt hW3 hT3).1; have hrs := Lib.hid (there_touch (there_touch (B := w.heap.size + 1 + 1) (o := 0) (n := 8) hres.out (by repeat' (first | (with_reducible exact Touch.refl _ _ _ _) | (with_reducible assumption) | (with_reducible refine Touch.alloc ?_ _) | (with_reducible refine Touch.setCell ?_ _ (by omega) (by omega) _))) (by omega) (by omega)) hT3 (by go_size) (by omega)); have hbl := hT3.below w.heap.size w (by omega) (by go_size) (Touch.below (B := w.heap.size + 1 + 1) (o := 0) (n := 8) (w := W) (by repeat' (first | (with_reducible exact Touch.refl _ _ _ _) | (with_reducible assumption) | (with_reducible refine Touch.alloc ?_ _) | (with_reducible refine Touch.setCell ?_ _ (by omega) (by omega) _))) _ _ (by omega) (by omega) hbel); have hsz3 : w.heap.size + 1 + 1 + 1 ≤ W3.heap.size := Nat.le_trans (by go_size) hT3.size; clear hW3 hT3)
      | ((with_reducible refine is_loadT 51 rfl ?_); refine wpList_load_row rfl _ _ rfl _ _ rfl _ Try.underlying51 rfl _ hbx.out.1 (info51c _) ?_)
      | ((with_reducible refine is_storeT 51 rfl ?_); refine wpList_store_rowT rfl _ _ _ rfl _ _ _ rfl rfl (by rw [ct_size]; exact hrs.out) (info51c _) (ct_one _) ?_; intro W4 hW4 hT4))
    refine bodyPost_ret (results_row rfl _ _ _ _ _ _ rfl hW4 Try.underlying51 rfl (info51c _)) rfl ?_
    exact ⟨rfl, hT4.below _ _ (by omega) (by omega) hbl⟩
end Go.Proofs.Ytmoafjgogbcoeaa
