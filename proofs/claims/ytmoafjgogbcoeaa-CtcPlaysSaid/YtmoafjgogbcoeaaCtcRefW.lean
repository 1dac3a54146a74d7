/- charabancref23.Write by its contract. -/
import Derived.Test.YtmoafjgogbcoeaaCtcPlain
import Derived.Test.YtmoafjgogbcoeaaCtcRef1
namespace Go.Proofs.Ytmoafjgogbcoeaa
open Go.RowKit
set_option linter.unusedVariables false
set_option maxRecDepth 100000

theorem Touch.alloc {B o n : Nat} {w w' : World} (h : Touch B o n w w') (ob : Obj) : Touch B o n w (w'.alloc ob) :=
  ⟨by have := h.size; simp; omega, fun p hp hq => by rw [World.cell?_of_block (w := w') (Below.heap_alloc w' ob p.block (Nat.lt_of_lt_of_le hp h.size))]; exact h.cell p hp hq,
   fun p hp => by rw [World.frozen?_of_block (w := w') (Below.heap_alloc w' ob p.block (Nat.lt_of_lt_of_le hp h.size))]; exact h.frozen p hp,
   fun base A hb hs hB => (h.below base A hb hs hB).alloc (Nat.le_trans hs h.size) ob⟩
theorem ch_range0 {w : World} {B : Nat} {con cst cnt pre : Int} {runs waits wants pend : Bool} (c0 : w.cell? ⟨B, 0, none⟩ = some (.int .u8 con)) (c1 : w.cell? ⟨B, 1, none⟩ = some (.int .u8 cst)) (c2 : w.cell? ⟨B, 2, none⟩ = some (.int .i64 cnt)) (c3 : w.cell? ⟨B, 3, none⟩ = some (.int .i64 pre))
    (c4 : w.cell? ⟨B, 4, none⟩ = some (.bool runs)) (c5 : w.cell? ⟨B, 5, none⟩ = some (.bool waits)) (c6 : w.cell? ⟨B, 6, none⟩ = some (.bool wants)) (c7 : w.cell? ⟨B, 7, none⟩ = some (.bool pend)) : w.rangeAt B 0 (M.Ch.mk con cst cnt pre runs waits wants pend).a.toList := by
  refine ch_range c0 ?_ ?_ ?_ ?_ ?_ ?_ ?_ <;> rw [Nat.zero_add] <;> assumption
theorem ch_free0 {w : World} {B : Nat} (h : Free w B 0 8) : w.frozen? ⟨B, 0, none⟩ = false ∧ w.frozen? ⟨B, 1, none⟩ = false ∧ w.frozen? ⟨B, 2, none⟩ = false ∧ w.frozen? ⟨B, 3, none⟩ = false
    ∧ w.frozen? ⟨B, 4, none⟩ = false ∧ w.frozen? ⟨B, 5, none⟩ = false ∧ w.frozen? ⟨B, 6, none⟩ = false ∧ w.frozen? ⟨B, 7, none⟩ = false := by
  have := ch_free h
  simpa using this
theorem ct_same (c : M.Ct) (k : Nat) : c.set (c.at k) k = c := by
  rcases k with _ | _ | _ | k <;> rfl
theorem rwrite_out (c : M.Ct) (k b : Int) (hk : k < 0 ∨ 3 < k) (h0 : 0 ≤ b) (h1 : b ≤ 255) (w : World) : Calls Try.prog 33 #[.agg c.a, .int .i64 k, .int .u8 b] w fun e w' => e = .returned (.agg c.a) ∧ Below w.heap.size w w' := by
  obtain ⟨Z, hZs, hZ'⟩ := zero51
  have hZ := Lib.hid hZ'
  have hc := ct_size c
  clear hZ'
  rcases hk with hk | hk
  all_goals
    go_enter Try.func33, Try.ntmps33
    go_wp2_with (first
      | ((with_reducible refine is_allocT 51 rfl ?_); refine wpList_alloc_row rfl _ rfl Z hZ.out ?_)
      | ((with_reducible refine is_loadT 51 rfl ?_); refine wpList_load_row rfl _ _ rfl _ _ rfl _ Try.underlying51 rfl c.a (range_alloc (range_newA _ _ _) _) (info51c _) ?_)
      | ((with_reducible refine is_storeT 51 rfl ?_); refine wpList_store_rowT rfl _ _ _ rfl _ _ c.a rfl rfl (there_newB _ _ _ _ (by simp) (by rw [ct_size]; omega)) (info51c _) (ct_one _) ?_; intro W hW hT))
    refine bodyPost_ret (results_row rfl _ _ _ _ c.a _ rfl hW Try.underlying51 rfl (info51c _)) rfl ?_
    exact ⟨rfl, hT.below _ _ (by omega) (by simp; omega) (by go_grown)⟩
set_option maxHeartbeats 4000000 in
theorem rwrite_word (c : M.Ct) (hc : c.ok) (k : Nat) (hlt : k < 4) (b : Int) (h0 : 0 ≤ b) (h1 : b ≤ 255) (hw : (c.at k).wants = false) (hb : M.is b 0 = true) (w : World) : Calls Try.prog 33 #[.agg c.a, .int .i64 k, .int .u8 b] w fun e w' =>
    e = .returned (.agg (c.set (M.told (c.at k) b) k).a) ∧ Below w.heap.size w w' := by
  obtain ⟨Z, hZs, hZ'⟩ := zero51
  have hZ := Lib.hid hZ'
  obtain ⟨Z8, hZ8s, hZ8'⟩ := zero48
  have hZ8 := Lib.hid hZ8'
  clear hZ' hZ8'
  have hs := ct_size c
  have hlt' : (k : Int) < 4 := by omega
  have hlt0 : (0 : Int) ≤ (k : Int) := by omega
  have hkk : k * 8 = 8 * k := Nat.mul_comm _ _
  obtain ⟨X, hXd⟩ : ∃ X, X = c.at k := ⟨_, rfl⟩
  have hxok := M.at_ok hc k
  rw [← hXd] at hxok
  have hi0 := fun W => refis_any b 0 h0 h1 W
  rw [hb] at hi0
  rw [← hXd] at hw ⊢
  obtain ⟨con, cst, cnt, pre, runs, waits, wants, pend⟩ := X
  simp only at hw
  subst hw
  have hXD := Lib.hid hXd
  have Hi0 := Lib.hid hi0
  have hi2 := fun W => refis_any b 2 h0 h1 W
  have hi1 := fun W => refis_any b 1 h0 h1 W
  obtain ⟨q, hq⟩ : ∃ q, q = M.is b 2 := ⟨_, rfl⟩
  rw [← hq] at hi2
  clear hXd hi0 hb
  cases hst : M.is b 1 with
  | true =>
    have hX : M.told ⟨con, cst, cnt, pre, runs, waits, false, pend⟩ b = ⟨b, cst, cnt, pre, false, false, q, pend⟩ := by rw [hq]; simp [M.told, hst]
    rw [hX]
    rw [hst] at hi1
    have Hi1 := Lib.hid hi1
    have Hi2 := Lib.hid hi2
    clear hi1 hi2 hX hq hst
    go_enter Try.func33, Try.ntmps33
    go_wp2_with (first
      | ((with_reducible refine is_allocT 51 rfl ?_); refine wpList_alloc_row rfl _ rfl Z hZ.out ?_)
      | ((with_reducible refine is_allocT 48 rfl ?_); refine wpList_alloc_row rfl _ rfl Z8 hZ8.out ?_)
      | ((with_reducible refine is_loadT 48 rfl ?_); refine wpList_load_row rfl _ _ rfl _ _ rfl _ Try.underlying48 rfl (M.Ch.mk con cst cnt pre runs waits false pend).a (by rw [hXD.out]; exact ct_at ((ct_new _ _ _).alloc _).1 k hlt) (info48c _) ?_)
      | ((with_reducible refine is_storeT 48 rfl ?_); refine wpList_store_rowT rfl _ _ _ rfl _ _ (M.Ch.mk con cst cnt pre runs waits false pend).a rfl rfl (there_newB _ _ _ _ rfl (by rw [ch_size]; omega)) (info48c _) (ch_one _) ?_; intro W hW hT;
          have hf := Free.touch (free_new ((w.alloc (.cells c.a 51)).alloc (.cells Z 51)) Z8 48 8) hT (by simp); simp only [World.size_alloc] at hW hT hf; obtain ⟨c0, c1, c2, c3, c4, c5, c6, c7⟩ := ch_cells0 hW; obtain ⟨f0, f1, f2, f3, f4, f5, f6, f7⟩ := ch_free0 hf;
          have hbox := Lib.hid (CtAt.touch (((ct_new w c 51).alloc (.cells Z 51)).alloc (.cells Z8 48)) hT (by omega)); have hres := Lib.hid (there_touch (there_allocA (there_newB (b := w.heap.size + 1) (w.alloc (.cells c.a 51)) Z 51 33 (by simp) (by omega)) (.cells Z8 48)) hT (by simp) (by omega));
          have hbel := hT.below w.heap.size w (by omega) (by simp; omega) (by go_grown); have hsz : w.heap.size + 1 + 1 + 1 ≤ W.heap.size := Nat.le_trans (by simp) hT.size; clear hW hT hf))
    refine (Hi0.out _).mono ?_
    rintro e w1 ⟨rfl, rfl⟩
    go_wp2_with fail
    refine (Hi1.out _).mono ?_
    rintro e w1 ⟨rfl, rfl⟩
    go_wp2_with fail
    refine (Hi2.out _).mono ?_
    rintro e w1 ⟨rfl, rfl⟩
    go_wp2_with (first
      | ((with_reducible refine is_loadT 48 rfl ?_); refine wpList_load_row rfl _ _ rfl _ _ rfl _ Try.underlying48 rfl (M.Ch.mk b cst cnt pre false false q pend).a (ch_range0 (by go_cell) (by go_cell) (by go_cell) (by go_cell) (by go_cell) (by go_cell) (by go_cell) (by go_cell)) (info48c _) ?_)
      | ((with_reducible refine is_storeT 48 rfl ?_); refine wpList_store_rowT rfl _ _ _ rfl _ (8 * k) (M.Ch.mk b cst cnt pre false false q pend).a rfl rfl (by rw [ch_size]; exact there_of (ct_at (CtAt.touch (b := w.heap.size + 1 + 1) (o := 0) (n := 8) hbox.out (by repeat' (first | (with_reducible exact Touch.refl _ _ _ _) | (with_reducible refine Touch.alloc ?_ _) | (with_reducible refine Touch.setCell ?_ _ (by omega) (by omega) _))) (by omega)).1 k hlt) ((CtAt.touch (b := w.heap.size + 1 + 1) (o := 0) (n := 8) hbox.out (by repeat' (first | (with_reducible exact Touch.refl _ _ _ _) | (with_reducible refine Touch.alloc ?_ _) | (with_reducible refine Touch.setCell ?_ _ (by omega) (by omega) _))) (by omega)).2.1.part _ _ (by omega) (by omega)) (Nat.le_refl _)) (info48c _) (ch_one _) ?_;
          intro W3 hW3 hT3; rw [ch_size] at hT3; have hbx := Lib.hid (ct_turn (CtAt.touch (b := w.heap.size + 1 + 1) (o := 0) (n := 8) hbox.out (by repeat' (first | (with_reducible exact Touch.refl _ _ _ _) | (with_reducible refine Touch.alloc ?_ _) | (with_reducible refine Touch.setCell ?_ _ (by omega) (by omega) _))) (by omega)) k hlt hW3 hT3).1; have hrs := Lib.hid (there_touch (there_touch (B := w.heap.size + 1 + 1) (o := 0) (n := 8) hres.out (by repeat' (first | (with_reducible exact Touch.refl _ _ _ _) | (with_reducible refine Touch.alloc ?_ _) | (with_reducible refine Touch.setCell ?_ _ (by omega) (by omega) _))) (by omega) (by omega)) hT3 (by go_size) (by omega)); have hbl := hT3.below w.heap.size w (by omega) (by go_size) (Touch.below (B := w.heap.size + 1 + 1) (o := 0) (n := 8) (w := W) (by repeat' (first | (with_reducible exact Touch.refl _ _ _ _) | (with_reducible refine Touch.alloc ?_ _) | (with_reducible refine Touch.setCell ?_ _ (by omega) (by omega) _))) _ _ (by omega) (by omega) hbel); have hsz3 : w.heap.size + 1 + 1 + 1 ≤ W3.heap.size := Nat.le_trans (by go_size) hT3.size; clear hW3 hT3)
      | ((with_reducible refine is_loadT 51 rfl ?_); refine wpList_load_row rfl _ _ rfl _ _ rfl _ Try.underlying51 rfl _ hbx.out.1 (info51c _) ?_)
      | ((with_reducible refine is_storeT 51 rfl ?_); refine wpList_store_rowT rfl _ _ _ rfl _ _ _ rfl rfl (by rw [ct_size]; exact hrs.out) (info51c _) (ct_one _) ?_; intro W4 hW4 hT4))
    refine bodyPost_ret (results_row rfl _ _ _ _ _ _ rfl hW4 Try.underlying51 rfl (info51c _)) rfl ?_
    exact ⟨rfl, hT4.below _ _ (by omega) (by omega) hbl⟩
  | false =>
    have hX : M.told ⟨con, cst, cnt, pre, runs, waits, false, pend⟩ b = ⟨b, cst, cnt, pre, runs, waits, q, pend⟩ := by rw [hq]; simp [M.told, hst]
    rw [hX]
    rw [hst] at hi1
    have Hi1 := Lib.hid hi1
    have Hi2 := Lib.hid hi2
    clear hi1 hi2 hX hq hst
    go_enter Try.func33, Try.ntmps33
    go_wp2_with (first
      | ((with_reducible refine is_allocT 51 rfl ?_); refine wpList_alloc_row rfl _ rfl Z hZ.out ?_)
      | ((with_reducible refine is_allocT 48 rfl ?_); refine wpList_alloc_row rfl _ rfl Z8 hZ8.out ?_)
      | ((with_reducible refine is_loadT 48 rfl ?_); refine wpList_load_row rfl _ _ rfl _ _ rfl _ Try.underlying48 rfl (M.Ch.mk con cst cnt pre runs waits false pend).a (by rw [hXD.out]; exact ct_at ((ct_new _ _ _).alloc _).1 k hlt) (info48c _) ?_)
      | ((with_reducible refine is_storeT 48 rfl ?_); refine wpList_store_rowT rfl _ _ _ rfl _ _ (M.Ch.mk con cst cnt pre runs waits false pend).a rfl rfl (there_newB _ _ _ _ rfl (by rw [ch_size]; omega)) (info48c _) (ch_one _) ?_; intro W hW hT;
          have hf := Free.touch (free_new ((w.alloc (.cells c.a 51)).alloc (.cells Z 51)) Z8 48 8) hT (by simp); simp only [World.size_alloc] at hW hT hf; obtain ⟨c0, c1, c2, c3, c4, c5, c6, c7⟩ := ch_cells0 hW; obtain ⟨f0, f1, f2, f3, f4, f5, f6, f7⟩ := ch_free0 hf;
          have hbox := Lib.hid (CtAt.touch (((ct_new w c 51).alloc (.cells Z 51)).alloc (.cells Z8 48)) hT (by omega)); have hres := Lib.hid (there_touch (there_allocA (there_newB (b := w.heap.size + 1) (w.alloc (.cells c.a 51)) Z 51 33 (by simp) (by omega)) (.cells Z8 48)) hT (by simp) (by omega));
          have hbel := hT.below w.heap.size w (by omega) (by simp; omega) (by go_grown); have hsz : w.heap.size + 1 + 1 + 1 ≤ W.heap.size := Nat.le_trans (by simp) hT.size; clear hW hT hf))
    refine (Hi0.out _).mono ?_
    rintro e w1 ⟨rfl, rfl⟩
    go_wp2_with fail
    refine (Hi1.out _).mono ?_
    rintro e w1 ⟨rfl, rfl⟩
    go_wp2_with fail
    refine (Hi2.out _).mono ?_
    rintro e w1 ⟨rfl, rfl⟩
    go_wp2_with (first
      | ((with_reducible refine is_loadT 48 rfl ?_); refine wpList_load_row rfl _ _ rfl _ _ rfl _ Try.underlying48 rfl (M.Ch.mk b cst cnt pre runs waits q pend).a (ch_range0 (by go_cell) (by go_cell) (by go_cell) (by go_cell) (by go_cell) (by go_cell) (by go_cell) (by go_cell)) (info48c _) ?_)
      | ((with_reducible refine is_storeT 48 rfl ?_); refine wpList_store_rowT rfl _ _ _ rfl _ (8 * k) (M.Ch.mk b cst cnt pre runs waits q pend).a rfl rfl (by rw [ch_size]; exact there_of (ct_at (CtAt.touch (b := w.heap.size + 1 + 1) (o := 0) (n := 8) hbox.out (by repeat' (first | (with_reducible exact Touch.refl _ _ _ _) | (with_reducible refine Touch.alloc ?_ _) | (with_reducible refine Touch.setCell ?_ _ (by omega) (by omega) _))) (by omega)).1 k hlt) ((CtAt.touch (b := w.heap.size + 1 + 1) (o := 0) (n := 8) hbox.out (by repeat' (first | (with_reducible exact Touch.refl _ _ _ _) | (with_reducible refine Touch.alloc ?_ _) | (with_reducible refine Touch.setCell ?_ _ (by omega) (by omega) _))) (by omega)).2.1.part _ _ (by omega) (by omega)) (Nat.le_refl _)) (info48c _) (ch_one _) ?_;
          intro W3 hW3 hT3; rw [ch_size] at hT3; have hbx := Lib.hid (ct_turn (CtAt.touch (b := w.heap.size + 1 + 1) (o := 0) (n := 8) hbox.out (by repeat' (first | (with_reducible exact Touch.refl _ _ _ _) | (with_reducible refine Touch.alloc ?_ _) | (with_reducible refine Touch.setCell ?_ _ (by omega) (by omega) _))) (by omega)) k hlt hW3 hT3).1; have hrs := Lib.hid (there_touch (there_touch (B := w.heap.size + 1 + 1) (o := 0) (n := 8) hres.out (by repeat' (first | (with_reducible exact Touch.refl _ _ _ _) | (with_reducible refine Touch.alloc ?_ _) | (with_reducible refine Touch.setCell ?_ _ (by omega) (by omega) _))) (by omega) (by omega)) hT3 (by go_size) (by omega)); have hbl := hT3.below w.heap.size w (by omega) (by go_size) (Touch.below (B := w.heap.size + 1 + 1) (o := 0) (n := 8) (w := W) (by repeat' (first | (with_reducible exact Touch.refl _ _ _ _) | (with_reducible refine Touch.alloc ?_ _) | (with_reducible refine Touch.setCell ?_ _ (by omega) (by omega) _))) _ _ (by omega) (by omega) hbel); have hsz3 : w.heap.size + 1 + 1 + 1 ≤ W3.heap.size := Nat.le_trans (by go_size) hT3.size; clear hW3 hT3)
      | ((with_reducible refine is_loadT 51 rfl ?_); refine wpList_load_row rfl _ _ rfl _ _ rfl _ Try.underlying51 rfl _ hbx.out.1 (info51c _) ?_)
      | ((with_reducible refine is_storeT 51 rfl ?_); refine wpList_store_rowT rfl _ _ _ rfl _ _ _ rfl rfl (by rw [ct_size]; exact hrs.out) (info51c _) (ct_one _) ?_; intro W4 hW4 hT4))
    refine bodyPost_ret (results_row rfl _ _ _ _ _ _ rfl hW4 Try.underlying51 rfl (info51c _)) rfl ?_
    exact ⟨rfl, hT4.below _ _ (by omega) (by omega) hbl⟩
set_option maxHeartbeats 4000000 in
theorem rwrite_none (c : M.Ct) (hc : c.ok) (k : Nat) (hlt : k < 4) (hk0 : k ≠ 0) (b : Int) (h0 : 0 ≤ b) (h1 : b ≤ 255) (hw : (c.at k).wants = false) (hb : M.is b 0 = false) (w : World) : Calls Try.prog 33 #[.agg c.a, .int .i64 k, .int .u8 b] w fun e w' =>
    e = .returned (.agg (c.set (c.at k) k).a) ∧ Below w.heap.size w w' := by
  obtain ⟨Z, hZs, hZ'⟩ := zero51
  have hZ := Lib.hid hZ'
  obtain ⟨Z8, hZ8s, hZ8'⟩ := zero48
  have hZ8 := Lib.hid hZ8'
  clear hZ' hZ8'
  have hs := ct_size c
  have hlt' : (k : Int) < 4 := by omega
  have hlt0 : (0 : Int) ≤ (k : Int) := by omega
  have hkk : k * 8 = 8 * k := Nat.mul_comm _ _
  obtain ⟨X, hXd⟩ : ∃ X, X = c.at k := ⟨_, rfl⟩
  have hxok := M.at_ok hc k
  rw [← hXd] at hxok
  have hi0 := fun W => refis_any b 0 h0 h1 W
  have hk0' : ¬ (k : Int) = 0 := by omega
  rw [hb] at hi0
  rw [← hXd] at hw ⊢
  obtain ⟨con, cst, cnt, pre, runs, waits, wants, pend⟩ := X
  simp only at hw
  subst hw
  have hXD := Lib.hid hXd
  have Hi0 := Lib.hid hi0
  clear hXd hi0 hb
  · go_enter Try.func33, Try.ntmps33
    go_wp2_with (first
      | ((with_reducible refine is_allocT 51 rfl ?_); refine wpList_alloc_row rfl _ rfl Z hZ.out ?_)
      | ((with_reducible refine is_allocT 48 rfl ?_); refine wpList_alloc_row rfl _ rfl Z8 hZ8.out ?_)
      | ((with_reducible refine is_loadT 48 rfl ?_); refine wpList_load_row rfl _ _ rfl _ _ rfl _ Try.underlying48 rfl (M.Ch.mk con cst cnt pre runs waits false pend).a (by rw [hXD.out]; exact ct_at ((ct_new _ _ _).alloc _).1 k hlt) (info48c _) ?_)
      | ((with_reducible refine is_storeT 48 rfl ?_); refine wpList_store_rowT rfl _ _ _ rfl _ _ (M.Ch.mk con cst cnt pre runs waits false pend).a rfl rfl (there_newB _ _ _ _ rfl (by rw [ch_size]; omega)) (info48c _) (ch_one _) ?_; intro W hW hT;
          have hf := Free.touch (free_new ((w.alloc (.cells c.a 51)).alloc (.cells Z 51)) Z8 48 8) hT (by simp); simp only [World.size_alloc] at hW hT hf; obtain ⟨c0, c1, c2, c3, c4, c5, c6, c7⟩ := ch_cells0 hW; obtain ⟨f0, f1, f2, f3, f4, f5, f6, f7⟩ := ch_free0 hf;
          have hbox := Lib.hid (CtAt.touch (((ct_new w c 51).alloc (.cells Z 51)).alloc (.cells Z8 48)) hT (by omega)); have hres := Lib.hid (there_touch (there_allocA (there_newB (b := w.heap.size + 1) (w.alloc (.cells c.a 51)) Z 51 33 (by simp) (by omega)) (.cells Z8 48)) hT (by simp) (by omega));
          have hbel := hT.below w.heap.size w (by omega) (by simp; omega) (by go_grown); have hsz : w.heap.size + 1 + 1 + 1 ≤ W.heap.size := Nat.le_trans (by simp) hT.size; clear hW hT hf))
    refine (Hi0.out _).mono ?_
    rintro e w1 ⟨rfl, rfl⟩
    go_wp2_with (first
      | ((with_reducible refine is_loadT 48 rfl ?_); refine wpList_load_row rfl _ _ rfl _ _ rfl _ Try.underlying48 rfl (M.Ch.mk con cst cnt pre runs waits false pend).a (ch_range0 (by go_cell) (by go_cell) (by go_cell) (by go_cell) (by go_cell) (by go_cell) (by go_cell) (by go_cell)) (info48c _) ?_)
      | ((with_reducible refine is_storeT 48 rfl ?_); refine wpList_store_rowT rfl _ _ _ rfl _ (8 * k) (M.Ch.mk con cst cnt pre runs waits false pend).a rfl rfl (by rw [ch_size]; exact there_of (ct_at (CtAt.touch (b := w.heap.size + 1 + 1) (o := 0) (n := 8) hbox.out (by repeat' (first | (with_reducible exact Touch.refl _ _ _ _) | (with_reducible refine Touch.alloc ?_ _) | (with_reducible refine Touch.setCell ?_ _ (by omega) (by omega) _))) (by omega)).1 k hlt) ((CtAt.touch (b := w.heap.size + 1 + 1) (o := 0) (n := 8) hbox.out (by repeat' (first | (with_reducible exact Touch.refl _ _ _ _) | (with_reducible refine Touch.alloc ?_ _) | (with_reducible refine Touch.setCell ?_ _ (by omega) (by omega) _))) (by omega)).2.1.part _ _ (by omega) (by omega)) (Nat.le_refl _)) (info48c _) (ch_one _) ?_;
          intro W3 hW3 hT3; rw [ch_size] at hT3; have hbx := Lib.hid (ct_turn (CtAt.touch (b := w.heap.size + 1 + 1) (o := 0) (n := 8) hbox.out (by repeat' (first | (with_reducible exact Touch.refl _ _ _ _) | (with_reducible refine Touch.alloc ?_ _) | (with_reducible refine Touch.setCell ?_ _ (by omega) (by omega) _))) (by omega)) k hlt hW3 hT3).1; have hrs := Lib.hid (there_touch (there_touch (B := w.heap.size + 1 + 1) (o := 0) (n := 8) hres.out (by repeat' (first | (with_reducible exact Touch.refl _ _ _ _) | (with_reducible refine Touch.alloc ?_ _) | (with_reducible refine Touch.setCell ?_ _ (by omega) (by omega) _))) (by omega) (by omega)) hT3 (by go_size) (by omega)); have hbl := hT3.below w.heap.size w (by omega) (by go_size) (Touch.below (B := w.heap.size + 1 + 1) (o := 0) (n := 8) (w := W) (by repeat' (first | (with_reducible exact Touch.refl _ _ _ _) | (with_reducible refine Touch.alloc ?_ _) | (with_reducible refine Touch.setCell ?_ _ (by omega) (by omega) _))) _ _ (by omega) (by omega) hbel); have hsz3 : w.heap.size + 1 + 1 + 1 ≤ W3.heap.size := Nat.le_trans (by go_size) hT3.size; clear hW3 hT3)
      | ((with_reducible refine is_loadT 51 rfl ?_); refine wpList_load_row rfl _ _ rfl _ _ rfl _ Try.underlying51 rfl _ hbx.out.1 (info51c _) ?_)
      | ((with_reducible refine is_storeT 51 rfl ?_); refine wpList_store_rowT rfl _ _ _ rfl _ _ _ rfl rfl (by rw [ct_size]; exact hrs.out) (info51c _) (ct_one _) ?_; intro W4 hW4 hT4))
    refine bodyPost_ret (results_row rfl _ _ _ _ _ _ rfl hW4 Try.underlying51 rfl (info51c _)) rfl ?_
    exact ⟨rfl, hT4.below _ _ (by omega) (by omega) hbl⟩
end Go.Proofs.Ytmoafjgogbcoeaa
