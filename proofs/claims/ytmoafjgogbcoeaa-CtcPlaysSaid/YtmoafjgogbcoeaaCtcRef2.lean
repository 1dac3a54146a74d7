/- The reference's step of a counter (charabancref23.tick) by its contract. -/
import Derived.Test.YtmoafjgogbcoeaaCtcRef1
namespace Go.Proofs.Ytmoafjgogbcoeaa
open Go.RowKit
set_option linter.unusedVariables false
set_option maxRecDepth 100000


set_option maxHeartbeats 4000000 in
theorem rtick_any (x : M.Ch) (e : Bool) (hx : x.ok) (w : World) : Calls Try.prog 69 #[.agg x.a, .bool e] w fun e' w' => e' = .returned (.tuple #[.agg (M.tickX x e).a, .bool (M.tickZ x e)]) ∧ Below w.heap.size w w' := by
  obtain ⟨con, cst, cnt, pre, runs, waits, wants, pend⟩ := x
  obtain ⟨Z, hZs, hZ'⟩ := zero48
  have hZ := Lib.hid hZ'
  clear hZ'
  have hx0 : M.Ch.ok ⟨con, cst, cnt, 0, runs, waits, wants, pend⟩ := ⟨hx.1, hx.2.1, hx.2.2.1, by simp⟩
  have hx1 := hx
  obtain ⟨⟨a1, a2⟩, ⟨a3, a4⟩, ⟨a5, a6⟩, ⟨a7, a8⟩⟩ := hx
  simp only at a1 a2 a3 a4 a5 a6 a7 a8
  have ha : (M.Ch.mk con cst cnt pre runs waits wants pend).a = #[.int .u8 con, .int .u8 cst, .int .i64 cnt, .int .i64 pre, .bool runs, .bool waits, .bool wants, .bool pend] := rfl
  have h6 := fun W => rhas_any ⟨con, cst, cnt, pre, runs, waits, wants, pend⟩ 6 a1 a2 W
  have h5 := fun y W => rhas_any ⟨con, cst, cnt, y, runs, waits, wants, pend⟩ 5 a1 a2 W
  simp only at h6 h5
  cases hwe : (waits && e) with
  | true =>
    have e1 : M.tickX ⟨con, cst, cnt, pre, runs, waits, wants, pend⟩ e = ⟨con, cst, cnt, pre, true, false, wants, pend⟩ := by simp only [M.tickX, hwe, if_true]
    have e2 : M.tickZ ⟨con, cst, cnt, pre, runs, waits, wants, pend⟩ e = false := by simp only [M.tickZ, hwe, if_true]
    rw [e1, e2, ha]
    simp only [Bool.and_eq_true] at hwe
    obtain ⟨rfl, rfl⟩ := hwe
    clear e1 e2 ha h6 h5
    go_enter Try.func69, Try.ntmps69
    go_wp2_with (first | ((with_reducible refine is_allocT 48 rfl ?_); refine wpList_alloc_row rfl _ rfl Z hZ.out ?_) | ((with_reducible refine is_loadT 48 rfl ?_); refine wpList_load_row rfl _ _ rfl _ _ rfl _ Try.underlying48 rfl _ (by repeat' first | (with_reducible assumption) | (with_reducible exact range_newA _ _ _) | (with_reducible refine range_alloc ?_ _)) info48 ?_) | ((with_reducible refine is_storeT 48 rfl ?_); refine wpList_store_rowT rfl _ _ _ rfl _ _ _ rfl rfl (by repeat' (first | (refine there_newB _ _ _ _ ?_ ?_ <;> first | (simp; done) | (simp [hZs]; done)) | refine there_allocA ?_ _)) info48 (by simp [Value.oneCell']) ?_; intro W hW hT))
    refine bodyPost_ret (results_row_tmp rfl _ _ _ _ _ _ rfl hW Try.underlying48 rfl info48) rfl ?_
    exact ⟨rfl, hT.below _ _ (by omega) (by simp; omega) (by go_grown)⟩
  | false =>
    have hwe3 : (waits = false ∧ e = false) ∨ (waits = false ∧ e = true) ∨ (waits = true ∧ e = false) := by revert hwe; cases waits <;> cases e <;> simp
    clear hwe
    cases runs with
    | false =>
      clear h6 h5
      rcases hwe3 with ⟨rfl, rfl⟩ | ⟨rfl, rfl⟩ | ⟨rfl, rfl⟩
      all_goals
        rw [ha]
        clear ha
        go_enter Try.func69, Try.ntmps69
        go_wp2_with (first | ((with_reducible refine is_allocT 48 rfl ?_); refine wpList_alloc_row rfl _ rfl Z hZ.out ?_) | ((with_reducible refine is_loadT 48 rfl ?_); refine wpList_load_row rfl _ _ rfl _ _ rfl _ Try.underlying48 rfl _ (by repeat' first | (with_reducible assumption) | (with_reducible exact range_newA _ _ _) | (with_reducible refine range_alloc ?_ _)) info48 ?_) | ((with_reducible refine is_storeT 48 rfl ?_); refine wpList_store_rowT rfl _ _ _ rfl _ _ _ rfl rfl (by repeat' (first | (refine there_newB _ _ _ _ ?_ ?_ <;> first | (simp; done) | (simp [hZs]; done)) | refine there_allocA ?_ _)) info48 (by simp [Value.oneCell']) ?_; intro W hW hT))
        refine bodyPost_ret (results_row_tmp rfl _ _ _ _ _ _ rfl hW Try.underlying48 rfl info48) rfl ?_
        exact ⟨rfl, hT.below _ _ (by omega) (by simp; omega) (by go_grown)⟩
    | true =>
      cases c6 : M.is con 6 with
      | true =>
        rw [c6] at h6
        have H6 := Lib.hid h6
        have hD := Lib.hid (rdown_any ⟨con, cst, cnt, pre, true, waits, wants, pend⟩ hx1)
        have hX : M.tickX ⟨con, cst, cnt, pre, true, waits, wants, pend⟩ e = bif e then M.downX ⟨con, cst, cnt, pre, true, waits, wants, pend⟩ else ⟨con, cst, cnt, pre, true, waits, wants, pend⟩ := by
          rcases hwe3 with ⟨rfl, rfl⟩ | ⟨rfl, rfl⟩ | ⟨rfl, rfl⟩ <;> simp [M.tickX, c6]
        have hZ2 : M.tickZ ⟨con, cst, cnt, pre, true, waits, wants, pend⟩ e = bif e then M.downZ ⟨con, cst, cnt, pre, true, waits, wants, pend⟩ else false := by
          rcases hwe3 with ⟨rfl, rfl⟩ | ⟨rfl, rfl⟩ | ⟨rfl, rfl⟩ <;> simp [M.tickZ, c6]
        rw [hX, hZ2]
        clear hX hZ2 h5 h6 c6
        rcases hwe3 with ⟨rfl, rfl⟩ | ⟨rfl, rfl⟩ | ⟨rfl, rfl⟩
        all_goals simp only [cond_true, cond_false]
        all_goals rw [ha]
        all_goals clear ha
        · go_enter Try.func69, Try.ntmps69
          go_wp2_with (first | ((with_reducible refine is_allocT 48 rfl ?_); refine wpList_alloc_row rfl _ rfl Z hZ.out ?_) | ((with_reducible refine is_loadT 48 rfl ?_); refine wpList_load_row rfl _ _ rfl _ _ rfl _ Try.underlying48 rfl _ (by repeat' first | (with_reducible assumption) | (with_reducible exact range_newA _ _ _) | (with_reducible refine range_alloc ?_ _)) info48 ?_) | (go_at_call 67; refine (H6.out _).mono ?_; rintro e w1 ⟨rfl, rfl⟩) | ((with_reducible refine is_storeT 48 rfl ?_); refine wpList_store_rowT rfl _ _ _ rfl _ _ _ rfl rfl (by repeat' (first | (refine there_newB _ _ _ _ ?_ ?_ <;> first | (simp; done) | (simp [hZs]; done)) | refine there_allocA ?_ _)) info48 (by simp [Value.oneCell']) ?_; intro W hW hT))
          refine bodyPost_ret (results_row_tmp rfl _ _ _ _ _ _ rfl hW Try.underlying48 rfl info48) rfl ?_
          exact ⟨rfl, hT.below _ _ (by omega) (by simp; omega) (by go_grown)⟩
        · go_enter Try.func69, Try.ntmps69
          go_wp2_with (first | ((with_reducible refine is_allocT 48 rfl ?_); refine wpList_alloc_row rfl _ rfl Z hZ.out ?_) | ((with_reducible refine is_loadT 48 rfl ?_); refine wpList_load_row rfl _ _ rfl _ _ rfl _ Try.underlying48 rfl _ (by repeat' first | (with_reducible assumption) | (with_reducible exact range_newA _ _ _) | (with_reducible refine range_alloc ?_ _)) info48 ?_) | (go_at_call 67; refine (H6.out _).mono ?_; rintro e w1 ⟨rfl, rfl⟩))
          refine (hD.out _).mono ?_
          rintro e w1 ⟨rfl, hb1⟩
          go_wp2_with ((with_reducible refine is_storeT 48 rfl ?_); refine wpList_store_rowT rfl _ _ _ rfl _ _ _ rfl rfl (there_belowA (by repeat' (first | (refine there_newB _ _ _ _ ?_ ?_ <;> first | (simp; done) | (simp [hZs]; done) | (rw [ch_size]; simp [hZs]; done)) | refine there_allocA ?_ _)) hb1 (by simp)) (info48c _) (ch_one _) ?_; intro W hW hT)
          refine bodyPost_ret (results_row_tmp rfl _ _ _ _ _ _ rfl hW Try.underlying48 rfl (info48c _)) rfl ?_
          exact ⟨rfl, hT.below _ _ (by omega) (by have := hb1.size; simp at this; omega) (Below.trans (by go_grown) (hb1.mono (by simp; omega)))⟩
        · go_enter Try.func69, Try.ntmps69
          go_wp2_with (first | ((with_reducible refine is_allocT 48 rfl ?_); refine wpList_alloc_row rfl _ rfl Z hZ.out ?_) | ((with_reducible refine is_loadT 48 rfl ?_); refine wpList_load_row rfl _ _ rfl _ _ rfl _ Try.underlying48 rfl _ (by repeat' first | (with_reducible assumption) | (with_reducible exact range_newA _ _ _) | (with_reducible refine range_alloc ?_ _)) info48 ?_) | (go_at_call 67; refine (H6.out _).mono ?_; rintro e w1 ⟨rfl, rfl⟩) | ((with_reducible refine is_storeT 48 rfl ?_); refine wpList_store_rowT rfl _ _ _ rfl _ _ _ rfl rfl (by repeat' (first | (refine there_newB _ _ _ _ ?_ ?_ <;> first | (simp; done) | (simp [hZs]; done)) | refine there_allocA ?_ _)) info48 (by simp [Value.oneCell']) ?_; intro W hW hT))
          refine bodyPost_ret (results_row_tmp rfl _ _ _ _ _ _ rfl hW Try.underlying48 rfl info48) rfl ?_
          exact ⟨rfl, hT.below _ _ (by omega) (by simp; omega) (by go_grown)⟩
      | false =>
        rw [c6] at h6
        have H6 := Lib.hid h6
        clear h6
        cases c5 : M.is con 5 with
        | true =>
          rw [c5] at h5
          have H5 := Lib.hid h5
          clear h5
          have hs : M.scale ⟨con, cst, cnt, pre, true, waits, wants, pend⟩ = 256 := by simp [M.scale, c5]
          by_cases hlt : wrap64 (pre + 1) < 256
          · have hX : M.tickX ⟨con, cst, cnt, pre, true, waits, wants, pend⟩ e = ⟨con, cst, cnt, wrap64 (pre + 1), true, waits, wants, pend⟩ := by
              rcases hwe3 with ⟨rfl, rfl⟩ | ⟨rfl, rfl⟩ | ⟨rfl, rfl⟩ <;> simp [M.tickX, c6, hs, hlt]
            have hZ2 : M.tickZ ⟨con, cst, cnt, pre, true, waits, wants, pend⟩ e = false := by
              rcases hwe3 with ⟨rfl, rfl⟩ | ⟨rfl, rfl⟩ | ⟨rfl, rfl⟩ <;> simp [M.tickZ, c6, hs, hlt]
            rw [hX, hZ2, ha]
            clear hX hZ2 hs c5 c6 ha
            rcases hwe3 with ⟨rfl, rfl⟩ | ⟨rfl, rfl⟩ | ⟨rfl, rfl⟩
            all_goals
              go_enter Try.func69, Try.ntmps69
              go_wp2_with (first | ((with_reducible refine is_allocT 48 rfl ?_); refine wpList_alloc_row rfl _ rfl Z hZ.out ?_) | ((with_reducible refine is_loadT 48 rfl ?_); refine wpList_load_row rfl _ _ rfl _ _ rfl _ Try.underlying48 rfl _ (by repeat' first | (with_reducible assumption) | (with_reducible exact range_newA _ _ _) | (with_reducible refine range_alloc ?_ _)) info48 ?_))
              refine (H6.out _).mono ?_
              rintro e w1 ⟨rfl, rfl⟩
              go_wp2_with ((with_reducible refine is_loadT 48 rfl ?_); refine wpList_load_row rfl _ _ rfl _ _ rfl _ Try.underlying48 rfl _ (by repeat' first | (with_reducible assumption) | (with_reducible exact range_newA _ _ _) | (with_reducible refine range_alloc ?_ _)) info48 ?_)
              refine (H5.out _ _).mono ?_
              rintro e w1 ⟨rfl, rfl⟩
              go_wp2_with (first | ((with_reducible refine is_loadT 48 rfl ?_); refine wpList_load_row rfl _ _ rfl _ _ rfl _ Try.underlying48 rfl _ (by repeat' first | (with_reducible assumption) | (with_reducible exact range_newA _ _ _) | (with_reducible refine range_alloc ?_ _)) info48 ?_) | ((with_reducible refine is_storeT 48 rfl ?_); refine wpList_store_rowT rfl _ _ _ rfl _ _ _ rfl rfl (by repeat' (first | (refine there_newB _ _ _ _ ?_ ?_ <;> first | (simp; done) | (simp [hZs]; done)) | refine there_allocA ?_ _)) info48 (by simp [Value.oneCell']) ?_; intro W hW hT))
              refine bodyPost_ret (results_row_tmp rfl _ _ _ _ _ _ rfl hW Try.underlying48 rfl info48) rfl ?_
              exact ⟨rfl, hT.below _ _ (by omega) (by simp; omega) (by go_grown)⟩
          · have hD := Lib.hid (rdown_any ⟨con, cst, cnt, 0, true, waits, wants, pend⟩ hx0)
            have hX : M.tickX ⟨con, cst, cnt, pre, true, waits, wants, pend⟩ e = M.downX ⟨con, cst, cnt, 0, true, waits, wants, pend⟩ := by
              rcases hwe3 with ⟨rfl, rfl⟩ | ⟨rfl, rfl⟩ | ⟨rfl, rfl⟩ <;> simp [M.tickX, c6, hs, hlt]
            have hZ2 : M.tickZ ⟨con, cst, cnt, pre, true, waits, wants, pend⟩ e = M.downZ ⟨con, cst, cnt, 0, true, waits, wants, pend⟩ := by
              rcases hwe3 with ⟨rfl, rfl⟩ | ⟨rfl, rfl⟩ | ⟨rfl, rfl⟩ <;> simp [M.tickZ, c6, hs, hlt]
            rw [hX, hZ2, ha]
            clear hX hZ2 hs c5 c6 ha
            rcases hwe3 with ⟨rfl, rfl⟩ | ⟨rfl, rfl⟩ | ⟨rfl, rfl⟩
            all_goals
              go_enter Try.func69, Try.ntmps69
              go_wp2_with (first | ((with_reducible refine is_allocT 48 rfl ?_); refine wpList_alloc_row rfl _ rfl Z hZ.out ?_) | ((with_reducible refine is_loadT 48 rfl ?_); refine wpList_load_row rfl _ _ rfl _ _ rfl _ Try.underlying48 rfl _ (by repeat' first | (with_reducible assumption) | (with_reducible exact range_newA _ _ _) | (with_reducible refine range_alloc ?_ _)) info48 ?_))
              refine (H6.out _).mono ?_
              rintro e w1 ⟨rfl, rfl⟩
              go_wp2_with ((with_reducible refine is_loadT 48 rfl ?_); refine wpList_load_row rfl _ _ rfl _ _ rfl _ Try.underlying48 rfl _ (by repeat' first | (with_reducible assumption) | (with_reducible exact range_newA _ _ _) | (with_reducible refine range_alloc ?_ _)) info48 ?_)
              refine (H5.out _ _).mono ?_
              rintro e w1 ⟨rfl, rfl⟩
              go_wp2_with ((with_reducible refine is_loadT 48 rfl ?_); refine wpList_load_row rfl _ _ rfl _ _ rfl _ Try.underlying48 rfl _ (by repeat' first | (with_reducible assumption) | (with_reducible exact range_newA _ _ _) | (with_reducible refine range_alloc ?_ _)) info48 ?_)
              refine (hD.out _).mono ?_
              rintro e w1 ⟨rfl, hb1⟩
              go_wp2_with ((with_reducible refine is_storeT 48 rfl ?_); refine wpList_store_rowT rfl _ _ _ rfl _ _ _ rfl rfl (there_belowA (by repeat' (first | (refine there_newB _ _ _ _ ?_ ?_ <;> first | (simp; done) | (simp [hZs]; done) | (rw [ch_size]; simp [hZs]; done)) | refine there_allocA ?_ _)) hb1 (by simp)) (info48c _) (ch_one _) ?_; intro W hW hT)
              refine bodyPost_ret (results_row_tmp rfl _ _ _ _ _ _ rfl hW Try.underlying48 rfl (info48c _)) rfl ?_
              exact ⟨rfl, hT.below _ _ (by omega) (by have := hb1.size; simp at this; omega) (Below.trans (by go_grown) (hb1.mono (by simp; omega)))⟩
        | false =>
          rw [c5] at h5
          have H5 := Lib.hid h5
          clear h5
          have hs : M.scale ⟨con, cst, cnt, pre, true, waits, wants, pend⟩ = 16 := by simp [M.scale, c5]
          by_cases hlt : wrap64 (pre + 1) < 16
          · have hX : M.tickX ⟨con, cst, cnt, pre, true, waits, wants, pend⟩ e = ⟨con, cst, cnt, wrap64 (pre + 1), true, waits, wants, pend⟩ := by
              rcases hwe3 with ⟨rfl, rfl⟩ | ⟨rfl, rfl⟩ | ⟨rfl, rfl⟩ <;> simp [M.tickX, c6, hs, hlt]
            have hZ2 : M.tickZ ⟨con, cst, cnt, pre, true, waits, wants, pend⟩ e = false := by
              rcases hwe3 with ⟨rfl, rfl⟩ | ⟨rfl, rfl⟩ | ⟨rfl, rfl⟩ <;> simp [M.tickZ, c6, hs, hlt]
            rw [hX, hZ2, ha]
            clear hX hZ2 hs c5 c6 ha
            rcases hwe3 with ⟨rfl, rfl⟩ | ⟨rfl, rfl⟩ | ⟨rfl, rfl⟩
            all_goals
              go_enter Try.func69, Try.ntmps69
              go_wp2_with (first | ((with_reducible refine is_allocT 48 rfl ?_); refine wpList_alloc_row rfl _ rfl Z hZ.out ?_) | ((with_reducible refine is_loadT 48 rfl ?_); refine wpList_load_row rfl _ _ rfl _ _ rfl _ Try.underlying48 rfl _ (by repeat' first | (with_reducible assumption) | (with_reducible exact range_newA _ _ _) | (with_reducible refine range_alloc ?_ _)) info48 ?_))
              refine (H6.out _).mono ?_
              rintro e w1 ⟨rfl, rfl⟩
              go_wp2_with ((with_reducible refine is_loadT 48 rfl ?_); refine wpList_load_row rfl _ _ rfl _ _ rfl _ Try.underlying48 rfl _ (by repeat' first | (with_reducible assumption) | (with_reducible exact range_newA _ _ _) | (with_reducible refine range_alloc ?_ _)) info48 ?_)
              refine (H5.out _ _).mono ?_
              rintro e w1 ⟨rfl, rfl⟩
              go_wp2_with (first | ((with_reducible refine is_loadT 48 rfl ?_); refine wpList_load_row rfl _ _ rfl _ _ rfl _ Try.underlying48 rfl _ (by repeat' first | (with_reducible assumption) | (with_reducible exact range_newA _ _ _) | (with_reducible refine range_alloc ?_ _)) info48 ?_) | ((with_reducible refine is_storeT 48 rfl ?_); refine wpList_store_rowT rfl _ _ _ rfl _ _ _ rfl rfl (by repeat' (first | (refine there_newB _ _ _ _ ?_ ?_ <;> first | (simp; done) | (simp [hZs]; done)) | refine there_allocA ?_ _)) info48 (by simp [Value.oneCell']) ?_; intro W hW hT))
              refine bodyPost_ret (results_row_tmp rfl _ _ _ _ _ _ rfl hW Try.underlying48 rfl info48) rfl ?_
              exact ⟨rfl, hT.below _ _ (by omega) (by simp; omega) (by go_grown)⟩
          · have hD := Lib.hid (rdown_any ⟨con, cst, cnt, 0, true, waits, wants, pend⟩ hx0)
            have hX : M.tickX ⟨con, cst, cnt, pre, true, waits, wants, pend⟩ e = M.downX ⟨con, cst, cnt, 0, true, waits, wants, pend⟩ := by
              rcases hwe3 with ⟨rfl, rfl⟩ | ⟨rfl, rfl⟩ | ⟨rfl, rfl⟩ <;> simp [M.tickX, c6, hs, hlt]
            have hZ2 : M.tickZ ⟨con, cst, cnt, pre, true, waits, wants, pend⟩ e = M.downZ ⟨con, cst, cnt, 0, true, waits, wants, pend⟩ := by
              rcases hwe3 with ⟨rfl, rfl⟩ | ⟨rfl, rfl⟩ | ⟨rfl, rfl⟩ <;> simp [M.tickZ, c6, hs, hlt]
            rw [hX, hZ2, ha]
            clear hX hZ2 hs c5 c6 ha
            rcases hwe3 with ⟨rfl, rfl⟩ | ⟨rfl, rfl⟩ | ⟨rfl, rfl⟩
            all_goals
              go_enter Try.func69, Try.ntmps69
              go_wp2_with (first | ((with_reducible refine is_allocT 48 rfl ?_); refine wpList_alloc_row rfl _ rfl Z hZ.out ?_) | ((with_reducible refine is_loadT 48 rfl ?_); refine wpList_load_row rfl _ _ rfl _ _ rfl _ Try.underlying48 rfl _ (by repeat' first | (with_reducible assumption) | (with_reducible exact range_newA _ _ _) | (with_reducible refine range_alloc ?_ _)) info48 ?_))
              refine (H6.out _).mono ?_
              rintro e w1 ⟨rfl, rfl⟩
              go_wp2_with ((with_reducible refine is_loadT 48 rfl ?_); refine wpList_load_row rfl _ _ rfl _ _ rfl _ Try.underlying48 rfl _ (by repeat' first | (with_reducible assumption) | (with_reducible exact range_newA _ _ _) | (with_reducible refine range_alloc ?_ _)) info48 ?_)
              refine (H5.out _ _).mono ?_
              rintro e w1 ⟨rfl, rfl⟩
              go_wp2_with ((with_reducible refine is_loadT 48 rfl ?_); refine wpList_load_row rfl _ _ rfl _ _ rfl _ Try.underlying48 rfl _ (by repeat' first | (with_reducible assumption) | (with_reducible exact range_newA _ _ _) | (with_reducible refine range_alloc ?_ _)) info48 ?_)
              refine (hD.out _).mono ?_
              rintro e w1 ⟨rfl, hb1⟩
              go_wp2_with ((with_reducible refine is_storeT 48 rfl ?_); refine wpList_store_rowT rfl _ _ _ rfl _ _ _ rfl rfl (there_belowA (by repeat' (first | (refine there_newB _ _ _ _ ?_ ?_ <;> first | (simp; done) | (simp [hZs]; done) | (rw [ch_size]; simp [hZs]; done)) | refine there_allocA ?_ _)) hb1 (by simp)) (info48c _) (ch_one _) ?_; intro W hW hT)
              refine bodyPost_ret (results_row_tmp rfl _ _ _ _ _ _ rfl hW Try.underlying48 rfl (info48c _)) rfl ?_
              exact ⟨rfl, hT.below _ _ (by omega) (by have := hb1.size; simp at this; omega) (Below.trans (by go_grown) (hb1.mono (by simp; omega)))⟩
end Go.Proofs.Ytmoafjgogbcoeaa
