/- The reference's counter (charabancref23: whole, has, down, tick), each by its contract. -/
import Derived.Test.YtmoafjgogbcoeaaCtcBox
import Derived.Test.YtmoafjgogbcoeaaRef01
namespace Go.Proofs.Ytmoafjgogbcoeaa
open Go.RowKit
set_option linter.unusedVariables false
set_option maxRecDepth 100000

theorem rwhole_any (b : Int) (h0 : 0 ≤ b) (h1 : b ≤ 255) (w : World) : Calls Try.prog 66 #[.int .u8 b] w fun e w' => e = .returned (.int .i64 (M.whole b)) ∧ w = w' := by
  by_cases h : b = 0
  · have hw : M.whole b = 256 := by simp [M.whole, h]
    have hw' := Lib.hid hw
    clear hw
    subst h
    go_enter Try.func66, Try.ntmps66
    go_wp2_with fail
    go_returns
    exact ⟨ret_int hw'.out.symm, rfl⟩
  · have hw : M.whole b = b := by simp [M.whole, h]
    have hw' := Lib.hid hw
    clear hw
    go_enter Try.func66, Try.ntmps66
    go_wp2_with fail
    go_returns
    exact ⟨ret_int hw'.out.symm, rfl⟩
theorem rhas_any (x : M.Ch) (n : Int) (h0 : 0 ≤ x.con) (h1 : x.con ≤ 255) (w : World) : Calls Try.prog 67 #[.agg x.a, .int .i64 n] w fun e w' => e = .returned (.bool (M.is x.con n)) ∧ w' = w.alloc (.cells x.a 48) := by
  have hs := ch_size x
  have g0 : x.a[0]'(by rw [hs]; decide) = .int .u8 x.con := rfl
  go_enter Try.func67, Try.ntmps67
  go_wp2_with fail
  refine (refis_any x.con n h0 h1 _).mono ?_
  rintro e w1 ⟨rfl, rfl⟩
  go_wp2_with fail
  go_returns
  exact ⟨rfl, rfl⟩
set_option maxHeartbeats 2000000 in
theorem rdown_any (x : M.Ch) (hx : x.ok) (w : World) : Calls Try.prog 85 #[.agg x.a] w fun e w' => e = .returned (.tuple #[.agg (M.downX x).a, .bool (M.downZ x)]) ∧ Below w.heap.size w w' := by
  obtain ⟨con, cst, cnt, pre, runs, waits, wants, pend⟩ := x
  obtain ⟨Z, hZs, hZ'⟩ := zero48
  have hZ := Lib.hid hZ'
  clear hZ'
  obtain ⟨⟨a1, a2⟩, ⟨a3, a4⟩, ⟨a5, a6⟩, ⟨a7, a8⟩⟩ := hx
  simp only at a1 a2 a3 a4 a5 a6 a7 a8
  have ha : (M.Ch.mk con cst cnt pre runs waits wants pend).a = #[.int .u8 con, .int .u8 cst, .int .i64 cnt, .int .i64 pre, .bool runs, .bool waits, .bool wants, .bool pend] := rfl
  by_cases h : 0 < wrap64 (cnt - 1)
  · have hX : M.downX ⟨con, cst, cnt, pre, runs, waits, wants, pend⟩ = ⟨con, cst, wrap64 (cnt - 1), pre, runs, waits, wants, pend⟩ := if_pos h
    have hZ2 : M.downZ ⟨con, cst, cnt, pre, runs, waits, wants, pend⟩ = false := by simp [M.downZ, h]
    rw [hX, hZ2, ha]
    clear hX hZ2 ha
    go_enter Try.func85, Try.ntmps85
    go_wp2_with (first | ((with_reducible refine is_allocT 48 rfl ?_); refine wpList_alloc_row rfl _ rfl Z hZ.out ?_) | ((with_reducible refine is_loadT 48 rfl ?_); refine wpList_load_row rfl _ _ rfl _ _ rfl _ Try.underlying48 rfl _ (by repeat' first | (with_reducible assumption) | (with_reducible exact range_newA _ _ _) | (with_reducible refine range_alloc ?_ _)) info48 ?_) | ((with_reducible refine is_storeT 48 rfl ?_); refine wpList_store_rowT rfl _ _ _ rfl _ _ _ rfl rfl (by repeat' (first | (refine there_newB _ _ _ _ ?_ ?_ <;> first | (simp; done) | (simp [hZs]; done)) | refine there_allocA ?_ _)) info48 (by simp [Value.oneCell']) ?_; intro W hW hT))
    refine bodyPost_ret (results_row_tmp rfl _ _ _ _ _ _ rfl hW Try.underlying48 rfl info48) rfl ?_
    exact ⟨rfl, hT.below _ _ (by omega) (by simp; omega) (by go_grown)⟩
  · have hX : M.downX ⟨con, cst, cnt, pre, runs, waits, wants, pend⟩ = ⟨con, cst, M.whole cst, pre, runs, waits, wants, pend || M.is con 7⟩ := if_neg h
    have hZ2 : M.downZ ⟨con, cst, cnt, pre, runs, waits, wants, pend⟩ = true := by simp [M.downZ, h]
    have hH := fun x W => rhas_any ⟨con, cst, M.whole cst, pre, runs, waits, wants, x⟩ 7 a1 a2 W
    have hw := rwhole_any cst a3 a4
    rw [hX, hZ2, ha]
    simp only at hH
    clear hX hZ2 ha
    revert hH
    obtain ⟨m, hm⟩ : ∃ m, m = M.whole cst := ⟨_, rfl⟩
    rw [← hm] at hw ⊢
    cases M.is con 7
    all_goals
      intro hH
      have HH := Lib.hid hH
      have Hw := Lib.hid hw
      have Hm := Lib.hid hm
      clear hH hw hm
      cases pend
      all_goals
        go_enter Try.func85, Try.ntmps85
        go_wp2_with (first | ((with_reducible refine is_allocT 48 rfl ?_); refine wpList_alloc_row rfl _ rfl Z hZ.out ?_) | ((with_reducible refine is_loadT 48 rfl ?_); refine wpList_load_row rfl _ _ rfl _ _ rfl _ Try.underlying48 rfl _ (by repeat' first | (with_reducible assumption) | (with_reducible exact range_newA _ _ _) | (with_reducible refine range_alloc ?_ _)) info48 ?_) | (go_at_call 66; refine (Hw.out _).mono ?_; rintro e w1 ⟨rfl, rfl⟩) | (go_at_call 67; refine (HH.out _ _).mono ?_; rintro e w1 ⟨rfl, rfl⟩) | ((with_reducible refine is_storeT 48 rfl ?_); refine wpList_store_rowT rfl _ _ _ rfl _ _ _ rfl rfl (by repeat' (first | (refine there_newB _ _ _ _ ?_ ?_ <;> first | (simp; done) | (simp [hZs]; done)) | refine there_allocA ?_ _)) info48 (by simp [Value.oneCell']) ?_; intro W hW hT))
        refine bodyPost_ret (results_row_tmp rfl _ _ _ _ _ _ rfl hW Try.underlying48 rfl info48) rfl ?_
        exact ⟨rfl, hT.below _ _ (by omega) (by simp; omega) (by go_grown)⟩
end Go.Proofs.Ytmoafjgogbcoeaa
