/- pio.Write by its contract. -/
import Derived.Test.YtmoafjgogbcoeaaPioBox
namespace Go.Proofs.Ytmoafjgogbcoeaa
open Go.RowKit
set_option linter.unusedVariables false
set_option maxRecDepth 100000

theorem one_tab : bits .and .i64 0 1 = 0 ∧ bits .and .i64 1 1 = 1 ∧ bits .and .i64 2 1 = 0 ∧ bits .and .i64 3 1 = 1 := by decide +kernel
set_option maxHeartbeats 2000000 in
theorem pwrite_out (p : M.Pi2) (k b : Int) (hk : k < 0 ∨ 3 < k) (h0 : 0 ≤ b) (h1 : b ≤ 255) (w : World) : Calls Try.prog 47 #[.agg p.a, .int .i64 k, .int .u8 b] w fun e w' => e = .returned (.agg p.a) ∧ Below w.heap.size w w' := by
  obtain ⟨Z, hZs, hZ'⟩ := zero80
  have hZ := Lib.hid hZ'
  have hc := pi_size p
  clear hZ'
  rcases hk with hk | hk
  all_goals
    go_enter Try.func47, Try.ntmps47
    go_wp2_with (first
      | ((with_reducible refine is_allocT 80 rfl ?_); refine wpList_alloc_row rfl _ rfl Z hZ.out ?_)
      | ((with_reducible refine is_loadT 80 rfl ?_); refine wpList_load_row rfl _ _ rfl _ _ rfl _ Try.underlying80 rfl p.a (range_alloc (range_newA _ _ _) _) (info80c _) ?_)
      | ((with_reducible refine is_storeT 80 rfl ?_); refine wpList_store_rowT rfl _ _ _ rfl _ _ p.a rfl rfl (there_newB _ _ _ _ (by simp) (by rw [pi_size]; omega)) (info80c _) (pi_one _) ?_; intro W hW hT))
    refine bodyPost_ret (results_row rfl _ _ _ _ p.a _ rfl hW Try.underlying80 rfl (info80c _)) rfl ?_
    exact ⟨rfl, hT.below _ _ (by omega) (by simp; omega) (by go_grown)⟩
set_option maxHeartbeats 4000000 in
theorem pwrite_in (p : M.Pi2) (hp : p.ok) (n : Nat) (hn : n < 4) (b : Int) (h0 : 0 ≤ b) (h1 : b ≤ 255) (w : World) : Calls Try.prog 47 #[.agg p.a, .int .i64 n, .int .u8 b] w fun e w' =>
    e = .returned (.agg (if n < 2 then p.set (M.pData (p.at n) b) n else p.set (M.pControl (p.at (n - 2)) b) (n - 2)).a) ∧ Below w.heap.size w w' := by
  obtain ⟨Z, hZs, hZ'⟩ := zero80
  have hZ := Lib.hid hZ'
  have hs := pi_size p
  clear hZ'
  obtain ⟨t0, t1, t2, t3⟩ := one_tab
  have hmf : ∀ (fn : Fn) (first cap : Array Value) (w : World), (Instr.makeFunc fn first cap).run Try.prog w = .ok (.func fn first cap) w := fun _ _ _ _ => rfl
  have hD0 := Lib.hid (fun B w h => pdata_at B 0 (by omega) p b hp h0 h1 w h)
  have hD1 := Lib.hid (fun B w h => pdata_at B 1 (by omega) p b hp h0 h1 w h)
  have hC0 := Lib.hid (fun B w h => pcontrol_at B 0 (by omega) p b hp h0 h1 w h)
  have hC1 := Lib.hid (fun B w h => pcontrol_at B 1 (by omega) p b hp h0 h1 w h)
  rcases (show n = 0 ∨ n = 1 ∨ n = 2 ∨ n = 3 by omega) with rfl | rfl | rfl | rfl
  · clear hn
    go_enter Try.func47, Try.ntmps47
    go_wp2_with ((with_reducible refine is_allocT 80 rfl ?_); refine wpList_alloc_row rfl _ rfl Z hZ.out ?_)
    refine (hD0.out _ _ ((pi_new w p _).alloc _)).mono ?_
    rintro e w1 ⟨rfl, hr1, ht1⟩
    go_wp2_with (first
      | ((with_reducible refine is_loadT 80 rfl ?_); refine wpList_load_row rfl _ _ rfl _ _ rfl _ Try.underlying80 rfl _ hr1.1 (info80c _) ?_)
      | ((with_reducible refine is_storeT 80 rfl ?_); refine wpList_store_rowT rfl _ _ _ rfl _ _ _ rfl rfl (there_touch (there_newB _ _ _ _ (by simp) (by rw [pi_size]; omega)) ht1 (by simp) (by omega)) (info80c _) (pi_one _) ?_; intro W hW hT))
    refine bodyPost_ret (results_row rfl _ _ _ _ _ _ rfl hW Try.underlying80 rfl (info80c _)) rfl ?_
    exact ⟨rfl, hT.below _ _ (by omega) (by have := ht1.size; simp at this; omega) (ht1.below _ _ (by omega) (by simp; omega) (by go_grown))⟩
  · clear hn
    go_enter Try.func47, Try.ntmps47
    go_wp2_with ((with_reducible refine is_allocT 80 rfl ?_); refine wpList_alloc_row rfl _ rfl Z hZ.out ?_)
    refine (hD1.out _ _ ((pi_new w p _).alloc _)).mono ?_
    rintro e w1 ⟨rfl, hr1, ht1⟩
    go_wp2_with (first
      | ((with_reducible refine is_loadT 80 rfl ?_); refine wpList_load_row rfl _ _ rfl _ _ rfl _ Try.underlying80 rfl _ hr1.1 (info80c _) ?_)
      | ((with_reducible refine is_storeT 80 rfl ?_); refine wpList_store_rowT rfl _ _ _ rfl _ _ _ rfl rfl (there_touch (there_newB _ _ _ _ (by simp) (by rw [pi_size]; omega)) ht1 (by simp) (by omega)) (info80c _) (pi_one _) ?_; intro W hW hT))
    refine bodyPost_ret (results_row rfl _ _ _ _ _ _ rfl hW Try.underlying80 rfl (info80c _)) rfl ?_
    exact ⟨rfl, hT.below _ _ (by omega) (by have := ht1.size; simp at this; omega) (ht1.below _ _ (by omega) (by simp; omega) (by go_grown))⟩
  · clear hn
    go_enter Try.func47, Try.ntmps47
    go_wp2_with ((with_reducible refine is_allocT 80 rfl ?_); refine wpList_alloc_row rfl _ rfl Z hZ.out ?_)
    refine (hC0.out _ _ ((pi_new w p _).alloc _)).mono ?_
    rintro e w1 ⟨rfl, hr1, ht1⟩
    go_wp2_with (first
      | ((with_reducible refine is_loadT 80 rfl ?_); refine wpList_load_row rfl _ _ rfl _ _ rfl _ Try.underlying80 rfl _ hr1.1 (info80c _) ?_)
      | ((with_reducible refine is_storeT 80 rfl ?_); refine wpList_store_rowT rfl _ _ _ rfl _ _ _ rfl rfl (there_touch (there_newB _ _ _ _ (by simp) (by rw [pi_size]; omega)) ht1 (by simp) (by omega)) (info80c _) (pi_one _) ?_; intro W hW hT))
    refine bodyPost_ret (results_row rfl _ _ _ _ _ _ rfl hW Try.underlying80 rfl (info80c _)) rfl ?_
    exact ⟨rfl, hT.below _ _ (by omega) (by have := ht1.size; simp at this; omega) (ht1.below _ _ (by omega) (by simp; omega) (by go_grown))⟩
  · clear hn
    go_enter Try.func47, Try.ntmps47
    go_wp2_with ((with_reducible refine is_allocT 80 rfl ?_); refine wpList_alloc_row rfl _ rfl Z hZ.out ?_)
    refine (hC1.out _ _ ((pi_new w p _).alloc _)).mono ?_
    rintro e w1 ⟨rfl, hr1, ht1⟩
    go_wp2_with (first
      | ((with_reducible refine is_loadT 80 rfl ?_); refine wpList_load_row rfl _ _ rfl _ _ rfl _ Try.underlying80 rfl _ hr1.1 (info80c _) ?_)
      | ((with_reducible refine is_storeT 80 rfl ?_); refine wpList_store_rowT rfl _ _ _ rfl _ _ _ rfl rfl (there_touch (there_newB _ _ _ _ (by simp) (by rw [pi_size]; omega)) ht1 (by simp) (by omega)) (info80c _) (pi_one _) ?_; intro W hW hT))
    refine bodyPost_ret (results_row rfl _ _ _ _ _ _ rfl hW Try.underlying80 rfl (info80c _)) rfl ?_
    exact ⟨rfl, hT.below _ _ (by omega) (by have := ht1.size; simp at this; omega) (ht1.below _ _ (by omega) (by simp; omega) (by go_grown))⟩
/-- pio.Write: whatever the register, whatever the byte. -/
theorem pwrite_any (p : M.Pi2) (hp : p.ok) (reg b : Int) (h0 : 0 ≤ b) (h1 : b ≤ 255) (w : World) : Calls Try.prog 47 #[.agg p.a, .int .i64 reg, .int .u8 b] w fun e w' => e = .returned (.agg (M.pWrite p reg b).a) ∧ Below w.heap.size w w' := by
  by_cases hk : reg < 0 ∨ 3 < reg
  · have : M.pWrite p reg b = p := by
      unfold M.pWrite
      rw [if_neg (by omega), if_neg (by omega)]
    rw [this]
    exact pwrite_out p reg b hk h0 h1 w
  · obtain ⟨n, rfl⟩ : ∃ n : Nat, reg = n := ⟨reg.toNat, by omega⟩
    have hn : n < 4 := by omega
    have h := pwrite_in p hp n hn b h0 h1 w
    rcases (show n = 0 ∨ n = 1 ∨ n = 2 ∨ n = 3 by omega) with rfl | rfl | rfl | rfl <;> exact h
end Go.Proofs.Ytmoafjgogbcoeaa
