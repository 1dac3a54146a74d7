/- ctc.Write, ctc.Read, each by its contract. -/
import Derived.Test.YtmoafjgogbcoeaaCtcBox
namespace Go.Proofs.Ytmoafjgogbcoeaa
open Go.RowKit
set_option linter.unusedVariables false
set_option maxRecDepth 100000

set_option maxHeartbeats 2000000 in
theorem cwrite_out (c : M.Ct) (k b : Int) (hk : k < 0 ∨ 3 < k) (h0 : 0 ≤ b) (h1 : b ≤ 255) (w : World) : Calls Try.prog 32 #[.agg c.a, .int .i64 k, .int .u8 b] w fun e w' => e = .returned (.agg c.a) ∧ Below w.heap.size w w' := by
  obtain ⟨Z, hZs, hZ'⟩ := zero47
  have hZ := Lib.hid hZ'
  have hc := ct_size c
  clear hZ'
  rcases hk with hk | hk
  all_goals
    go_enter Try.func32, Try.ntmps32
    go_wp2_with (first
      | ((with_reducible refine is_allocT 47 rfl ?_); refine wpList_alloc_row rfl _ rfl Z hZ.out ?_)
      | ((with_reducible refine is_loadT 47 rfl ?_); refine wpList_load_row rfl _ _ rfl _ _ rfl _ Try.underlying47 rfl c.a (by repeat' first | (with_reducible exact range_newA _ _ _) | (with_reducible refine range_alloc ?_ _)) (info47c _) ?_)
      | ((with_reducible refine is_storeT 47 rfl ?_); refine wpList_store_rowT rfl _ _ _ rfl _ _ c.a rfl rfl (there_newB _ _ _ _ (by simp) (by omega)) (info47c _) (ct_one c) ?_; intro W hW hT))
    refine bodyPost_ret (results_row rfl _ _ _ _ c.a _ rfl hW Try.underlying47 rfl (info47c _)) rfl ?_
    exact ⟨rfl, hT.below _ _ (by omega) (by simp; omega) (by go_grown)⟩
set_option maxHeartbeats 2000000 in
theorem cwrite_told (c : M.Ct) (hc : c.ok) (k : Nat) (hk : k < 4) (b : Int) (h0 : 0 ≤ b) (h1 : b ≤ 255) (h : (c.at k).wants = true ∨ ((c.at k).wants = false ∧ M.is b 0 = true)) (w : World) : Calls Try.prog 32 #[.agg c.a, .int .i64 k, .int .u8 b] w fun e w' =>
    e = .returned (.agg (c.set (M.told (c.at k) b) k).a) ∧ Below w.heap.size w w' := by
  obtain ⟨Z, hZs, hZ'⟩ := zero47
  have hZ := Lib.hid hZ'
  clear hZ'
  have hC := fun B w h => Lib.hid (ctold_at B k hk c b hc h0 h1 w h)
  have hs0 := ct_size c
  have hi := fun W => is_any b 0 h0 h1 W
  have g0 : c.a[6]'(by rw [hs0]; decide) = .bool c.c0.wants := rfl
  have g1 : c.a[14]'(by rw [hs0]; decide) = .bool c.c1.wants := rfl
  have g2 : c.a[22]'(by rw [hs0]; decide) = .bool c.c2.wants := rfl
  have g3 : c.a[30]'(by rw [hs0]; decide) = .bool c.c3.wants := rfl
  rcases (show k = 0 ∨ k = 1 ∨ k = 2 ∨ k = 3 by omega) with rfl | rfl | rfl | rfl
  all_goals
    simp only [M.Ct.at] at h
    rcases h with h | ⟨h, hb⟩
    all_goals
      simp only [h] at g0 g1 g2 g3
      try simp only [hb] at hi
      clear h
      try clear hb
      have hI := Lib.hid hi
      clear hi
      go_enter Try.func32, Try.ntmps32
      go_wp2_with (first
        | ((with_reducible refine is_allocT 47 rfl ?_); refine wpList_alloc_row rfl _ rfl Z hZ.out ?_)
        | (go_at_call 63; refine (hI.out _).mono ?_; rintro e w1 ⟨rfl, rfl⟩)
        | (go_at_call 64; refine (hC _ _ ((ct_new _ _ _).alloc _)).out.mono ?_; rintro e w1 ⟨rfl, hr1, ht1⟩)
        | ((with_reducible refine is_loadT 47 rfl ?_); refine wpList_load_row rfl _ _ rfl _ _ rfl _ Try.underlying47 rfl _ hr1.1 (info47c _) ?_)
        | ((with_reducible refine is_storeT 47 rfl ?_); refine wpList_store_rowT rfl _ _ _ rfl _ _ _ rfl rfl (there_touch (there_newB _ _ _ _ (by simp) (by rw [ct_size]; omega)) ht1 (by simp) (by omega)) (info47c _) (ct_one _) ?_; intro W hW hT))
      refine bodyPost_ret (results_row rfl _ _ _ _ _ _ rfl hW Try.underlying47 rfl (info47c _)) rfl ?_
      exact ⟨rfl, hT.below _ _ (by omega) (by have := ht1.size; simp at this; omega) (ht1.below _ _ (by omega) (by simp; omega) (by go_grown))⟩
set_option maxHeartbeats 2000000 in
theorem cwrite_vec (c : M.Ct) (hc : c.ok) (b : Int) (h0 : 0 ≤ b) (h1 : b ≤ 255) (h : c.c0.wants = false) (hb : M.is b 0 = false) (w : World) : Calls Try.prog 32 #[.agg c.a, .int .i64 0, .int .u8 b] w fun e w' =>
    e = .returned (.agg ({ c with vec := b / 8 * 8 } : M.Ct).a) ∧ Below w.heap.size w w' := by
  obtain ⟨Z, hZs, hZ'⟩ := zero47
  have hZ := Lib.hid hZ'
  clear hZ'
  have hs0 := ct_size c
  have hi := fun W => is_any b 0 h0 h1 W
  have g0 : c.a[6]'(by rw [hs0]; decide) = .bool c.c0.wants := rfl
  simp only [h] at g0
  simp only [hb] at hi
  have hI := Lib.hid hi
  have hset : Hid (c.a.setIfInBounds 32 (.int .u8 (bits .andNot .u8 b 7)) = ({ c with vec := b / 8 * 8 } : M.Ct).a) := Lib.hid (by rw [M.andNot7 b h0 h1]; rfl)
  clear hi h hb
  go_enter Try.func32, Try.ntmps32
  go_wp2_with (first
    | ((with_reducible refine is_allocT 47 rfl ?_); refine wpList_alloc_row rfl _ rfl Z hZ.out ?_)
    | (go_at_call 63; refine (hI.out _).mono ?_; rintro e w1 ⟨rfl, rfl⟩)
    | ((with_reducible refine is_loadT 47 rfl ?_); refine wpList_load_row rfl _ _ rfl _ _ rfl _ Try.underlying47 rfl ({ c with vec := b / 8 * 8 } : M.Ct).a (by rw [← hset.out]; exact range_alloc (range_newA _ _ _) _) (info47c _) ?_)
    | ((with_reducible refine is_storeT 47 rfl ?_); refine wpList_store_rowT rfl _ _ _ rfl _ _ _ rfl rfl (there_newB _ _ _ _ (by simp) (by rw [ct_size]; omega)) (info47c _) (ct_one _) ?_; intro W hW hT))
  refine bodyPost_ret (results_row rfl _ _ _ _ _ _ rfl hW Try.underlying47 rfl (info47c _)) rfl ?_
  exact ⟨rfl, hT.below _ _ (by omega) (by simp; omega) (by go_grown)⟩
set_option maxHeartbeats 2000000 in
theorem cwrite_none (c : M.Ct) (hc : c.ok) (k : Nat) (hk : k < 4) (hk0 : k ≠ 0) (b : Int) (h0 : 0 ≤ b) (h1 : b ≤ 255) (h : (c.at k).wants = false) (hb : M.is b 0 = false) (w : World) : Calls Try.prog 32 #[.agg c.a, .int .i64 k, .int .u8 b] w fun e w' =>
    e = .returned (.agg c.a) ∧ Below w.heap.size w w' := by
  obtain ⟨Z, hZs, hZ'⟩ := zero47
  have hZ := Lib.hid hZ'
  clear hZ'
  have hs0 := ct_size c
  have hi := fun W => is_any b 0 h0 h1 W
  have g1 : c.a[14]'(by rw [hs0]; decide) = .bool c.c1.wants := rfl
  have g2 : c.a[22]'(by rw [hs0]; decide) = .bool c.c2.wants := rfl
  have g3 : c.a[30]'(by rw [hs0]; decide) = .bool c.c3.wants := rfl
  simp only [hb] at hi
  have hI := Lib.hid hi
  clear hi hb
  rcases (show k = 1 ∨ k = 2 ∨ k = 3 by omega) with rfl | rfl | rfl
  all_goals
    simp only [M.Ct.at] at h
    simp only [h] at g1 g2 g3
    clear h
    go_enter Try.func32, Try.ntmps32
    go_wp2_with (first
      | ((with_reducible refine is_allocT 47 rfl ?_); refine wpList_alloc_row rfl _ rfl Z hZ.out ?_)
      | (go_at_call 63; refine (hI.out _).mono ?_; rintro e w1 ⟨rfl, rfl⟩)
      | ((with_reducible refine is_loadT 47 rfl ?_); refine wpList_load_row rfl _ _ rfl _ _ rfl _ Try.underlying47 rfl c.a (range_alloc (range_newA _ _ _) _) (info47c _) ?_)
      | ((with_reducible refine is_storeT 47 rfl ?_); refine wpList_store_rowT rfl _ _ _ rfl _ _ _ rfl rfl (there_newB _ _ _ _ (by simp) (by rw [ct_size]; omega)) (info47c _) (ct_one _) ?_; intro W hW hT))
    refine bodyPost_ret (results_row rfl _ _ _ _ _ _ rfl hW Try.underlying47 rfl (info47c _)) rfl ?_
    exact ⟨rfl, hT.below _ _ (by omega) (by simp; omega) (by go_grown)⟩
/-- ctc.Write: whatever the channel, whatever the byte. -/
theorem cwrite_any (c : M.Ct) (hc : c.ok) (k b : Int) (h0 : 0 ≤ b) (h1 : b ≤ 255) (w : World) : Calls Try.prog 32 #[.agg c.a, .int .i64 k, .int .u8 b] w fun e w' => e = .returned (.agg (M.write c k b).a) ∧ Below w.heap.size w w' := by
  unfold M.write
  by_cases hk : k < 0 ∨ 3 < k
  · rw [if_pos hk]
    exact cwrite_out c k b hk h0 h1 w
  · rw [if_neg hk]
    obtain ⟨n, rfl⟩ : ∃ n : Nat, k = n := ⟨k.toNat, by omega⟩
    have hn : n < 4 := by omega
    rw [Int.toNat_natCast]
    cases h : (c.at n).wants with
    | true => simpa using cwrite_told c hc n hn b h0 h1 (.inl h) w
    | false =>
      cases hb : M.is b 0 with
      | true => simpa using cwrite_told c hc n hn b h0 h1 (.inr ⟨h, hb⟩) w
      | false =>
        by_cases hz : n = 0
        · subst hz
          simpa using cwrite_vec c hc b h0 h1 h hb w
        · simpa [hz] using cwrite_none c hc n hn hz b h0 h1 h hb w
end Go.Proofs.Ytmoafjgogbcoeaa
