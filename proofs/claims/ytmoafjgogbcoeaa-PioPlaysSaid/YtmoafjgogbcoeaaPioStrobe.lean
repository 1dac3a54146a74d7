/- pio.Strobe and pio.Lines, each by its contract. -/
import Derived.Test.YtmoafjgogbcoeaaPioBox
namespace Go.Proofs.Ytmoafjgogbcoeaa
open Go.RowKit
set_option linter.unusedVariables false
set_option maxRecDepth 100000

theorem psignal_at (B k : Nat) (hk : k < 2) (p : M.Pi2) (hp : (p.at k).ok) (w : World) (h : PiAt w B p) : Calls Try.prog 75 #[.pointer (some ⟨B, 11 * k, none⟩)] w fun e' w' =>
    e' = .returned (.tuple #[]) ∧ PiAt w' B (p.set (M.pSignal (p.at k)) k) ∧ Touch B 0 22 w w' :=
  (psignal_any B (11 * k) (p.at k) hp w (pi_at h.1 k hk) (free_part h.2.1 _ _ (by omega) (by omega)) h.2.2).mono fun e w' ⟨he, hr, ht⟩ => ⟨he, pi_turn h k hk hr ht⟩
theorem plook_at (B k : Nat) (hk : k < 2) (p : M.Pi2) (hp : (p.at k).ok) (w : World) (h : PiAt w B p) : Calls Try.prog 76 #[.pointer (some ⟨B, 11 * k, none⟩)] w fun e' w' =>
    e' = .returned (.tuple #[]) ∧ PiAt w' B (p.set (M.pLook (p.at k)) k) ∧ Touch B 0 22 w w' :=
  (plook_any B (11 * k) (p.at k) hp w (pi_at h.1 k hk) (free_part h.2.1 _ _ (by omega) (by omega)) h.2.2).mono fun e w' ⟨he, hr, ht⟩ => ⟨he, pi_turn h k hk hr ht⟩
theorem was_cell {W : World} {B : Nat} {p : M.Pi2} (h : PiAt W B p) : W.cell? ⟨B, 9, none⟩ = some (.bool p.p0.was) ∧ W.cell? ⟨B, 20, none⟩ = some (.bool p.p1.was) := by
  obtain ⟨h0, h1⟩ := pi_ranges h.1
  exact ⟨h0 9 _ rfl, h1 9 _ rfl⟩
set_option maxHeartbeats 4000000 in
theorem pstrobe_out (p : M.Pi2) (k b : Int) (hk : k < 0 ∨ 1 < k) (h0 : 0 ≤ b) (h1 : b ≤ 255) (w : World) : Calls Try.prog 53 #[.agg p.a, .int .i64 k, .int .u8 b] w fun e w' => e = .returned (.agg p.a) ∧ Below w.heap.size w w' := by
  obtain ⟨Z, hZs, hZ'⟩ := zero80
  have hZ := Lib.hid hZ'
  have hc := pi_size p
  clear hZ'
  rcases hk with hk | hk
  · go_enter Try.func53, Try.ntmps53
    go_wp2_with (first
      | ((with_reducible refine is_allocT 80 rfl ?_); refine wpList_alloc_row rfl _ rfl Z hZ.out ?_)
      | ((with_reducible refine is_loadT 80 rfl ?_); refine wpList_load_row rfl _ _ rfl _ _ rfl _ Try.underlying80 rfl p.a (range_alloc (range_newA _ _ _) _) (info80c _) ?_)
      | ((with_reducible refine is_storeT 80 rfl ?_); refine wpList_store_rowT rfl _ _ _ rfl _ _ p.a rfl rfl (there_newB _ _ _ _ (by simp) (by rw [pi_size]; omega)) (info80c _) (pi_one _) ?_; intro W hW hT))
    refine bodyPost_ret (results_row rfl _ _ _ _ p.a _ rfl hW Try.underlying80 rfl (info80c _)) rfl ?_
    exact ⟨rfl, hT.below _ _ (by omega) (by simp; omega) (by go_grown)⟩
  · go_enter Try.func53, Try.ntmps53
    go_wp2_with (first
      | ((with_reducible refine is_allocT 80 rfl ?_); refine wpList_alloc_row rfl _ rfl Z hZ.out ?_)
      | ((with_reducible refine is_loadT 80 rfl ?_); refine wpList_load_row rfl _ _ rfl _ _ rfl _ Try.underlying80 rfl p.a (range_alloc (range_newA _ _ _) _) (info80c _) ?_)
      | ((with_reducible refine is_storeT 80 rfl ?_); refine wpList_store_rowT rfl _ _ _ rfl _ _ p.a rfl rfl (there_newB _ _ _ _ (by simp) (by rw [pi_size]; omega)) (info80c _) (pi_one _) ?_; intro W hW hT))
    refine bodyPost_ret (results_row rfl _ _ _ _ p.a _ rfl hW Try.underlying80 rfl (info80c _)) rfl ?_
    exact ⟨rfl, hT.below _ _ (by omega) (by simp; omega) (by go_grown)⟩
set_option maxHeartbeats 4000000 in
theorem pstrobe_none (p : M.Pi2) (n : Nat) (hn : n < 2) (m0 : (p.at n).mode ≠ 0) (m1 : (p.at n).mode ≠ 1) (m2 : (p.at n).mode ≠ 2) (b : Int) (h0 : 0 ≤ b) (h1 : b ≤ 255) (w : World) : Calls Try.prog 53 #[.agg p.a, .int .i64 n, .int .u8 b] w fun e w' => e = .returned (.agg p.a) ∧ Below w.heap.size w w' := by
  obtain ⟨Z, hZs, hZ'⟩ := zero80
  have hZ := Lib.hid hZ'
  have hc := pi_size p
  clear hZ'
  have g0 : p.a[0]'(by rw [hc]; decide) = .int .i64 p.p0.mode := rfl
  have g1 : p.a[11]'(by rw [hc]; decide) = .int .i64 p.p1.mode := rfl
  have q0 : ((p.at n).mode == 0) = false := by simpa using m0
  have q1 : ((p.at n).mode == 1) = false := by simpa using m1
  have q2 : ((p.at n).mode == 2) = false := by simpa using m2
  rcases (show n = 0 ∨ n = 1 by omega) with rfl | rfl
  · simp only [M.Pi2.at] at m0 m1 m2 q0 q1 q2
    go_enter Try.func53, Try.ntmps53
    go_wp2_with (first
      | ((with_reducible refine is_allocT 80 rfl ?_); refine wpList_alloc_row rfl _ rfl Z hZ.out ?_)
      | ((with_reducible refine is_loadT 80 rfl ?_); refine wpList_load_row rfl _ _ rfl _ _ rfl _ Try.underlying80 rfl p.a (range_alloc (range_newA _ _ _) _) (info80c _) ?_)
      | ((with_reducible refine is_storeT 80 rfl ?_); refine wpList_store_rowT rfl _ _ _ rfl _ _ p.a rfl rfl (there_newB _ _ _ _ (by simp) (by rw [pi_size]; omega)) (info80c _) (pi_one _) ?_; intro W hW hT))
    refine bodyPost_ret (results_row rfl _ _ _ _ p.a _ rfl hW Try.underlying80 rfl (info80c _)) rfl ?_
    exact ⟨rfl, hT.below _ _ (by omega) (by simp; omega) (by go_grown)⟩
  · simp only [M.Pi2.at] at m0 m1 m2 q0 q1 q2
    go_enter Try.func53, Try.ntmps53
    go_wp2_with (first
      | ((with_reducible refine is_allocT 80 rfl ?_); refine wpList_alloc_row rfl _ rfl Z hZ.out ?_)
      | ((with_reducible refine is_loadT 80 rfl ?_); refine wpList_load_row rfl _ _ rfl _ _ rfl _ Try.underlying80 rfl p.a (range_alloc (range_newA _ _ _) _) (info80c _) ?_)
      | ((with_reducible refine is_storeT 80 rfl ?_); refine wpList_store_rowT rfl _ _ _ rfl _ _ p.a rfl rfl (there_newB _ _ _ _ (by simp) (by rw [pi_size]; omega)) (info80c _) (pi_one _) ?_; intro W hW hT))
    refine bodyPost_ret (results_row rfl _ _ _ _ p.a _ rfl hW Try.underlying80 rfl (info80c _)) rfl ?_
    exact ⟨rfl, hT.below _ _ (by omega) (by simp; omega) (by go_grown)⟩
set_option maxHeartbeats 4000000 in
theorem pstrobe_0 (p : M.Pi2) (hp : p.ok) (n : Nat) (hn : n < 2) (m0 : (p.at n).mode = 0) (b : Int) (h0 : 0 ≤ b) (h1 : b ≤ 255) (w : World) : Calls Try.prog 53 #[.agg p.a, .int .i64 n, .int .u8 b] w fun e w' =>
    e = .returned (.agg ((p.set { p.at n with ready := false } n).set (M.pSignal ((p.set { p.at n with ready := false } n).at n)) n).a) ∧ Below w.heap.size w w' := by
  obtain ⟨Z, hZs, hZ'⟩ := zero80
  have hZ := Lib.hid hZ'
  have hc := pi_size p
  clear hZ'
  have g0 : p.a[0]'(by rw [hc]; decide) = .int .i64 p.p0.mode := rfl
  have g1 : p.a[11]'(by rw [hc]; decide) = .int .i64 p.p1.mode := rfl
  have hpn := pi_at_ok hp n
  rcases (show n = 0 ∨ n = 1 by omega) with rfl | rfl
  · have hset : p.a.setIfInBounds 8 (.bool false) = (p.set { p.at 0 with ready := false } 0).a := rfl
    have hok : ((p.set { p.at 0 with ready := false } 0).at 0).ok := hpn
    generalize p.set { p.at 0 with ready := false } 0 = P2 at hset hok ⊢
    have q0 : p.p0.mode = 0 := m0
    rw [q0] at g0
    clear q0 m0
    have K := Lib.hid (fun W h => psignal_at w.heap.size 0 (by omega) P2 hok W h)
    go_enter Try.func53, Try.ntmps53
    go_wp2_with ((with_reducible refine is_allocT 80 rfl ?_); refine wpList_alloc_row rfl _ rfl Z hZ.out ?_)
    refine (K.out _ ((pi_new w P2 _).alloc _)).mono ?_
    rintro e w1 ⟨rfl, hr1, ht1⟩
    go_wp2_with (first
      | ((with_reducible refine is_loadT 80 rfl ?_); refine wpList_load_row rfl _ _ rfl _ _ rfl _ Try.underlying80 rfl _ hr1.1 (info80c _) ?_)
      | ((with_reducible refine is_storeT 80 rfl ?_); refine wpList_store_rowT rfl _ _ _ rfl _ _ _ rfl rfl (there_touch (there_newB _ _ _ _ (by simp) (by rw [pi_size]; omega)) ht1 (by simp) (by omega)) (info80c _) (pi_one _) ?_; intro W hW hT))
    refine bodyPost_ret (results_row rfl _ _ _ _ _ _ rfl hW Try.underlying80 rfl (info80c _)) rfl ?_
    exact ⟨rfl, hT.below _ _ (by omega) (by have := ht1.size; simp at this; omega) (ht1.below _ _ (by omega) (by simp; omega) (by go_grown))⟩
  · have hset : p.a.setIfInBounds 19 (.bool false) = (p.set { p.at 1 with ready := false } 1).a := rfl
    have hok : ((p.set { p.at 1 with ready := false } 1).at 1).ok := hpn
    generalize p.set { p.at 1 with ready := false } 1 = P2 at hset hok ⊢
    have q0 : p.p1.mode = 0 := m0
    rw [q0] at g1
    clear q0 m0
    have K := Lib.hid (fun W h => psignal_at w.heap.size 1 (by omega) P2 hok W h)
    go_enter Try.func53, Try.ntmps53
    go_wp2_with ((with_reducible refine is_allocT 80 rfl ?_); refine wpList_alloc_row rfl _ rfl Z hZ.out ?_)
    refine (K.out _ ((pi_new w P2 _).alloc _)).mono ?_
    rintro e w1 ⟨rfl, hr1, ht1⟩
    go_wp2_with (first
      | ((with_reducible refine is_loadT 80 rfl ?_); refine wpList_load_row rfl _ _ rfl _ _ rfl _ Try.underlying80 rfl _ hr1.1 (info80c _) ?_)
      | ((with_reducible refine is_storeT 80 rfl ?_); refine wpList_store_rowT rfl _ _ _ rfl _ _ _ rfl rfl (there_touch (there_newB _ _ _ _ (by simp) (by rw [pi_size]; omega)) ht1 (by simp) (by omega)) (info80c _) (pi_one _) ?_; intro W hW hT))
    refine bodyPost_ret (results_row rfl _ _ _ _ _ _ rfl hW Try.underlying80 rfl (info80c _)) rfl ?_
    exact ⟨rfl, hT.below _ _ (by omega) (by have := ht1.size; simp at this; omega) (ht1.below _ _ (by omega) (by simp; omega) (by go_grown))⟩
set_option maxHeartbeats 4000000 in
theorem pstrobe_in (p : M.Pi2) (hp : p.ok) (n : Nat) (hn : n < 2) (m12 : (p.at n).mode = 1 ∨ (p.at n).mode = 2) (b : Int) (h0 : 0 ≤ b) (h1 : b ≤ 255) (w : World) : Calls Try.prog 53 #[.agg p.a, .int .i64 n, .int .u8 b] w fun e w' =>
    e = .returned (.agg ((p.set { p.at n with inn := b, ready := false } n).set (M.pSignal ((p.set { p.at n with inn := b, ready := false } n).at n)) n).a) ∧ Below w.heap.size w w' := by
  obtain ⟨Z, hZs, hZ'⟩ := zero80
  have hZ := Lib.hid hZ'
  have hc := pi_size p
  clear hZ'
  have g0 : p.a[0]'(by rw [hc]; decide) = .int .i64 p.p0.mode := rfl
  have g1 : p.a[11]'(by rw [hc]; decide) = .int .i64 p.p1.mode := rfl
  have hpn := pi_at_ok hp n
  rcases (show n = 0 ∨ n = 1 by omega) with rfl | rfl
  · have hset : (p.a.setIfInBounds 2 (.int .u8 b)).setIfInBounds 8 (.bool false) = (p.set { p.at 0 with inn := b, ready := false } 0).a := rfl
    have hok : ((p.set { p.at 0 with inn := b, ready := false } 0).at 0).ok := ⟨hpn.1, hpn.2.1, ⟨h0, h1⟩, hpn.2.2.2⟩
    generalize p.set { p.at 0 with inn := b, ready := false } 0 = P2 at hset hok ⊢
    rcases m12 with m | m
    · have q0 : p.p0.mode = 1 := m
      rw [q0] at g0
      clear q0 m
      have K := Lib.hid (fun W h => psignal_at w.heap.size 0 (by omega) P2 hok W h)
      go_enter Try.func53, Try.ntmps53
      go_wp2_with ((with_reducible refine is_allocT 80 rfl ?_); refine wpList_alloc_row rfl _ rfl Z hZ.out ?_)
      refine (K.out _ ((pi_new w P2 _).alloc _)).mono ?_
      rintro e w1 ⟨rfl, hr1, ht1⟩
      go_wp2_with (first
        | ((with_reducible refine is_loadT 80 rfl ?_); refine wpList_load_row rfl _ _ rfl _ _ rfl _ Try.underlying80 rfl _ hr1.1 (info80c _) ?_)
        | ((with_reducible refine is_storeT 80 rfl ?_); refine wpList_store_rowT rfl _ _ _ rfl _ _ _ rfl rfl (there_touch (there_newB _ _ _ _ (by simp) (by rw [pi_size]; omega)) ht1 (by simp) (by omega)) (info80c _) (pi_one _) ?_; intro W hW hT))
      refine bodyPost_ret (results_row rfl _ _ _ _ _ _ rfl hW Try.underlying80 rfl (info80c _)) rfl ?_
      exact ⟨rfl, hT.below _ _ (by omega) (by have := ht1.size; simp at this; omega) (ht1.below _ _ (by omega) (by simp; omega) (by go_grown))⟩
    · have q0 : p.p0.mode = 2 := m
      rw [q0] at g0
      clear q0 m
      have K := Lib.hid (fun W h => psignal_at w.heap.size 0 (by omega) P2 hok W h)
      go_enter Try.func53, Try.ntmps53
      go_wp2_with ((with_reducible refine is_allocT 80 rfl ?_); refine wpList_alloc_row rfl _ rfl Z hZ.out ?_)
      refine (K.out _ ((pi_new w P2 _).alloc _)).mono ?_
      rintro e w1 ⟨rfl, hr1, ht1⟩
      go_wp2_with (first
        | ((with_reducible refine is_loadT 80 rfl ?_); refine wpList_load_row rfl _ _ rfl _ _ rfl _ Try.underlying80 rfl _ hr1.1 (info80c _) ?_)
        | ((with_reducible refine is_storeT 80 rfl ?_); refine wpList_store_rowT rfl _ _ _ rfl _ _ _ rfl rfl (there_touch (there_newB _ _ _ _ (by simp) (by rw [pi_size]; omega)) ht1 (by simp) (by omega)) (info80c _) (pi_one _) ?_; intro W hW hT))
      refine bodyPost_ret (results_row rfl _ _ _ _ _ _ rfl hW Try.underlying80 rfl (info80c _)) rfl ?_
      exact ⟨rfl, hT.below _ _ (by omega) (by have := ht1.size; simp at this; omega) (ht1.below _ _ (by omega) (by simp; omega) (by go_grown))⟩
  · have hset : (p.a.setIfInBounds 13 (.int .u8 b)).setIfInBounds 19 (.bool false) = (p.set { p.at 1 with inn := b, ready := false } 1).a := rfl
    have hok : ((p.set { p.at 1 with inn := b, ready := false } 1).at 1).ok := ⟨hpn.1, hpn.2.1, ⟨h0, h1⟩, hpn.2.2.2⟩
    generalize p.set { p.at 1 with inn := b, ready := false } 1 = P2 at hset hok ⊢
    rcases m12 with m | m
    · have q0 : p.p1.mode = 1 := m
      rw [q0] at g1
      clear q0 m
      have K := Lib.hid (fun W h => psignal_at w.heap.size 1 (by omega) P2 hok W h)
      go_enter Try.func53, Try.ntmps53
      go_wp2_with ((with_reducible refine is_allocT 80 rfl ?_); refine wpList_alloc_row rfl _ rfl Z hZ.out ?_)
      refine (K.out _ ((pi_new w P2 _).alloc _)).mono ?_
      rintro e w1 ⟨rfl, hr1, ht1⟩
      go_wp2_with (first
        | ((with_reducible refine is_loadT 80 rfl ?_); refine wpList_load_row rfl _ _ rfl _ _ rfl _ Try.underlying80 rfl _ hr1.1 (info80c _) ?_)
        | ((with_reducible refine is_storeT 80 rfl ?_); refine wpList_store_rowT rfl _ _ _ rfl _ _ _ rfl rfl (there_touch (there_newB _ _ _ _ (by simp) (by rw [pi_size]; omega)) ht1 (by simp) (by omega)) (info80c _) (pi_one _) ?_; intro W hW hT))
      refine bodyPost_ret (results_row rfl _ _ _ _ _ _ rfl hW Try.underlying80 rfl (info80c _)) rfl ?_
      exact ⟨rfl, hT.below _ _ (by omega) (by have := ht1.size; simp at this; omega) (ht1.below _ _ (by omega) (by simp; omega) (by go_grown))⟩
    · have q0 : p.p1.mode = 2 := m
      rw [q0] at g1
      clear q0 m
      have K := Lib.hid (fun W h => psignal_at w.heap.size 1 (by omega) P2 hok W h)
      go_enter Try.func53, Try.ntmps53
      go_wp2_with ((with_reducible refine is_allocT 80 rfl ?_); refine wpList_alloc_row rfl _ rfl Z hZ.out ?_)
      refine (K.out _ ((pi_new w P2 _).alloc _)).mono ?_
      rintro e w1 ⟨rfl, hr1, ht1⟩
      go_wp2_with (first
        | ((with_reducible refine is_loadT 80 rfl ?_); refine wpList_load_row rfl _ _ rfl _ _ rfl _ Try.underlying80 rfl _ hr1.1 (info80c _) ?_)
        | ((with_reducible refine is_storeT 80 rfl ?_); refine wpList_store_rowT rfl _ _ _ rfl _ _ _ rfl rfl (there_touch (there_newB _ _ _ _ (by simp) (by rw [pi_size]; omega)) ht1 (by simp) (by omega)) (info80c _) (pi_one _) ?_; intro W hW hT))
      refine bodyPost_ret (results_row rfl _ _ _ _ _ _ rfl hW Try.underlying80 rfl (info80c _)) rfl ?_
      exact ⟨rfl, hT.below _ _ (by omega) (by have := ht1.size; simp at this; omega) (ht1.below _ _ (by omega) (by simp; omega) (by go_grown))⟩
/-- pio.Strobe: whatever the port, whatever the byte. -/
theorem pstrobe_any (p : M.Pi2) (hp : p.ok) (k b : Int) (h0 : 0 ≤ b) (h1 : b ≤ 255) (w : World) : Calls Try.prog 53 #[.agg p.a, .int .i64 k, .int .u8 b] w fun e w' => e = .returned (.agg (M.pStrobe p k b).a) ∧ Below w.heap.size w w' := by
  by_cases hk : k < 0 ∨ 1 < k
  · have : M.pStrobe p k b = p := by
      unfold M.pStrobe
      rw [if_neg (by omega)]
    rw [this]
    exact pstrobe_out p k b hk h0 h1 w
  · obtain ⟨n, rfl⟩ : ∃ n : Nat, k = n := ⟨k.toNat, by omega⟩
    have hn : n < 2 := by omega
    unfold M.pStrobe
    rw [if_pos (by omega), Int.toNat_natCast]
    by_cases m0 : (p.at n).mode = 0
    · rw [if_pos m0]
      have h := pstrobe_0 p hp n hn m0 b h0 h1 w
      rcases (show n = 0 ∨ n = 1 by omega) with rfl | rfl <;> exact h
    · rw [if_neg m0]
      by_cases m12 : (p.at n).mode = 1 ∨ (p.at n).mode = 2
      · rw [if_pos m12]
        have h := pstrobe_in p hp n hn m12 b h0 h1 w
        rcases (show n = 0 ∨ n = 1 by omega) with rfl | rfl <;> exact h
      · rw [if_neg m12]
        exact pstrobe_none p n hn m0 (fun e => m12 (.inl e)) (fun e => m12 (.inr e)) b h0 h1 w
end Go.Proofs.Ytmoafjgogbcoeaa
