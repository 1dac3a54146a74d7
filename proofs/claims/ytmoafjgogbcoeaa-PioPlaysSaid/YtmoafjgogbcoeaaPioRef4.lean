/- charabancref24.Write by its contract. -/
import Derived.Test.YtmoafjgogbcoeaaPioRef3
import Derived.Test.YtmoafjgogbcoeaaPioAck
namespace Go.Proofs.Ytmoafjgogbcoeaa
open Go.RowKit
set_option linter.unusedVariables false
set_option linter.unusedSimpArgs false
set_option maxRecDepth 100000
set_option maxHeartbeats 4000000 in
theorem rpwrite_out (p : M.Pi2) (k b : Int) (hk : k < 0 ∨ 3 < k) (h0 : 0 ≤ b) (h1 : b ≤ 255) (w : World) : Calls Try.prog 48 #[.agg p.a, .int .i64 k, .int .u8 b] w fun e w' => e = .returned (.agg p.a) ∧ Below w.heap.size w w' := by
  obtain ⟨Z, hZs, hZ'⟩ := zero86
  have hZ := Lib.hid hZ'
  have hc := pi_size p
  clear hZ'
  have k0 : (k == 0) = false := by simp; omega
  have k1 : (k == 1) = false := by simp; omega
  have k2 : (k == 2) = false := by simp; omega
  have k3 : (k == 3) = false := by simp; omega
  go_enter Try.func48, Try.ntmps48
  go_wp2_with (first
    | ((with_reducible refine is_allocT 86 rfl ?_); refine wpList_alloc_row rfl _ rfl Z hZ.out ?_)
    | ((with_reducible refine is_loadT 86 rfl ?_); refine wpList_load_row rfl _ _ rfl _ _ rfl _ Try.underlying86 rfl p.a (range_alloc (range_newA _ _ _) _) (info86c _) ?_)
    | ((with_reducible refine is_storeT 86 rfl ?_); refine wpList_store_rowT rfl _ _ _ rfl _ _ p.a rfl rfl (there_newB _ _ _ _ (by simp) (by rw [pi_size]; omega)) (info86c _) (pi_one _) ?_; intro W hW hT))
  refine bodyPost_ret (results_row rfl _ _ _ _ p.a _ rfl hW Try.underlying86 rfl (info86c _)) rfl ?_
  exact ⟨rfl, hT.below _ _ (by omega) (by simp; omega) (by go_grown)⟩
set_option maxHeartbeats 4000000 in
theorem rpwrite_01 (p : M.Pi2) (n : Nat) (hn : n < 2) (b : Int) (h0 : 0 ≤ b) (h1 : b ≤ 255) (w : World) : Calls Try.prog 48 #[.agg p.a, .int .i64 n, .int .u8 b] w fun e w' => e = .returned (.agg (p.set (M.pData (p.at n) b) n).a) ∧ Below w.heap.size w w' := by
  obtain ⟨Z, hZs, hZ'⟩ := zero86
  have hZ := Lib.hid hZ'
  have hc := pi_size p
  clear hZ'
  have g0 : p.a[0]'(by rw [hc]; decide) = .int .i64 p.p0.mode := rfl
  have g1 : p.a[11]'(by rw [hc]; decide) = .int .i64 p.p1.mode := rfl
  obtain ⟨P1, hP1⟩ : ∃ P1, P1 = p.set { p.at n with out := b } n := ⟨_, rfl⟩
  obtain ⟨P2, hP2⟩ : ∃ P2, P2 = p.set (M.pData (p.at n) b) n := ⟨_, rfl⟩
  rw [← hP2]
  have hc1 := pi_size P1
  by_cases m02 : (p.at n).mode = 0 ∨ (p.at n).mode = 2
  · have e : M.pData (p.at n) b = { p.at n with out := b, ready := true } := by
      unfold M.pData
      rcases m02 with m | m <;> simp [m]
    rcases (show n = 0 ∨ n = 1 by omega) with rfl | rfl
    · have hs1 : p.a.setIfInBounds 1 (.int .u8 b) = P1.a := by rw [hP1]; rfl
      have g2 : P1.a[0]'(by rw [hc1]; decide) = .int .i64 p.p0.mode := by subst hP1; rfl
      have hs2 : P1.a.setIfInBounds 8 (.bool true) = P2.a := by rw [hP1, hP2, e]; rfl
      have q : p.p0.mode = 0 ∨ p.p0.mode = 2 := m02
      clear hP1 hP2 m02 g1 e
      rcases q with q | q
      all_goals
        rw [q] at g0 g2
        clear q
        go_enter Try.func48, Try.ntmps48
        go_wp2_with (first
          | ((with_reducible refine is_allocT 86 rfl ?_); refine wpList_alloc_row rfl _ rfl Z hZ.out ?_)
          | ((with_reducible refine is_loadT 86 rfl ?_); refine wpList_load_row rfl _ _ rfl _ _ rfl _ Try.underlying86 rfl P2.a (range_alloc (range_newA _ _ _) _) (info86c _) ?_)
          | ((with_reducible refine is_storeT 86 rfl ?_); refine wpList_store_rowT rfl _ _ _ rfl _ _ P2.a rfl rfl (there_newB _ _ _ _ (by simp) (by rw [pi_size]; omega)) (info86c _) (pi_one _) ?_; intro W hW hT))
        refine bodyPost_ret (results_row rfl _ _ _ _ P2.a _ rfl hW Try.underlying86 rfl (info86c _)) rfl ?_
        exact ⟨rfl, hT.below _ _ (by omega) (by simp; omega) (by go_grown)⟩
    · have hs1 : p.a.setIfInBounds 12 (.int .u8 b) = P1.a := by rw [hP1]; rfl
      have g2 : P1.a[11]'(by rw [hc1]; decide) = .int .i64 p.p1.mode := by subst hP1; rfl
      have hs2 : P1.a.setIfInBounds 19 (.bool true) = P2.a := by rw [hP1, hP2, e]; rfl
      have q : p.p1.mode = 0 ∨ p.p1.mode = 2 := m02
      clear hP1 hP2 m02 g0 e
      rcases q with q | q
      all_goals
        rw [q] at g1 g2
        clear q
        go_enter Try.func48, Try.ntmps48
        go_wp2_with (first
          | ((with_reducible refine is_allocT 86 rfl ?_); refine wpList_alloc_row rfl _ rfl Z hZ.out ?_)
          | ((with_reducible refine is_loadT 86 rfl ?_); refine wpList_load_row rfl _ _ rfl _ _ rfl _ Try.underlying86 rfl P2.a (range_alloc (range_newA _ _ _) _) (info86c _) ?_)
          | ((with_reducible refine is_storeT 86 rfl ?_); refine wpList_store_rowT rfl _ _ _ rfl _ _ P2.a rfl rfl (there_newB _ _ _ _ (by simp) (by rw [pi_size]; omega)) (info86c _) (pi_one _) ?_; intro W hW hT))
        refine bodyPost_ret (results_row rfl _ _ _ _ P2.a _ rfl hW Try.underlying86 rfl (info86c _)) rfl ?_
        exact ⟨rfl, hT.below _ _ (by omega) (by simp; omega) (by go_grown)⟩
  · have e : P2 = P1 := by
      rw [hP1, hP2]
      have : M.pData (p.at n) b = { p.at n with out := b } := by
        unfold M.pData
        have a0 : ((p.at n).mode == 0) = false := by simp; omega
        have a2 : ((p.at n).mode == 2) = false := by simp; omega
        rw [a0, a2]
        simp
      rw [this]
    rw [e]
    have q0 : ((p.at n).mode == 0) = false := by simp; omega
    have q2 : ((p.at n).mode == 2) = false := by simp; omega
    rcases (show n = 0 ∨ n = 1 by omega) with rfl | rfl
    · have hs1 : p.a.setIfInBounds 1 (.int .u8 b) = P1.a := by rw [hP1]; rfl
      have g2 : P1.a[0]'(by rw [hc1]; decide) = .int .i64 p.p0.mode := by subst hP1; rfl
      simp only [M.Pi2.at] at q0 q2 m02
      clear hP1 hP2 e
      go_enter Try.func48, Try.ntmps48
      go_wp2_with (first
        | ((with_reducible refine is_allocT 86 rfl ?_); refine wpList_alloc_row rfl _ rfl Z hZ.out ?_)
        | ((with_reducible refine is_loadT 86 rfl ?_); refine wpList_load_row rfl _ _ rfl _ _ rfl _ Try.underlying86 rfl P1.a (range_alloc (range_newA _ _ _) _) (info86c _) ?_)
        | ((with_reducible refine is_storeT 86 rfl ?_); refine wpList_store_rowT rfl _ _ _ rfl _ _ P1.a rfl rfl (there_newB _ _ _ _ (by simp) (by rw [pi_size]; omega)) (info86c _) (pi_one _) ?_; intro W hW hT))
      refine bodyPost_ret (results_row rfl _ _ _ _ P1.a _ rfl hW Try.underlying86 rfl (info86c _)) rfl ?_
      exact ⟨rfl, hT.below _ _ (by omega) (by simp; omega) (by go_grown)⟩
    · have hs1 : p.a.setIfInBounds 12 (.int .u8 b) = P1.a := by rw [hP1]; rfl
      have g2 : P1.a[11]'(by rw [hc1]; decide) = .int .i64 p.p1.mode := by subst hP1; rfl
      simp only [M.Pi2.at] at q0 q2 m02
      clear hP1 hP2 e
      go_enter Try.func48, Try.ntmps48
      go_wp2_with (first
        | ((with_reducible refine is_allocT 86 rfl ?_); refine wpList_alloc_row rfl _ rfl Z hZ.out ?_)
        | ((with_reducible refine is_loadT 86 rfl ?_); refine wpList_load_row rfl _ _ rfl _ _ rfl _ Try.underlying86 rfl P1.a (range_alloc (range_newA _ _ _) _) (info86c _) ?_)
        | ((with_reducible refine is_storeT 86 rfl ?_); refine wpList_store_rowT rfl _ _ _ rfl _ _ P1.a rfl rfl (there_newB _ _ _ _ (by simp) (by rw [pi_size]; omega)) (info86c _) (pi_one _) ?_; intro W hW hT))
      refine bodyPost_ret (results_row rfl _ _ _ _ P1.a _ rfl hW Try.underlying86 rfl (info86c _)) rfl ?_
      exact ⟨rfl, hT.below _ _ (by omega) (by simp; omega) (by go_grown)⟩
set_option maxHeartbeats 4000000 in
theorem rpwrite_2 (p : M.Pi2) (hp : p.ok) (b : Int) (h0 : 0 ≤ b) (h1 : b ≤ 255) (w : World) : Calls Try.prog 48 #[.agg p.a, .int .i64 2, .int .u8 b] w fun e w' => e = .returned (.agg (p.set (M.pControl (p.at 0) b) 0).a) ∧ Below w.heap.size w w' := by
  obtain ⟨Z, hZs, hZ'⟩ := zero86
  have hZ := Lib.hid hZ'
  have hc := pi_size p
  clear hZ'
  have HC := Lib.hid (fun W => rcontrol_any (p.at 0) (pi_at_ok hp 0) b h0 h1 W)
  go_enter Try.func48, Try.ntmps48
  go_wp2_with (first
    | ((with_reducible refine is_allocT 86 rfl ?_); refine wpList_alloc_row rfl _ rfl Z hZ.out ?_)
    | ((with_reducible refine is_loadT 83 rfl ?_); refine wpList_load_row rfl _ _ rfl _ _ rfl _ Try.underlying83 rfl (p.at 0).a (pi_at (range_alloc (range_newA w p.a _) _) 0 (by omega)) (info83c _) ?_))
  refine (HC.out _).mono ?_
  rintro e w1 ⟨rfl, hb1⟩
  have z1 := hb1.size
  simp at z1
  have hx := PiAt.belowX ((pi_new w p 86).alloc (.cells Z 86)) hb1
  have hth := there_belowA (there_newB (b := w.heap.size + 1) _ _ _ 22 (by simp) (by omega)) hb1 (by simp)
  have hbb : Below w.heap.size w w1 := Below.trans (by go_grown) (hb1.mono (by simp; omega))
  clear hb1
  obtain ⟨X, hX⟩ : ∃ X, X = M.pControl (p.at 0) b := ⟨_, rfl⟩
  rw [← hX]
  have HX := Lib.hid hX
  clear hX
  go_wp2_with (first
    | ((with_reducible refine is_storeT 83 rfl ?_); refine wpList_store_rowT rfl _ _ _ rfl _ (11 * 0) X.a rfl rfl (by rw [po_size]; exact there_of (pi_at hx.1 0 (by omega)) (free_part hx.2.1 _ _ (by omega) (by omega)) (Nat.le_refl _)) (info83c _) (po_one _) ?_; intro W hW hT; rw [po_size] at hT; have ht := pi_turn hx 0 (by omega) hW hT; have z2 := hT.size; have t2 := there_touch hth hT (by omega) (by omega); have b2 := hT.below w.heap.size w (by omega) (by omega) hbb; clear hW hT)
    | ((with_reducible refine is_loadT 86 rfl ?_); refine wpList_load_row rfl _ _ rfl _ _ rfl _ Try.underlying86 rfl _ ht.1.1 (info86c _) ?_)
    | ((with_reducible refine is_storeT 86 rfl ?_); refine wpList_store_rowT rfl _ _ _ rfl _ _ _ rfl rfl (by rw [pi_size]; exact t2) (info86c _) (pi_one _) ?_; intro W2 hW2 hT2))
  refine bodyPost_ret (results_row rfl _ _ _ _ _ _ rfl hW2 Try.underlying86 rfl (info86c _)) rfl ?_
  exact ⟨by rw [HX.out], hT2.below _ _ (by omega) (by omega) b2⟩
set_option maxHeartbeats 4000000 in
theorem rpwrite_3 (p : M.Pi2) (hp : p.ok) (b : Int) (h0 : 0 ≤ b) (h1 : b ≤ 255) (w : World) : Calls Try.prog 48 #[.agg p.a, .int .i64 3, .int .u8 b] w fun e w' => e = .returned (.agg (p.set (M.pControl (p.at 1) b) 1).a) ∧ Below w.heap.size w w' := by
  obtain ⟨Z, hZs, hZ'⟩ := zero86
  have hZ := Lib.hid hZ'
  have hc := pi_size p
  clear hZ'
  have HC := Lib.hid (fun W => rcontrol_any (p.at 1) (pi_at_ok hp 1) b h0 h1 W)
  go_enter Try.func48, Try.ntmps48
  go_wp2_with (first
    | ((with_reducible refine is_allocT 86 rfl ?_); refine wpList_alloc_row rfl _ rfl Z hZ.out ?_)
    | ((with_reducible refine is_loadT 83 rfl ?_); refine wpList_load_row rfl _ _ rfl _ _ rfl _ Try.underlying83 rfl (p.at 1).a (pi_at (range_alloc (range_newA w p.a _) _) 1 (by omega)) (info83c _) ?_))
  refine (HC.out _).mono ?_
  rintro e w1 ⟨rfl, hb1⟩
  have z1 := hb1.size
  simp at z1
  have hx := PiAt.belowX ((pi_new w p 86).alloc (.cells Z 86)) hb1
  have hth := there_belowA (there_newB (b := w.heap.size + 1) _ _ _ 22 (by simp) (by omega)) hb1 (by simp)
  have hbb : Below w.heap.size w w1 := Below.trans (by go_grown) (hb1.mono (by simp; omega))
  clear hb1
  obtain ⟨X, hX⟩ : ∃ X, X = M.pControl (p.at 1) b := ⟨_, rfl⟩
  rw [← hX]
  have HX := Lib.hid hX
  clear hX
  go_wp2_with (first
    | ((with_reducible refine is_storeT 83 rfl ?_); refine wpList_store_rowT rfl _ _ _ rfl _ (11 * 1) X.a rfl rfl (by rw [po_size]; exact there_of (pi_at hx.1 1 (by omega)) (free_part hx.2.1 _ _ (by omega) (by omega)) (Nat.le_refl _)) (info83c _) (po_one _) ?_; intro W hW hT; rw [po_size] at hT; have ht := pi_turn hx 1 (by omega) hW hT; have z2 := hT.size; have t2 := there_touch hth hT (by omega) (by omega); have b2 := hT.below w.heap.size w (by omega) (by omega) hbb; clear hW hT)
    | ((with_reducible refine is_loadT 86 rfl ?_); refine wpList_load_row rfl _ _ rfl _ _ rfl _ Try.underlying86 rfl _ ht.1.1 (info86c _) ?_)
    | ((with_reducible refine is_storeT 86 rfl ?_); refine wpList_store_rowT rfl _ _ _ rfl _ _ _ rfl rfl (by rw [pi_size]; exact t2) (info86c _) (pi_one _) ?_; intro W2 hW2 hT2))
  refine bodyPost_ret (results_row rfl _ _ _ _ _ _ rfl hW2 Try.underlying86 rfl (info86c _)) rfl ?_
  exact ⟨by rw [HX.out], hT2.below _ _ (by omega) (by omega) b2⟩
/-- charabancref24.Write: whatever the register, whatever the byte. -/
theorem rpwrite_any (p : M.Pi2) (hp : p.ok) (reg b : Int) (h0 : 0 ≤ b) (h1 : b ≤ 255) (w : World) : Calls Try.prog 48 #[.agg p.a, .int .i64 reg, .int .u8 b] w fun e w' => e = .returned (.agg (M.pWrite p reg b).a) ∧ Below w.heap.size w w' := by
  by_cases hk : reg < 0 ∨ 3 < reg
  · have : M.pWrite p reg b = p := by
      unfold M.pWrite
      rw [if_neg (by omega), if_neg (by omega)]
    rw [this]
    exact rpwrite_out p reg b hk h0 h1 w
  · rcases (show reg = 0 ∨ reg = 1 ∨ reg = 2 ∨ reg = 3 by omega) with rfl | rfl | rfl | rfl
    · exact rpwrite_01 p 0 (by omega) b h0 h1 w
    · exact rpwrite_01 p 1 (by omega) b h0 h1 w
    · exact rpwrite_2 p hp b h0 h1 w
    · exact rpwrite_3 p hp b h0 h1 w
end Go.Proofs.Ytmoafjgogbcoeaa
