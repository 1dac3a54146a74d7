/- pio.Lines by its contract. -/
import Derived.Test.YtmoafjgogbcoeaaPioStrobe
namespace Go.Proofs.Ytmoafjgogbcoeaa
open Go.RowKit
set_option linter.unusedVariables false
set_option maxRecDepth 100000
set_option maxHeartbeats 4000000 in
theorem plines_out (p : M.Pi2) (k b : Int) (hk : k < 0 ∨ 1 < k) (h0 : 0 ≤ b) (h1 : b ≤ 255) (w : World) : Calls Try.prog 55 #[.agg p.a, .int .i64 k, .int .u8 b] w fun e w' => e = .returned (.agg p.a) ∧ Below w.heap.size w w' := by
  obtain ⟨Z, hZs, hZ'⟩ := zero80
  have hZ := Lib.hid hZ'
  have hc := pi_size p
  clear hZ'
  rcases hk with hk | hk
  · go_enter Try.func55, Try.ntmps55
    go_wp2_with (first
      | ((with_reducible refine is_allocT 80 rfl ?_); refine wpList_alloc_row rfl _ rfl Z hZ.out ?_)
      | ((with_reducible refine is_loadT 80 rfl ?_); refine wpList_load_row rfl _ _ rfl _ _ rfl _ Try.underlying80 rfl p.a (range_alloc (range_newA _ _ _) _) (info80c _) ?_)
      | ((with_reducible refine is_storeT 80 rfl ?_); refine wpList_store_rowT rfl _ _ _ rfl _ _ p.a rfl rfl (there_newB _ _ _ _ (by simp) (by rw [pi_size]; omega)) (info80c _) (pi_one _) ?_; intro W hW hT))
    refine bodyPost_ret (results_row rfl _ _ _ _ p.a _ rfl hW Try.underlying80 rfl (info80c _)) rfl ?_
    exact ⟨rfl, hT.below _ _ (by omega) (by simp; omega) (by go_grown)⟩
  · go_enter Try.func55, Try.ntmps55
    go_wp2_with (first
      | ((with_reducible refine is_allocT 80 rfl ?_); refine wpList_alloc_row rfl _ rfl Z hZ.out ?_)
      | ((with_reducible refine is_loadT 80 rfl ?_); refine wpList_load_row rfl _ _ rfl _ _ rfl _ Try.underlying80 rfl p.a (range_alloc (range_newA _ _ _) _) (info80c _) ?_)
      | ((with_reducible refine is_storeT 80 rfl ?_); refine wpList_store_rowT rfl _ _ _ rfl _ _ p.a rfl rfl (there_newB _ _ _ _ (by simp) (by rw [pi_size]; omega)) (info80c _) (pi_one _) ?_; intro W hW hT))
    refine bodyPost_ret (results_row rfl _ _ _ _ p.a _ rfl hW Try.underlying80 rfl (info80c _)) rfl ?_
    exact ⟨rfl, hT.below _ _ (by omega) (by simp; omega) (by go_grown)⟩
set_option maxHeartbeats 4000000 in
theorem plines_none (p : M.Pi2) (n : Nat) (hn : n < 2) (m3 : (p.at n).mode ≠ 3) (b : Int) (h0 : 0 ≤ b) (h1 : b ≤ 255) (w : World) : Calls Try.prog 55 #[.agg p.a, .int .i64 n, .int .u8 b] w fun e w' => e = .returned (.agg p.a) ∧ Below w.heap.size w w' := by
  obtain ⟨Z, hZs, hZ'⟩ := zero80
  have hZ := Lib.hid hZ'
  have hc := pi_size p
  clear hZ'
  have g0 : p.a[0]'(by rw [hc]; decide) = .int .i64 p.p0.mode := rfl
  have g1 : p.a[11]'(by rw [hc]; decide) = .int .i64 p.p1.mode := rfl
  have q3 : ((p.at n).mode == 3) = false := by simpa using m3
  rcases (show n = 0 ∨ n = 1 by omega) with rfl | rfl
  · simp only [M.Pi2.at] at m3 q3
    go_enter Try.func55, Try.ntmps55
    go_wp2_with (first
      | ((with_reducible refine is_allocT 80 rfl ?_); refine wpList_alloc_row rfl _ rfl Z hZ.out ?_)
      | ((with_reducible refine is_loadT 80 rfl ?_); refine wpList_load_row rfl _ _ rfl _ _ rfl _ Try.underlying80 rfl p.a (range_alloc (range_newA _ _ _) _) (info80c _) ?_)
      | ((with_reducible refine is_storeT 80 rfl ?_); refine wpList_store_rowT rfl _ _ _ rfl _ _ p.a rfl rfl (there_newB _ _ _ _ (by simp) (by rw [pi_size]; omega)) (info80c _) (pi_one _) ?_; intro W hW hT))
    refine bodyPost_ret (results_row rfl _ _ _ _ p.a _ rfl hW Try.underlying80 rfl (info80c _)) rfl ?_
    exact ⟨rfl, hT.below _ _ (by omega) (by simp; omega) (by go_grown)⟩
  · simp only [M.Pi2.at] at m3 q3
    go_enter Try.func55, Try.ntmps55
    go_wp2_with (first
      | ((with_reducible refine is_allocT 80 rfl ?_); refine wpList_alloc_row rfl _ rfl Z hZ.out ?_)
      | ((with_reducible refine is_loadT 80 rfl ?_); refine wpList_load_row rfl _ _ rfl _ _ rfl _ Try.underlying80 rfl p.a (range_alloc (range_newA _ _ _) _) (info80c _) ?_)
      | ((with_reducible refine is_storeT 80 rfl ?_); refine wpList_store_rowT rfl _ _ _ rfl _ _ p.a rfl rfl (there_newB _ _ _ _ (by simp) (by rw [pi_size]; omega)) (info80c _) (pi_one _) ?_; intro W hW hT))
    refine bodyPost_ret (results_row rfl _ _ _ _ p.a _ rfl hW Try.underlying80 rfl (info80c _)) rfl ?_
    exact ⟨rfl, hT.below _ _ (by omega) (by simp; omega) (by go_grown)⟩
set_option maxHeartbeats 4000000 in
theorem plines_in (p : M.Pi2) (hp : p.ok) (n : Nat) (hn : n < 2) (m3 : (p.at n).mode = 3) (b : Int) (h0 : 0 ≤ b) (h1 : b ≤ 255) (U V : Bool) (hU : (p.at n).was = U) (hV : M.soB { p.at n with inn := b } = V) (P2 : M.Pi2) (hP2 : P2 = p.set { p.at n with inn := b } n) (w : World) : Calls Try.prog 55 #[.agg p.a, .int .i64 n, .int .u8 b] w fun e w' =>
    e = .returned (.agg (if V && !U then (P2.set (M.pLook (P2.at n)) n).set (M.pSignal ((P2.set (M.pLook (P2.at n)) n).at n)) n else P2.set (M.pLook (P2.at n)) n).a) ∧ Below w.heap.size w w' := by
  obtain ⟨Z, hZs, hZ'⟩ := zero80
  have hZ := Lib.hid hZ'
  have hc := pi_size p
  have hc2 := pi_size P2
  clear hZ'
  have g0 : p.a[0]'(by rw [hc]; decide) = .int .i64 p.p0.mode := rfl
  have g1 : p.a[11]'(by rw [hc]; decide) = .int .i64 p.p1.mode := rfl
  have hpn := pi_at_ok hp n
  rcases (show n = 0 ∨ n = 1 by omega) with rfl | rfl
  · have hset : p.a.setIfInBounds 2 (.int .u8 b) = P2.a := by rw [hP2]; rfl
    have hok : (P2.at 0).ok := by rw [hP2]; exact ⟨hpn.1, hpn.2.1, ⟨h0, h1⟩, hpn.2.2.2⟩
    have g9 : P2.a[9]'(by rw [hc2]; decide) = .bool U := by subst hP2; rw [← hU]; rfl
    have g9' : (P2.set (M.pLook (P2.at 0)) 0).p0.was = V := by subst hP2; rw [← hV]; rfl
    have q0 : p.p0.mode = 3 := m3
    rw [q0] at g0
    clear q0 m3 hU hV hP2 g1
    cases U <;> cases V
    · have K := Lib.hid (fun W h => plook_at w.heap.size 0 (by omega) P2 hok W h)
      go_enter Try.func55, Try.ntmps55
      go_wp2_with ((with_reducible refine is_allocT 80 rfl ?_); refine wpList_alloc_row rfl _ rfl Z hZ.out ?_)
      refine (K.out _ ((pi_new w P2 _).alloc _)).mono ?_
      rintro e w1 ⟨rfl, hr1, ht1⟩
      have z1 := ht1.size
      simp at z1
      have t1 := there_touch (there_newB (b := w.heap.size + 1) _ _ _ 22 (by simp) (by omega)) ht1 (by simp) (by omega)
      have b1 : Below w.heap.size w w1 := ht1.below _ _ (by omega) (by simp; omega) (by go_grown)
      clear ht1
      have hok3 : ((P2.set (M.pLook (P2.at 0)) 0).at 0).ok := hok
      obtain ⟨P3, hP3⟩ : ∃ P3, P3 = P2.set (M.pLook (P2.at 0)) 0 := ⟨_, rfl⟩
      rw [← hP3] at hr1 g9' hok3
      have HP3 := Lib.hid hP3
      clear hP3
      have c9 := (was_cell hr1).1
      rw [g9'] at c9
      clear g9'
      go_wp2_with (first
        | ((with_reducible refine is_loadT 80 rfl ?_); refine wpList_load_row rfl _ _ rfl _ _ rfl _ Try.underlying80 rfl _ hr1.1 (info80c _) ?_)
        | ((with_reducible refine is_storeT 80 rfl ?_); refine wpList_store_rowT rfl _ _ _ rfl _ _ _ rfl rfl t1 (info80c _) (pi_one _) ?_; intro W hW hT))
      refine bodyPost_ret (results_row rfl _ _ _ _ _ _ rfl hW Try.underlying80 rfl (info80c _)) rfl ?_
      exact ⟨by rw [← HP3.out], hT.below _ _ (by omega) (by omega) b1⟩
    · have K := Lib.hid (fun W h => plook_at w.heap.size 0 (by omega) P2 hok W h)
      go_enter Try.func55, Try.ntmps55
      go_wp2_with ((with_reducible refine is_allocT 80 rfl ?_); refine wpList_alloc_row rfl _ rfl Z hZ.out ?_)
      refine (K.out _ ((pi_new w P2 _).alloc _)).mono ?_
      rintro e w1 ⟨rfl, hr1, ht1⟩
      have z1 := ht1.size
      simp at z1
      have t1 := there_touch (there_newB (b := w.heap.size + 1) _ _ _ 22 (by simp) (by omega)) ht1 (by simp) (by omega)
      have b1 : Below w.heap.size w w1 := ht1.below _ _ (by omega) (by simp; omega) (by go_grown)
      clear ht1
      have hok3 : ((P2.set (M.pLook (P2.at 0)) 0).at 0).ok := hok
      obtain ⟨P3, hP3⟩ : ∃ P3, P3 = P2.set (M.pLook (P2.at 0)) 0 := ⟨_, rfl⟩
      rw [← hP3] at hr1 g9' hok3
      have HP3 := Lib.hid hP3
      clear hP3
      have c9 := (was_cell hr1).1
      rw [g9'] at c9
      clear g9'
      have K2 := Lib.hid (fun W h => psignal_at w.heap.size 0 (by omega) P3 hok3 W h)
      go_wp2_with fail
      refine (K2.out _ hr1).mono ?_
      rintro e w2 ⟨rfl, hr2, ht2⟩
      have z2 := ht2.size
      have t2 := there_touch t1 ht2 (by omega) (by omega)
      have b2 : Below w.heap.size w w2 := ht2.below _ _ (by omega) (by omega) b1
      go_wp2_with (first
        | ((with_reducible refine is_loadT 80 rfl ?_); refine wpList_load_row rfl _ _ rfl _ _ rfl _ Try.underlying80 rfl _ hr2.1 (info80c _) ?_)
        | ((with_reducible refine is_storeT 80 rfl ?_); refine wpList_store_rowT rfl _ _ _ rfl _ _ _ rfl rfl t2 (info80c _) (pi_one _) ?_; intro W hW hT))
      refine bodyPost_ret (results_row rfl _ _ _ _ _ _ rfl hW Try.underlying80 rfl (info80c _)) rfl ?_
      exact ⟨by rw [← HP3.out], hT.below _ _ (by omega) (by omega) b2⟩
    · have K := Lib.hid (fun W h => plook_at w.heap.size 0 (by omega) P2 hok W h)
      go_enter Try.func55, Try.ntmps55
      go_wp2_with ((with_reducible refine is_allocT 80 rfl ?_); refine wpList_alloc_row rfl _ rfl Z hZ.out ?_)
      refine (K.out _ ((pi_new w P2 _).alloc _)).mono ?_
      rintro e w1 ⟨rfl, hr1, ht1⟩
      have z1 := ht1.size
      simp at z1
      have t1 := there_touch (there_newB (b := w.heap.size + 1) _ _ _ 22 (by simp) (by omega)) ht1 (by simp) (by omega)
      have b1 : Below w.heap.size w w1 := ht1.below _ _ (by omega) (by simp; omega) (by go_grown)
      clear ht1
      have hok3 : ((P2.set (M.pLook (P2.at 0)) 0).at 0).ok := hok
      obtain ⟨P3, hP3⟩ : ∃ P3, P3 = P2.set (M.pLook (P2.at 0)) 0 := ⟨_, rfl⟩
      rw [← hP3] at hr1 g9' hok3
      have HP3 := Lib.hid hP3
      clear hP3
      have c9 := (was_cell hr1).1
      rw [g9'] at c9
      clear g9'
      go_wp2_with (first
        | ((with_reducible refine is_loadT 80 rfl ?_); refine wpList_load_row rfl _ _ rfl _ _ rfl _ Try.underlying80 rfl _ hr1.1 (info80c _) ?_)
        | ((with_reducible refine is_storeT 80 rfl ?_); refine wpList_store_rowT rfl _ _ _ rfl _ _ _ rfl rfl t1 (info80c _) (pi_one _) ?_; intro W hW hT))
      refine bodyPost_ret (results_row rfl _ _ _ _ _ _ rfl hW Try.underlying80 rfl (info80c _)) rfl ?_
      exact ⟨by rw [← HP3.out], hT.below _ _ (by omega) (by omega) b1⟩
    · have K := Lib.hid (fun W h => plook_at w.heap.size 0 (by omega) P2 hok W h)
      go_enter Try.func55, Try.ntmps55
      go_wp2_with ((with_reducible refine is_allocT 80 rfl ?_); refine wpList_alloc_row rfl _ rfl Z hZ.out ?_)
      refine (K.out _ ((pi_new w P2 _).alloc _)).mono ?_
      rintro e w1 ⟨rfl, hr1, ht1⟩
      have z1 := ht1.size
      simp at z1
      have t1 := there_touch (there_newB (b := w.heap.size + 1) _ _ _ 22 (by simp) (by omega)) ht1 (by simp) (by omega)
      have b1 : Below w.heap.size w w1 := ht1.below _ _ (by omega) (by simp; omega) (by go_grown)
      clear ht1
      have hok3 : ((P2.set (M.pLook (P2.at 0)) 0).at 0).ok := hok
      obtain ⟨P3, hP3⟩ : ∃ P3, P3 = P2.set (M.pLook (P2.at 0)) 0 := ⟨_, rfl⟩
      rw [← hP3] at hr1 g9' hok3
      have HP3 := Lib.hid hP3
      clear hP3
      have c9 := (was_cell hr1).1
      rw [g9'] at c9
      clear g9'
      go_wp2_with (first
        | ((with_reducible refine is_loadT 80 rfl ?_); refine wpList_load_row rfl _ _ rfl _ _ rfl _ Try.underlying80 rfl _ hr1.1 (info80c _) ?_)
        | ((with_reducible refine is_storeT 80 rfl ?_); refine wpList_store_rowT rfl _ _ _ rfl _ _ _ rfl rfl t1 (info80c _) (pi_one _) ?_; intro W hW hT))
      refine bodyPost_ret (results_row rfl _ _ _ _ _ _ rfl hW Try.underlying80 rfl (info80c _)) rfl ?_
      exact ⟨by rw [← HP3.out], hT.below _ _ (by omega) (by omega) b1⟩
  · have hset : p.a.setIfInBounds 13 (.int .u8 b) = P2.a := by rw [hP2]; rfl
    have hok : (P2.at 1).ok := by rw [hP2]; exact ⟨hpn.1, hpn.2.1, ⟨h0, h1⟩, hpn.2.2.2⟩
    have g9 : P2.a[20]'(by rw [hc2]; decide) = .bool U := by subst hP2; rw [← hU]; rfl
    have g9' : (P2.set (M.pLook (P2.at 1)) 1).p1.was = V := by subst hP2; rw [← hV]; rfl
    have q0 : p.p1.mode = 3 := m3
    rw [q0] at g1
    clear q0 m3 hU hV hP2 g0
    cases U <;> cases V
    · have K := Lib.hid (fun W h => plook_at w.heap.size 1 (by omega) P2 hok W h)
      go_enter Try.func55, Try.ntmps55
      go_wp2_with ((with_reducible refine is_allocT 80 rfl ?_); refine wpList_alloc_row rfl _ rfl Z hZ.out ?_)
      refine (K.out _ ((pi_new w P2 _).alloc _)).mono ?_
      rintro e w1 ⟨rfl, hr1, ht1⟩
      have z1 := ht1.size
      simp at z1
      have t1 := there_touch (there_newB (b := w.heap.size + 1) _ _ _ 22 (by simp) (by omega)) ht1 (by simp) (by omega)
      have b1 : Below w.heap.size w w1 := ht1.below _ _ (by omega) (by simp; omega) (by go_grown)
      clear ht1
      have hok3 : ((P2.set (M.pLook (P2.at 1)) 1).at 1).ok := hok
      obtain ⟨P3, hP3⟩ : ∃ P3, P3 = P2.set (M.pLook (P2.at 1)) 1 := ⟨_, rfl⟩
      rw [← hP3] at hr1 g9' hok3
      have HP3 := Lib.hid hP3
      clear hP3
      have c9 := (was_cell hr1).2
      rw [g9'] at c9
      clear g9'
      go_wp2_with (first
        | ((with_reducible refine is_loadT 80 rfl ?_); refine wpList_load_row rfl _ _ rfl _ _ rfl _ Try.underlying80 rfl _ hr1.1 (info80c _) ?_)
        | ((with_reducible refine is_storeT 80 rfl ?_); refine wpList_store_rowT rfl _ _ _ rfl _ _ _ rfl rfl t1 (info80c _) (pi_one _) ?_; intro W hW hT))
      refine bodyPost_ret (results_row rfl _ _ _ _ _ _ rfl hW Try.underlying80 rfl (info80c _)) rfl ?_
      exact ⟨by rw [← HP3.out], hT.below _ _ (by omega) (by omega) b1⟩
    · have K := Lib.hid (fun W h => plook_at w.heap.size 1 (by omega) P2 hok W h)
      go_enter Try.func55, Try.ntmps55
      go_wp2_with ((with_reducible refine is_allocT 80 rfl ?_); refine wpList_alloc_row rfl _ rfl Z hZ.out ?_)
      refine (K.out _ ((pi_new w P2 _).alloc _)).mono ?_
      rintro e w1 ⟨rfl, hr1, ht1⟩
      have z1 := ht1.size
      simp at z1
      have t1 := there_touch (there_newB (b := w.heap.size + 1) _ _ _ 22 (by simp) (by omega)) ht1 (by simp) (by omega)
      have b1 : Below w.heap.size w w1 := ht1.below _ _ (by omega) (by simp; omega) (by go_grown)
      clear ht1
      have hok3 : ((P2.set (M.pLook (P2.at 1)) 1).at 1).ok := hok
      obtain ⟨P3, hP3⟩ : ∃ P3, P3 = P2.set (M.pLook (P2.at 1)) 1 := ⟨_, rfl⟩
      rw [← hP3] at hr1 g9' hok3
      have HP3 := Lib.hid hP3
      clear hP3
      have c9 := (was_cell hr1).2
      rw [g9'] at c9
      clear g9'
      have K2 := Lib.hid (fun W h => psignal_at w.heap.size 1 (by omega) P3 hok3 W h)
      go_wp2_with fail
      refine (K2.out _ hr1).mono ?_
      rintro e w2 ⟨rfl, hr2, ht2⟩
      have z2 := ht2.size
      have t2 := there_touch t1 ht2 (by omega) (by omega)
      have b2 : Below w.heap.size w w2 := ht2.below _ _ (by omega) (by omega) b1
      go_wp2_with (first
        | ((with_reducible refine is_loadT 80 rfl ?_); refine wpList_load_row rfl _ _ rfl _ _ rfl _ Try.underlying80 rfl _ hr2.1 (info80c _) ?_)
        | ((with_reducible refine is_storeT 80 rfl ?_); refine wpList_store_rowT rfl _ _ _ rfl _ _ _ rfl rfl t2 (info80c _) (pi_one _) ?_; intro W hW hT))
      refine bodyPost_ret (results_row rfl _ _ _ _ _ _ rfl hW Try.underlying80 rfl (info80c _)) rfl ?_
      exact ⟨by rw [← HP3.out], hT.below _ _ (by omega) (by omega) b2⟩
    · have K := Lib.hid (fun W h => plook_at w.heap.size 1 (by omega) P2 hok W h)
      go_enter Try.func55, Try.ntmps55
      go_wp2_with ((with_reducible refine is_allocT 80 rfl ?_); refine wpList_alloc_row rfl _ rfl Z hZ.out ?_)
      refine (K.out _ ((pi_new w P2 _).alloc _)).mono ?_
      rintro e w1 ⟨rfl, hr1, ht1⟩
      have z1 := ht1.size
      simp at z1
      have t1 := there_touch (there_newB (b := w.heap.size + 1) _ _ _ 22 (by simp) (by omega)) ht1 (by simp) (by omega)
      have b1 : Below w.heap.size w w1 := ht1.below _ _ (by omega) (by simp; omega) (by go_grown)
      clear ht1
      have hok3 : ((P2.set (M.pLook (P2.at 1)) 1).at 1).ok := hok
      obtain ⟨P3, hP3⟩ : ∃ P3, P3 = P2.set (M.pLook (P2.at 1)) 1 := ⟨_, rfl⟩
      rw [← hP3] at hr1 g9' hok3
      have HP3 := Lib.hid hP3
      clear hP3
      have c9 := (was_cell hr1).2
      rw [g9'] at c9
      clear g9'
      go_wp2_with (first
        | ((with_reducible refine is_loadT 80 rfl ?_); refine wpList_load_row rfl _ _ rfl _ _ rfl _ Try.underlying80 rfl _ hr1.1 (info80c _) ?_)
        | ((with_reducible refine is_storeT 80 rfl ?_); refine wpList_store_rowT rfl _ _ _ rfl _ _ _ rfl rfl t1 (info80c _) (pi_one _) ?_; intro W hW hT))
      refine bodyPost_ret (results_row rfl _ _ _ _ _ _ rfl hW Try.underlying80 rfl (info80c _)) rfl ?_
      exact ⟨by rw [← HP3.out], hT.below _ _ (by omega) (by omega) b1⟩
    · have K := Lib.hid (fun W h => plook_at w.heap.size 1 (by omega) P2 hok W h)
      go_enter Try.func55, Try.ntmps55
      go_wp2_with ((with_reducible refine is_allocT 80 rfl ?_); refine wpList_alloc_row rfl _ rfl Z hZ.out ?_)
      refine (K.out _ ((pi_new w P2 _).alloc _)).mono ?_
      rintro e w1 ⟨rfl, hr1, ht1⟩
      have z1 := ht1.size
      simp at z1
      have t1 := there_touch (there_newB (b := w.heap.size + 1) _ _ _ 22 (by simp) (by omega)) ht1 (by simp) (by omega)
      have b1 : Below w.heap.size w w1 := ht1.below _ _ (by omega) (by simp; omega) (by go_grown)
      clear ht1
      have hok3 : ((P2.set (M.pLook (P2.at 1)) 1).at 1).ok := hok
      obtain ⟨P3, hP3⟩ : ∃ P3, P3 = P2.set (M.pLook (P2.at 1)) 1 := ⟨_, rfl⟩
      rw [← hP3] at hr1 g9' hok3
      have HP3 := Lib.hid hP3
      clear hP3
      have c9 := (was_cell hr1).2
      rw [g9'] at c9
      clear g9'
      go_wp2_with (first
        | ((with_reducible refine is_loadT 80 rfl ?_); refine wpList_load_row rfl _ _ rfl _ _ rfl _ Try.underlying80 rfl _ hr1.1 (info80c _) ?_)
        | ((with_reducible refine is_storeT 80 rfl ?_); refine wpList_store_rowT rfl _ _ _ rfl _ _ _ rfl rfl t1 (info80c _) (pi_one _) ?_; intro W hW hT))
      refine bodyPost_ret (results_row rfl _ _ _ _ _ _ rfl hW Try.underlying80 rfl (info80c _)) rfl ?_
      exact ⟨by rw [← HP3.out], hT.below _ _ (by omega) (by omega) b1⟩
/-- pio.Lines: whatever the port, whatever the byte. -/
theorem plines_any (p : M.Pi2) (hp : p.ok) (k b : Int) (h0 : 0 ≤ b) (h1 : b ≤ 255) (w : World) : Calls Try.prog 55 #[.agg p.a, .int .i64 k, .int .u8 b] w fun e w' => e = .returned (.agg (M.pLines p k b).a) ∧ Below w.heap.size w w' := by
  by_cases hk : k < 0 ∨ 1 < k
  · have : M.pLines p k b = p := by
      unfold M.pLines
      rw [if_neg (by omega)]
    rw [this]
    exact plines_out p k b hk h0 h1 w
  · obtain ⟨n, rfl⟩ : ∃ n : Nat, k = n := ⟨k.toNat, by omega⟩
    have hn : n < 2 := by omega
    unfold M.pLines
    rw [Int.toNat_natCast]
    by_cases m3 : (p.at n).mode = 3
    · rw [if_pos ⟨by omega, m3⟩]
      have h := plines_in p hp n hn m3 b h0 h1 _ _ rfl rfl _ rfl w
      refine h.mono ?_
      rintro e w' ⟨rfl, hb⟩
      refine ⟨?_, hb⟩
      congr 2
      rcases (show n = 0 ∨ n = 1 by omega) with rfl | rfl
      · show (if (M.lined (p.at 0) b).was && !(p.at 0).was then _ else _ : M.Pi2).a = (p.set (if (M.lined (p.at 0) b).was && !(p.at 0).was then _ else _) 0).a
        split <;> rfl
      · show (if (M.lined (p.at 1) b).was && !(p.at 1).was then _ else _ : M.Pi2).a = (p.set (if (M.lined (p.at 1) b).was && !(p.at 1).was then _ else _) 1).a
        split <;> rfl
    · rw [if_neg (fun h => m3 h.2)]
      exact plines_none p n hn m3 b h0 h1 w
end Go.Proofs.Ytmoafjgogbcoeaa
