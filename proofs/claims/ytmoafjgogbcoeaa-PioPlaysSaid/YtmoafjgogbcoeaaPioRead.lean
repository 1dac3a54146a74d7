/- pio.Read by its contract. -/
import Derived.Test.YtmoafjgogbcoeaaPioAck
namespace Go.Proofs.Ytmoafjgogbcoeaa
open Go.RowKit
set_option linter.unusedVariables false
set_option linter.unusedSimpArgs false
set_option maxRecDepth 100000
set_option maxHeartbeats 4000000 in
theorem pread_out (p : M.Pi2) (k : Int) (hk : k < 0 ∨ 1 < k) (w : World) : Calls Try.prog 44 #[.agg p.a, .int .i64 k] w fun e w' => e = .returned (.tuple #[.agg p.a, .int .u8 255]) ∧ Below w.heap.size w w' := by
  obtain ⟨Z, hZs, hZ'⟩ := zero80
  have hZ := Lib.hid hZ'
  have hc := pi_size p
  clear hZ'
  have g0 : p.a[0]'(by rw [hc]; decide) = .int .i64 p.p0.mode := rfl
  have g1 : p.a[11]'(by rw [hc]; decide) = .int .i64 p.p1.mode := rfl
  rcases hk with hk | hk
  · go_enter Try.func44, Try.ntmps44
    go_wp2_with (first
      | ((with_reducible refine is_allocT 80 rfl ?_); refine wpList_alloc_row rfl _ rfl Z hZ.out ?_)
      | ((with_reducible refine is_loadT 80 rfl ?_); refine wpList_load_row rfl _ _ rfl _ _ rfl _ Try.underlying80 rfl p.a (range_alloc (range_newA _ _ _) _) (info80c _) ?_)
      | ((with_reducible refine is_storeT 80 rfl ?_); refine wpList_store_rowT rfl _ _ _ rfl _ _ p.a rfl rfl (there_newB _ _ _ _ (by simp) (by rw [pi_size]; omega)) (info80c _) (pi_one _) ?_; intro W hW hT))
    refine bodyPost_ret (results_row_tmp rfl _ _ _ _ p.a _ rfl hW Try.underlying80 rfl (info80c _)) rfl ?_
    exact ⟨rfl, hT.below _ _ (by omega) (by simp; omega) (by go_grown)⟩
  · go_enter Try.func44, Try.ntmps44
    go_wp2_with (first
      | ((with_reducible refine is_allocT 80 rfl ?_); refine wpList_alloc_row rfl _ rfl Z hZ.out ?_)
      | ((with_reducible refine is_loadT 80 rfl ?_); refine wpList_load_row rfl _ _ rfl _ _ rfl _ Try.underlying80 rfl p.a (range_alloc (range_newA _ _ _) _) (info80c _) ?_)
      | ((with_reducible refine is_storeT 80 rfl ?_); refine wpList_store_rowT rfl _ _ _ rfl _ _ p.a rfl rfl (there_newB _ _ _ _ (by simp) (by rw [pi_size]; omega)) (info80c _) (pi_one _) ?_; intro W hW hT))
    refine bodyPost_ret (results_row_tmp rfl _ _ _ _ p.a _ rfl hW Try.underlying80 rfl (info80c _)) rfl ?_
    exact ⟨rfl, hT.below _ _ (by omega) (by simp; omega) (by go_grown)⟩
set_option maxHeartbeats 4000000 in
theorem pread_0 (p : M.Pi2) (n : Nat) (hn : n < 2) (m0 : (p.at n).mode = 0) (w : World) : Calls Try.prog 44 #[.agg p.a, .int .i64 n] w fun e w' => e = .returned (.tuple #[.agg p.a, .int .u8 (p.at n).out]) ∧ Below w.heap.size w w' := by
  obtain ⟨Z, hZs, hZ'⟩ := zero80
  have hZ := Lib.hid hZ'
  have hc := pi_size p
  clear hZ'
  have g0 : p.a[0]'(by rw [hc]; decide) = .int .i64 p.p0.mode := rfl
  have g1 : p.a[11]'(by rw [hc]; decide) = .int .i64 p.p1.mode := rfl
  rcases (show n = 0 ∨ n = 1 by omega) with rfl | rfl
  · have q0 : p.p0.mode = 0 := m0
    rw [q0] at g0
    clear q0 m0 g1
    have HP := Lib.hid (PAI.mk (w := w) ((pi_new w p 80).alloc (.cells Z 80)) (there_newB (b := w.heap.size + 1) (w.alloc (.cells p.a 80)) Z 80 22 (by simp) (by omega)) (by simp) (by go_grown))
    go_enter Try.func44, Try.ntmps44
    go_wp2_with ((with_reducible refine is_allocT 80 rfl ?_); refine wpList_alloc_row rfl _ rfl Z hZ.out ?_)
    refine wp_region_held_drew (S := fun W => PAI w W w.heap.size p) (by kernel_rfl) HP.out.drew ?_
    intro hS
    clear HP
    refine wpAnyH_take (i := 0) rfl (by kernel_rfl) (by kernel_rfl) (by kernel_rfl) (fun _ _ _ h => h) (yieldsIf_load_mid (by rfl) _ _ rfl _ _ rfl _ _ (fun W hW => hW.box.1) Try.underlying80 rfl (info80c _)) hS ?_
    try simp only [Act.put, List.setIfInBounds_toArray, List.set_cons_zero, List.set_cons_succ, List.getElem_toArray, List.getElem_cons_succ, List.getElem_cons_zero]
    refine wpAnyH_take (i := 1) (v := ?_) rfl (by kernel_rfl) (by kernel_rfl) (by kernel_rfl) (fun _ _ _ h => h) (Or.inl ⟨by rfl, ?_⟩) hS ?_
    rotate_left 1
    · intro W hW
      obtain ⟨⟨v1, v2, v3, v4⟩, ⟨v5, v6, v7, v8⟩⟩ := hW.cells
      clear hW
      go_simp
      all_goals with_reducible rfl
    try simp only [Act.put, List.setIfInBounds_toArray, List.set_cons_zero, List.set_cons_succ, List.getElem_toArray, List.getElem_cons_succ, List.getElem_cons_zero]
    refine wpAnyH_take (i := 2) (v := ?_) rfl (by kernel_rfl) (by kernel_rfl) (by kernel_rfl) (fun _ _ _ h => h) (Or.inl ⟨by rfl, ?_⟩) hS ?_
    rotate_left 1
    · intro W hW
      obtain ⟨⟨v1, v2, v3, v4⟩, ⟨v5, v6, v7, v8⟩⟩ := hW.cells
      clear hW
      go_simp
      all_goals with_reducible rfl
    try simp only [Act.put, List.setIfInBounds_toArray, List.set_cons_zero, List.set_cons_succ, List.getElem_toArray, List.getElem_cons_succ, List.getElem_cons_zero]
    refine wpAnyH_take (i := 3) (v := ?_) rfl (by kernel_rfl) (by kernel_rfl) (by kernel_rfl) (fun _ _ _ h => h) (Or.inl ⟨by rfl, ?_⟩) hS ?_
    rotate_left 1
    · intro W hW
      obtain ⟨⟨v1, v2, v3, v4⟩, ⟨v5, v6, v7, v8⟩⟩ := hW.cells
      clear hW
      go_simp
      all_goals with_reducible rfl
    try simp only [Act.put, List.setIfInBounds_toArray, List.set_cons_zero, List.set_cons_succ, List.getElem_toArray, List.getElem_cons_succ, List.getElem_cons_zero]
    refine wpAnyH_take (i := 4) (v := ?_) rfl (by kernel_rfl) (by kernel_rfl) (by kernel_rfl) (fun _ _ _ h => h) (Or.inl ⟨by rfl, ?_⟩) hS ?_
    rotate_left 1
    · intro W hW
      obtain ⟨⟨v1, v2, v3, v4⟩, ⟨v5, v6, v7, v8⟩⟩ := hW.cells
      clear hW
      go_simp
      all_goals with_reducible rfl
    try simp only [Act.put, List.setIfInBounds_toArray, List.set_cons_zero, List.set_cons_succ, List.getElem_toArray, List.getElem_cons_succ, List.getElem_cons_zero]
    refine wpAnyH_ready (rs := [5]) (by kernel_rfl) (by simp) (AllReadyH.cons rfl ?_ AllReadyH.nil)
    intro K1 hK1
    rw [if_pos (by rfl)]
    try simp only [Act.put, List.setIfInBounds_toArray, List.set_cons_zero, List.set_cons_succ, List.getElem_toArray, List.getElem_cons_succ, List.getElem_cons_zero]
    have hth := hS.res
    have hst := hS.store p.a.toList
    have r1 := World.rangeAt_setCells_same _ _ _ p.a.toList (by rw [Array.length_toList, pi_size]; exact hth)
    generalize World.drew _ = W1 at hS hth hst r1 ⊢
    with_reducible refine wp_store_mid ?g01 ?g02 ?g03 ?g04 ?g05 ?g06 p.a ?g1 ?g2 ?g3 ?g4 ?g5 ?_
    case g04 => with_reducible rfl
    case g1 => rfl
    case g2 => rfl
    case g3 => (rw [pi_size]; exact hth)
    case g4 => exact info80c _
    case g5 => exact pi_one _
    try simp only [Act.put, List.setIfInBounds_toArray, List.set_cons_zero, List.set_cons_succ, List.getElem_toArray, List.getElem_cons_succ, List.getElem_cons_zero]
    refine hK1.out _ _ hst (fun hS => ?_)
    clear hst hth
    generalize W1.setCells (w.heap.size + 1) 0 p.a.toList = W2 at hS r1 ⊢
    try simp only [Act.put, List.setIfInBounds_toArray, List.set_cons_zero, List.set_cons_succ, List.getElem_toArray, List.getElem_cons_succ, List.getElem_cons_zero]
    refine wpAnyH_take (i := 6) (v := ?_) rfl (by kernel_rfl) (by kernel_rfl) (by kernel_rfl) (fun _ _ _ h => h) (Or.inl ⟨by rfl, ?_⟩) hS ?_
    rotate_left 1
    · intro W hW
      obtain ⟨⟨v1, v2, v3, v4⟩, ⟨v5, v6, v7, v8⟩⟩ := hW.cells
      clear hW
      go_simp
      all_goals with_reducible rfl
    try simp only [Act.put, List.setIfInBounds_toArray, List.set_cons_zero, List.set_cons_succ, List.getElem_toArray, List.getElem_cons_succ, List.getElem_cons_zero]
    refine wpAnyH_done (by kernel_rfl) ?_ _
    have r4 := hS.below
    have q1 := Lib.hid r1
    clear hS r1 hK1
    go_wp2_with fail
    refine bodyPost_ret (results_row_tmp rfl _ _ _ _ p.a _ rfl q1.out Try.underlying80 rfl (info80c _)) rfl ?_
    exact ⟨rfl, r4⟩
  · have q0 : p.p1.mode = 0 := m0
    rw [q0] at g1
    clear q0 m0 g0
    have HP := Lib.hid (PAI.mk (w := w) ((pi_new w p 80).alloc (.cells Z 80)) (there_newB (b := w.heap.size + 1) (w.alloc (.cells p.a 80)) Z 80 22 (by simp) (by omega)) (by simp) (by go_grown))
    go_enter Try.func44, Try.ntmps44
    go_wp2_with ((with_reducible refine is_allocT 80 rfl ?_); refine wpList_alloc_row rfl _ rfl Z hZ.out ?_)
    refine wp_region_held_drew (S := fun W => PAI w W w.heap.size p) (by kernel_rfl) HP.out.drew ?_
    intro hS
    clear HP
    refine wpAnyH_take (i := 0) rfl (by kernel_rfl) (by kernel_rfl) (by kernel_rfl) (fun _ _ _ h => h) (yieldsIf_load_mid (by rfl) _ _ rfl _ _ rfl _ _ (fun W hW => hW.box.1) Try.underlying80 rfl (info80c _)) hS ?_
    try simp only [Act.put, List.setIfInBounds_toArray, List.set_cons_zero, List.set_cons_succ, List.getElem_toArray, List.getElem_cons_succ, List.getElem_cons_zero]
    refine wpAnyH_take (i := 1) (v := ?_) rfl (by kernel_rfl) (by kernel_rfl) (by kernel_rfl) (fun _ _ _ h => h) (Or.inl ⟨by rfl, ?_⟩) hS ?_
    rotate_left 1
    · intro W hW
      obtain ⟨⟨v1, v2, v3, v4⟩, ⟨v5, v6, v7, v8⟩⟩ := hW.cells
      clear hW
      go_simp
      all_goals with_reducible rfl
    try simp only [Act.put, List.setIfInBounds_toArray, List.set_cons_zero, List.set_cons_succ, List.getElem_toArray, List.getElem_cons_succ, List.getElem_cons_zero]
    refine wpAnyH_take (i := 2) (v := ?_) rfl (by kernel_rfl) (by kernel_rfl) (by kernel_rfl) (fun _ _ _ h => h) (Or.inl ⟨by rfl, ?_⟩) hS ?_
    rotate_left 1
    · intro W hW
      obtain ⟨⟨v1, v2, v3, v4⟩, ⟨v5, v6, v7, v8⟩⟩ := hW.cells
      clear hW
      go_simp
      all_goals with_reducible rfl
    try simp only [Act.put, List.setIfInBounds_toArray, List.set_cons_zero, List.set_cons_succ, List.getElem_toArray, List.getElem_cons_succ, List.getElem_cons_zero]
    refine wpAnyH_take (i := 3) (v := ?_) rfl (by kernel_rfl) (by kernel_rfl) (by kernel_rfl) (fun _ _ _ h => h) (Or.inl ⟨by rfl, ?_⟩) hS ?_
    rotate_left 1
    · intro W hW
      obtain ⟨⟨v1, v2, v3, v4⟩, ⟨v5, v6, v7, v8⟩⟩ := hW.cells
      clear hW
      go_simp
      all_goals with_reducible rfl
    try simp only [Act.put, List.setIfInBounds_toArray, List.set_cons_zero, List.set_cons_succ, List.getElem_toArray, List.getElem_cons_succ, List.getElem_cons_zero]
    refine wpAnyH_take (i := 4) (v := ?_) rfl (by kernel_rfl) (by kernel_rfl) (by kernel_rfl) (fun _ _ _ h => h) (Or.inl ⟨by rfl, ?_⟩) hS ?_
    rotate_left 1
    · intro W hW
      obtain ⟨⟨v1, v2, v3, v4⟩, ⟨v5, v6, v7, v8⟩⟩ := hW.cells
      clear hW
      go_simp
      all_goals with_reducible rfl
    try simp only [Act.put, List.setIfInBounds_toArray, List.set_cons_zero, List.set_cons_succ, List.getElem_toArray, List.getElem_cons_succ, List.getElem_cons_zero]
    refine wpAnyH_ready (rs := [5]) (by kernel_rfl) (by simp) (AllReadyH.cons rfl ?_ AllReadyH.nil)
    intro K1 hK1
    rw [if_pos (by rfl)]
    try simp only [Act.put, List.setIfInBounds_toArray, List.set_cons_zero, List.set_cons_succ, List.getElem_toArray, List.getElem_cons_succ, List.getElem_cons_zero]
    have hth := hS.res
    have hst := hS.store p.a.toList
    have r1 := World.rangeAt_setCells_same _ _ _ p.a.toList (by rw [Array.length_toList, pi_size]; exact hth)
    generalize World.drew _ = W1 at hS hth hst r1 ⊢
    with_reducible refine wp_store_mid ?g01 ?g02 ?g03 ?g04 ?g05 ?g06 p.a ?g1 ?g2 ?g3 ?g4 ?g5 ?_
    case g04 => with_reducible rfl
    case g1 => rfl
    case g2 => rfl
    case g3 => (rw [pi_size]; exact hth)
    case g4 => exact info80c _
    case g5 => exact pi_one _
    try simp only [Act.put, List.setIfInBounds_toArray, List.set_cons_zero, List.set_cons_succ, List.getElem_toArray, List.getElem_cons_succ, List.getElem_cons_zero]
    refine hK1.out _ _ hst (fun hS => ?_)
    clear hst hth
    generalize W1.setCells (w.heap.size + 1) 0 p.a.toList = W2 at hS r1 ⊢
    try simp only [Act.put, List.setIfInBounds_toArray, List.set_cons_zero, List.set_cons_succ, List.getElem_toArray, List.getElem_cons_succ, List.getElem_cons_zero]
    refine wpAnyH_take (i := 6) (v := ?_) rfl (by kernel_rfl) (by kernel_rfl) (by kernel_rfl) (fun _ _ _ h => h) (Or.inl ⟨by rfl, ?_⟩) hS ?_
    rotate_left 1
    · intro W hW
      obtain ⟨⟨v1, v2, v3, v4⟩, ⟨v5, v6, v7, v8⟩⟩ := hW.cells
      clear hW
      go_simp
      all_goals with_reducible rfl
    try simp only [Act.put, List.setIfInBounds_toArray, List.set_cons_zero, List.set_cons_succ, List.getElem_toArray, List.getElem_cons_succ, List.getElem_cons_zero]
    refine wpAnyH_done (by kernel_rfl) ?_ _
    have r4 := hS.below
    have q1 := Lib.hid r1
    clear hS r1 hK1
    go_wp2_with fail
    refine bodyPost_ret (results_row_tmp rfl _ _ _ _ p.a _ rfl q1.out Try.underlying80 rfl (info80c _)) rfl ?_
    exact ⟨rfl, r4⟩
set_option maxHeartbeats 4000000 in
theorem pread_12 (p : M.Pi2) (n : Nat) (hn : n < 2) (m12 : (p.at n).mode = 1 ∨ (p.at n).mode = 2) (w : World) : Calls Try.prog 44 #[.agg p.a, .int .i64 n] w fun e w' => e = .returned (.tuple #[.agg (p.set { p.at n with ready := true } n).a, .int .u8 (p.at n).inn]) ∧ Below w.heap.size w w' := by
  obtain ⟨Z, hZs, hZ'⟩ := zero80
  have hZ := Lib.hid hZ'
  have hc := pi_size p
  clear hZ'
  have g0 : p.a[0]'(by rw [hc]; decide) = .int .i64 p.p0.mode := rfl
  have g1 : p.a[11]'(by rw [hc]; decide) = .int .i64 p.p1.mode := rfl
  rcases (show n = 0 ∨ n = 1 by omega) with rfl | rfl
  · have hset : p.a.setIfInBounds 8 (.bool true) = (p.set { p.at 0 with ready := true } 0).a := rfl
    have hv : (p.at 0).inn = ((p.set { p.at 0 with ready := true } 0).at 0).inn := rfl
    rw [hv]
    generalize p.set { p.at 0 with ready := true } 0 = P2 at hset ⊢
    have q : p.p0.mode = 1 ∨ p.p0.mode = 2 := m12
    clear m12 hv g1
    rcases q with q | q
    all_goals
      rw [q] at g0
      clear q
      have HP := Lib.hid (PAI.mk (w := w) ((pi_new w P2 80).alloc (.cells Z 80)) (there_newB (b := w.heap.size + 1) (w.alloc (.cells P2.a 80)) Z 80 22 (by simp) (by omega)) (by simp) (by go_grown))
      go_enter Try.func44, Try.ntmps44
      go_wp2_with ((with_reducible refine is_allocT 80 rfl ?_); refine wpList_alloc_row rfl _ rfl Z hZ.out ?_)
      refine wp_region_held_drew (S := fun W => PAI w W w.heap.size P2) (by kernel_rfl) HP.out.drew ?_
      intro hS
      clear HP
      refine wpAnyH_take (i := 0) rfl (by kernel_rfl) (by kernel_rfl) (by kernel_rfl) (fun _ _ _ h => h) (yieldsIf_load_mid (by rfl) _ _ rfl _ _ rfl _ _ (fun W hW => hW.box.1) Try.underlying80 rfl (info80c _)) hS ?_
      try simp only [Act.put, List.setIfInBounds_toArray, List.set_cons_zero, List.set_cons_succ, List.getElem_toArray, List.getElem_cons_succ, List.getElem_cons_zero]
      refine wpAnyH_take (i := 1) (v := ?_) rfl (by kernel_rfl) (by kernel_rfl) (by kernel_rfl) (fun _ _ _ h => h) (Or.inl ⟨by rfl, ?_⟩) hS ?_
      rotate_left 1
      · intro W hW
        obtain ⟨⟨v1, v2, v3, v4⟩, ⟨v5, v6, v7, v8⟩⟩ := hW.cells
        clear hW
        go_simp
        all_goals with_reducible rfl
      try simp only [Act.put, List.setIfInBounds_toArray, List.set_cons_zero, List.set_cons_succ, List.getElem_toArray, List.getElem_cons_succ, List.getElem_cons_zero]
      refine wpAnyH_take (i := 2) (v := ?_) rfl (by kernel_rfl) (by kernel_rfl) (by kernel_rfl) (fun _ _ _ h => h) (Or.inl ⟨by rfl, ?_⟩) hS ?_
      rotate_left 1
      · intro W hW
        obtain ⟨⟨v1, v2, v3, v4⟩, ⟨v5, v6, v7, v8⟩⟩ := hW.cells
        clear hW
        go_simp
        all_goals with_reducible rfl
      try simp only [Act.put, List.setIfInBounds_toArray, List.set_cons_zero, List.set_cons_succ, List.getElem_toArray, List.getElem_cons_succ, List.getElem_cons_zero]
      refine wpAnyH_take (i := 3) (v := ?_) rfl (by kernel_rfl) (by kernel_rfl) (by kernel_rfl) (fun _ _ _ h => h) (Or.inl ⟨by rfl, ?_⟩) hS ?_
      rotate_left 1
      · intro W hW
        obtain ⟨⟨v1, v2, v3, v4⟩, ⟨v5, v6, v7, v8⟩⟩ := hW.cells
        clear hW
        go_simp
        all_goals with_reducible rfl
      try simp only [Act.put, List.setIfInBounds_toArray, List.set_cons_zero, List.set_cons_succ, List.getElem_toArray, List.getElem_cons_succ, List.getElem_cons_zero]
      refine wpAnyH_take (i := 4) (v := ?_) rfl (by kernel_rfl) (by kernel_rfl) (by kernel_rfl) (fun _ _ _ h => h) (Or.inl ⟨by rfl, ?_⟩) hS ?_
      rotate_left 1
      · intro W hW
        obtain ⟨⟨v1, v2, v3, v4⟩, ⟨v5, v6, v7, v8⟩⟩ := hW.cells
        clear hW
        go_simp
        all_goals with_reducible rfl
      try simp only [Act.put, List.setIfInBounds_toArray, List.set_cons_zero, List.set_cons_succ, List.getElem_toArray, List.getElem_cons_succ, List.getElem_cons_zero]
      refine wpAnyH_ready (rs := [5]) (by kernel_rfl) (by simp) (AllReadyH.cons rfl ?_ AllReadyH.nil)
      intro K1 hK1
      rw [if_pos (by rfl)]
      try simp only [Act.put, List.setIfInBounds_toArray, List.set_cons_zero, List.set_cons_succ, List.getElem_toArray, List.getElem_cons_succ, List.getElem_cons_zero]
      have hth := hS.res
      have hst := hS.store P2.a.toList
      have r1 := World.rangeAt_setCells_same _ _ _ P2.a.toList (by rw [Array.length_toList, pi_size]; exact hth)
      generalize World.drew _ = W1 at hS hth hst r1 ⊢
      with_reducible refine wp_store_mid ?g01 ?g02 ?g03 ?g04 ?g05 ?g06 P2.a ?g1 ?g2 ?g3 ?g4 ?g5 ?_
      case g04 => with_reducible rfl
      case g1 => rfl
      case g2 => rfl
      case g3 => (rw [pi_size]; exact hth)
      case g4 => exact info80c _
      case g5 => exact pi_one _
      try simp only [Act.put, List.setIfInBounds_toArray, List.set_cons_zero, List.set_cons_succ, List.getElem_toArray, List.getElem_cons_succ, List.getElem_cons_zero]
      refine hK1.out _ _ hst (fun hS => ?_)
      clear hst hth
      generalize W1.setCells (w.heap.size + 1) 0 P2.a.toList = W2 at hS r1 ⊢
      try simp only [Act.put, List.setIfInBounds_toArray, List.set_cons_zero, List.set_cons_succ, List.getElem_toArray, List.getElem_cons_succ, List.getElem_cons_zero]
      refine wpAnyH_take (i := 6) (v := ?_) rfl (by kernel_rfl) (by kernel_rfl) (by kernel_rfl) (fun _ _ _ h => h) (Or.inl ⟨by rfl, ?_⟩) hS ?_
      rotate_left 1
      · intro W hW
        obtain ⟨⟨v1, v2, v3, v4⟩, ⟨v5, v6, v7, v8⟩⟩ := hW.cells
        clear hW
        go_simp
        all_goals with_reducible rfl
      try simp only [Act.put, List.setIfInBounds_toArray, List.set_cons_zero, List.set_cons_succ, List.getElem_toArray, List.getElem_cons_succ, List.getElem_cons_zero]
      refine wpAnyH_done (by kernel_rfl) ?_ _
      have r4 := hS.below
      have q1 := Lib.hid r1
      clear hS r1 hK1
      go_wp2_with fail
      refine bodyPost_ret (results_row_tmp rfl _ _ _ _ P2.a _ rfl q1.out Try.underlying80 rfl (info80c _)) rfl ?_
      exact ⟨rfl, r4⟩
  · have hset : p.a.setIfInBounds 19 (.bool true) = (p.set { p.at 1 with ready := true } 1).a := rfl
    have hv : (p.at 1).inn = ((p.set { p.at 1 with ready := true } 1).at 1).inn := rfl
    rw [hv]
    generalize p.set { p.at 1 with ready := true } 1 = P2 at hset ⊢
    have q : p.p1.mode = 1 ∨ p.p1.mode = 2 := m12
    clear m12 hv g0
    rcases q with q | q
    all_goals
      rw [q] at g1
      clear q
      have HP := Lib.hid (PAI.mk (w := w) ((pi_new w P2 80).alloc (.cells Z 80)) (there_newB (b := w.heap.size + 1) (w.alloc (.cells P2.a 80)) Z 80 22 (by simp) (by omega)) (by simp) (by go_grown))
      go_enter Try.func44, Try.ntmps44
      go_wp2_with ((with_reducible refine is_allocT 80 rfl ?_); refine wpList_alloc_row rfl _ rfl Z hZ.out ?_)
      refine wp_region_held_drew (S := fun W => PAI w W w.heap.size P2) (by kernel_rfl) HP.out.drew ?_
      intro hS
      clear HP
      refine wpAnyH_take (i := 0) rfl (by kernel_rfl) (by kernel_rfl) (by kernel_rfl) (fun _ _ _ h => h) (yieldsIf_load_mid (by rfl) _ _ rfl _ _ rfl _ _ (fun W hW => hW.box.1) Try.underlying80 rfl (info80c _)) hS ?_
      try simp only [Act.put, List.setIfInBounds_toArray, List.set_cons_zero, List.set_cons_succ, List.getElem_toArray, List.getElem_cons_succ, List.getElem_cons_zero]
      refine wpAnyH_take (i := 1) (v := ?_) rfl (by kernel_rfl) (by kernel_rfl) (by kernel_rfl) (fun _ _ _ h => h) (Or.inl ⟨by rfl, ?_⟩) hS ?_
      rotate_left 1
      · intro W hW
        obtain ⟨⟨v1, v2, v3, v4⟩, ⟨v5, v6, v7, v8⟩⟩ := hW.cells
        clear hW
        go_simp
        all_goals with_reducible rfl
      try simp only [Act.put, List.setIfInBounds_toArray, List.set_cons_zero, List.set_cons_succ, List.getElem_toArray, List.getElem_cons_succ, List.getElem_cons_zero]
      refine wpAnyH_take (i := 2) (v := ?_) rfl (by kernel_rfl) (by kernel_rfl) (by kernel_rfl) (fun _ _ _ h => h) (Or.inl ⟨by rfl, ?_⟩) hS ?_
      rotate_left 1
      · intro W hW
        obtain ⟨⟨v1, v2, v3, v4⟩, ⟨v5, v6, v7, v8⟩⟩ := hW.cells
        clear hW
        go_simp
        all_goals with_reducible rfl
      try simp only [Act.put, List.setIfInBounds_toArray, List.set_cons_zero, List.set_cons_succ, List.getElem_toArray, List.getElem_cons_succ, List.getElem_cons_zero]
      refine wpAnyH_take (i := 3) (v := ?_) rfl (by kernel_rfl) (by kernel_rfl) (by kernel_rfl) (fun _ _ _ h => h) (Or.inl ⟨by rfl, ?_⟩) hS ?_
      rotate_left 1
      · intro W hW
        obtain ⟨⟨v1, v2, v3, v4⟩, ⟨v5, v6, v7, v8⟩⟩ := hW.cells
        clear hW
        go_simp
        all_goals with_reducible rfl
      try simp only [Act.put, List.setIfInBounds_toArray, List.set_cons_zero, List.set_cons_succ, List.getElem_toArray, List.getElem_cons_succ, List.getElem_cons_zero]
      refine wpAnyH_take (i := 4) (v := ?_) rfl (by kernel_rfl) (by kernel_rfl) (by kernel_rfl) (fun _ _ _ h => h) (Or.inl ⟨by rfl, ?_⟩) hS ?_
      rotate_left 1
      · intro W hW
        obtain ⟨⟨v1, v2, v3, v4⟩, ⟨v5, v6, v7, v8⟩⟩ := hW.cells
        clear hW
        go_simp
        all_goals with_reducible rfl
      try simp only [Act.put, List.setIfInBounds_toArray, List.set_cons_zero, List.set_cons_succ, List.getElem_toArray, List.getElem_cons_succ, List.getElem_cons_zero]
      refine wpAnyH_ready (rs := [5]) (by kernel_rfl) (by simp) (AllReadyH.cons rfl ?_ AllReadyH.nil)
      intro K1 hK1
      rw [if_pos (by rfl)]
      try simp only [Act.put, List.setIfInBounds_toArray, List.set_cons_zero, List.set_cons_succ, List.getElem_toArray, List.getElem_cons_succ, List.getElem_cons_zero]
      have hth := hS.res
      have hst := hS.store P2.a.toList
      have r1 := World.rangeAt_setCells_same _ _ _ P2.a.toList (by rw [Array.length_toList, pi_size]; exact hth)
      generalize World.drew _ = W1 at hS hth hst r1 ⊢
      with_reducible refine wp_store_mid ?g01 ?g02 ?g03 ?g04 ?g05 ?g06 P2.a ?g1 ?g2 ?g3 ?g4 ?g5 ?_
      case g04 => with_reducible rfl
      case g1 => rfl
      case g2 => rfl
      case g3 => (rw [pi_size]; exact hth)
      case g4 => exact info80c _
      case g5 => exact pi_one _
      try simp only [Act.put, List.setIfInBounds_toArray, List.set_cons_zero, List.set_cons_succ, List.getElem_toArray, List.getElem_cons_succ, List.getElem_cons_zero]
      refine hK1.out _ _ hst (fun hS => ?_)
      clear hst hth
      generalize W1.setCells (w.heap.size + 1) 0 P2.a.toList = W2 at hS r1 ⊢
      try simp only [Act.put, List.setIfInBounds_toArray, List.set_cons_zero, List.set_cons_succ, List.getElem_toArray, List.getElem_cons_succ, List.getElem_cons_zero]
      refine wpAnyH_take (i := 6) (v := ?_) rfl (by kernel_rfl) (by kernel_rfl) (by kernel_rfl) (fun _ _ _ h => h) (Or.inl ⟨by rfl, ?_⟩) hS ?_
      rotate_left 1
      · intro W hW
        obtain ⟨⟨v1, v2, v3, v4⟩, ⟨v5, v6, v7, v8⟩⟩ := hW.cells
        clear hW
        go_simp
        all_goals with_reducible rfl
      try simp only [Act.put, List.setIfInBounds_toArray, List.set_cons_zero, List.set_cons_succ, List.getElem_toArray, List.getElem_cons_succ, List.getElem_cons_zero]
      refine wpAnyH_done (by kernel_rfl) ?_ _
      have r4 := hS.below
      have q1 := Lib.hid r1
      clear hS r1 hK1
      go_wp2_with fail
      refine bodyPost_ret (results_row_tmp rfl _ _ _ _ P2.a _ rfl q1.out Try.underlying80 rfl (info80c _)) rfl ?_
      exact ⟨rfl, r4⟩
set_option maxHeartbeats 4000000 in
theorem pread_3 (p : M.Pi2) (n : Nat) (hn : n < 2) (m0 : (p.at n).mode ≠ 0) (m1 : (p.at n).mode ≠ 1) (m2 : (p.at n).mode ≠ 2) (w : World) : Calls Try.prog 44 #[.agg p.a, .int .i64 n] w fun e w' => e = .returned (.tuple #[.agg p.a, .int .u8 (M.mixedB (p.at n))]) ∧ Below w.heap.size w w' := by
  obtain ⟨Z, hZs, hZ'⟩ := zero80
  have hZ := Lib.hid hZ'
  have hc := pi_size p
  clear hZ'
  have g0 : p.a[0]'(by rw [hc]; decide) = .int .i64 p.p0.mode := rfl
  have g1 : p.a[11]'(by rw [hc]; decide) = .int .i64 p.p1.mode := rfl
  have q0 : ((p.at n).mode == 0) = false := by simpa using m0
  have q1 : ((p.at n).mode == 1) = false := by simpa using m1
  have q2 : ((p.at n).mode == 2) = false := by simpa using m2
  rcases (show n = 0 ∨ n = 1 by omega) with rfl | rfl
  · simp only [M.Pi2.at] at m0 m1 m2 q0 q1 q2
    have HP := Lib.hid (PAI.mk (w := w) ((pi_new w p 80).alloc (.cells Z 80)) (there_newB (b := w.heap.size + 1) (w.alloc (.cells p.a 80)) Z 80 22 (by simp) (by omega)) (by simp) (by go_grown))
    go_enter Try.func44, Try.ntmps44
    go_wp2_with ((with_reducible refine is_allocT 80 rfl ?_); refine wpList_alloc_row rfl _ rfl Z hZ.out ?_)
    refine wp_region_held_drew (S := fun W => PAI w W w.heap.size p) (by kernel_rfl) HP.out.drew ?_
    intro hS
    clear HP
    refine wpAnyH_take (i := 0) rfl (by kernel_rfl) (by kernel_rfl) (by kernel_rfl) (fun _ _ _ h => h) (yieldsIf_load_mid (by rfl) _ _ rfl _ _ rfl _ _ (fun W hW => hW.box.1) Try.underlying80 rfl (info80c _)) hS ?_
    try simp only [Act.put, List.setIfInBounds_toArray, List.set_cons_zero, List.set_cons_succ, List.getElem_toArray, List.getElem_cons_succ, List.getElem_cons_zero]
    refine wpAnyH_take (i := 1) (v := ?_) rfl (by kernel_rfl) (by kernel_rfl) (by kernel_rfl) (fun _ _ _ h => h) (Or.inl ⟨by rfl, ?_⟩) hS ?_
    rotate_left 1
    · intro W hW
      obtain ⟨⟨v1, v2, v3, v4⟩, ⟨v5, v6, v7, v8⟩⟩ := hW.cells
      clear hW
      go_simp
      all_goals with_reducible rfl
    try simp only [Act.put, List.setIfInBounds_toArray, List.set_cons_zero, List.set_cons_succ, List.getElem_toArray, List.getElem_cons_succ, List.getElem_cons_zero]
    refine wpAnyH_take (i := 2) (v := ?_) rfl (by kernel_rfl) (by kernel_rfl) (by kernel_rfl) (fun _ _ _ h => h) (Or.inl ⟨by rfl, ?_⟩) hS ?_
    rotate_left 1
    · intro W hW
      obtain ⟨⟨v1, v2, v3, v4⟩, ⟨v5, v6, v7, v8⟩⟩ := hW.cells
      clear hW
      go_simp
      all_goals with_reducible rfl
    try simp only [Act.put, List.setIfInBounds_toArray, List.set_cons_zero, List.set_cons_succ, List.getElem_toArray, List.getElem_cons_succ, List.getElem_cons_zero]
    refine wpAnyH_take (i := 3) (v := ?_) rfl (by kernel_rfl) (by kernel_rfl) (by kernel_rfl) (fun _ _ _ h => h) (Or.inl ⟨by rfl, ?_⟩) hS ?_
    rotate_left 1
    · intro W hW
      obtain ⟨⟨v1, v2, v3, v4⟩, ⟨v5, v6, v7, v8⟩⟩ := hW.cells
      clear hW
      go_simp
      all_goals with_reducible rfl
    try simp only [Act.put, List.setIfInBounds_toArray, List.set_cons_zero, List.set_cons_succ, List.getElem_toArray, List.getElem_cons_succ, List.getElem_cons_zero]
    refine wpAnyH_take (i := 4) (v := ?_) rfl (by kernel_rfl) (by kernel_rfl) (by kernel_rfl) (fun _ _ _ h => h) (Or.inl ⟨by rfl, ?_⟩) hS ?_
    rotate_left 1
    · intro W hW
      obtain ⟨⟨v1, v2, v3, v4⟩, ⟨v5, v6, v7, v8⟩⟩ := hW.cells
      clear hW
      go_simp
      all_goals with_reducible rfl
    try simp only [Act.put, List.setIfInBounds_toArray, List.set_cons_zero, List.set_cons_succ, List.getElem_toArray, List.getElem_cons_succ, List.getElem_cons_zero]
    refine wpAnyH_take (i := 5) (v := ?_) rfl (by kernel_rfl) (by kernel_rfl) (by kernel_rfl) (fun _ _ _ h => h) (Or.inl ⟨by rfl, ?_⟩) hS ?_
    rotate_left 1
    · intro W hW
      obtain ⟨⟨v1, v2, v3, v4⟩, ⟨v5, v6, v7, v8⟩⟩ := hW.cells
      clear hW
      go_simp
      all_goals with_reducible rfl
    try simp only [Act.put, List.setIfInBounds_toArray, List.set_cons_zero, List.set_cons_succ, List.getElem_toArray, List.getElem_cons_succ, List.getElem_cons_zero]
    refine wpAnyH_take (i := 6) (v := ?_) rfl (by kernel_rfl) (by kernel_rfl) (by kernel_rfl) (fun _ _ _ h => h) (Or.inl ⟨by rfl, ?_⟩) hS ?_
    rotate_left 1
    · intro W hW
      obtain ⟨⟨v1, v2, v3, v4⟩, ⟨v5, v6, v7, v8⟩⟩ := hW.cells
      clear hW
      go_simp
      all_goals with_reducible rfl
    try simp only [Act.put, List.setIfInBounds_toArray, List.set_cons_zero, List.set_cons_succ, List.getElem_toArray, List.getElem_cons_succ, List.getElem_cons_zero]
    refine wpAnyH_take (i := 7) (v := ?_) rfl (by kernel_rfl) (by kernel_rfl) (by kernel_rfl) (fun _ _ _ h => h) (Or.inl ⟨by rfl, ?_⟩) hS ?_
    rotate_left 1
    · intro W hW
      obtain ⟨⟨v1, v2, v3, v4⟩, ⟨v5, v6, v7, v8⟩⟩ := hW.cells
      clear hW
      go_simp
      all_goals with_reducible rfl
    try simp only [Act.put, List.setIfInBounds_toArray, List.set_cons_zero, List.set_cons_succ, List.getElem_toArray, List.getElem_cons_succ, List.getElem_cons_zero]
    refine wpAnyH_take (i := 8) (v := ?_) rfl (by kernel_rfl) (by kernel_rfl) (by kernel_rfl) (fun _ _ _ h => h) (Or.inl ⟨by rfl, ?_⟩) hS ?_
    rotate_left 1
    · intro W hW
      obtain ⟨⟨v1, v2, v3, v4⟩, ⟨v5, v6, v7, v8⟩⟩ := hW.cells
      clear hW
      go_simp
      all_goals with_reducible rfl
    try simp only [Act.put, List.setIfInBounds_toArray, List.set_cons_zero, List.set_cons_succ, List.getElem_toArray, List.getElem_cons_succ, List.getElem_cons_zero]
    refine wpAnyH_take (i := 9) (v := ?_) rfl (by kernel_rfl) (by kernel_rfl) (by kernel_rfl) (fun _ _ _ h => h) (Or.inl ⟨by rfl, ?_⟩) hS ?_
    rotate_left 1
    · intro W hW
      obtain ⟨⟨v1, v2, v3, v4⟩, ⟨v5, v6, v7, v8⟩⟩ := hW.cells
      clear hW
      go_simp
      all_goals with_reducible rfl
    try simp only [Act.put, List.setIfInBounds_toArray, List.set_cons_zero, List.set_cons_succ, List.getElem_toArray, List.getElem_cons_succ, List.getElem_cons_zero]
    refine wpAnyH_take (i := 10) (v := ?_) rfl (by kernel_rfl) (by kernel_rfl) (by kernel_rfl) (fun _ _ _ h => h) (Or.inl ⟨by rfl, ?_⟩) hS ?_
    rotate_left 1
    · intro W hW
      obtain ⟨⟨v1, v2, v3, v4⟩, ⟨v5, v6, v7, v8⟩⟩ := hW.cells
      clear hW
      go_simp
      all_goals with_reducible rfl
    try simp only [Act.put, List.setIfInBounds_toArray, List.set_cons_zero, List.set_cons_succ, List.getElem_toArray, List.getElem_cons_succ, List.getElem_cons_zero]
    refine wpAnyH_take (i := 11) (v := ?_) rfl (by kernel_rfl) (by kernel_rfl) (by kernel_rfl) (fun _ _ _ h => h) (Or.inl ⟨by rfl, ?_⟩) hS ?_
    rotate_left 1
    · intro W hW
      obtain ⟨⟨v1, v2, v3, v4⟩, ⟨v5, v6, v7, v8⟩⟩ := hW.cells
      clear hW
      go_simp
      all_goals with_reducible rfl
    try simp only [Act.put, List.setIfInBounds_toArray, List.set_cons_zero, List.set_cons_succ, List.getElem_toArray, List.getElem_cons_succ, List.getElem_cons_zero]
    refine wpAnyH_take (i := 12) (v := ?_) rfl (by kernel_rfl) (by kernel_rfl) (by kernel_rfl) (fun _ _ _ h => h) (Or.inl ⟨by rfl, ?_⟩) hS ?_
    rotate_left 1
    · intro W hW
      obtain ⟨⟨v1, v2, v3, v4⟩, ⟨v5, v6, v7, v8⟩⟩ := hW.cells
      clear hW
      go_simp
      all_goals with_reducible rfl
    try simp only [Act.put, List.setIfInBounds_toArray, List.set_cons_zero, List.set_cons_succ, List.getElem_toArray, List.getElem_cons_succ, List.getElem_cons_zero]
    refine wpAnyH_take (i := 13) (v := ?_) rfl (by kernel_rfl) (by kernel_rfl) (by kernel_rfl) (fun _ _ _ h => h) (Or.inl ⟨by rfl, ?_⟩) hS ?_
    rotate_left 1
    · intro W hW
      obtain ⟨⟨v1, v2, v3, v4⟩, ⟨v5, v6, v7, v8⟩⟩ := hW.cells
      clear hW
      go_simp
      all_goals with_reducible rfl
    try simp only [Act.put, List.setIfInBounds_toArray, List.set_cons_zero, List.set_cons_succ, List.getElem_toArray, List.getElem_cons_succ, List.getElem_cons_zero]
    refine wpAnyH_take (i := 14) (v := ?_) rfl (by kernel_rfl) (by kernel_rfl) (by kernel_rfl) (fun _ _ _ h => h) (Or.inl ⟨by rfl, ?_⟩) hS ?_
    rotate_left 1
    · intro W hW
      obtain ⟨⟨v1, v2, v3, v4⟩, ⟨v5, v6, v7, v8⟩⟩ := hW.cells
      clear hW
      go_simp
      all_goals with_reducible rfl
    try simp only [Act.put, List.setIfInBounds_toArray, List.set_cons_zero, List.set_cons_succ, List.getElem_toArray, List.getElem_cons_succ, List.getElem_cons_zero]
    refine wpAnyH_take (i := 15) (v := ?_) rfl (by kernel_rfl) (by kernel_rfl) (by kernel_rfl) (fun _ _ _ h => h) (Or.inl ⟨by rfl, ?_⟩) hS ?_
    rotate_left 1
    · intro W hW
      obtain ⟨⟨v1, v2, v3, v4⟩, ⟨v5, v6, v7, v8⟩⟩ := hW.cells
      clear hW
      go_simp
      all_goals with_reducible rfl
    try simp only [Act.put, List.setIfInBounds_toArray, List.set_cons_zero, List.set_cons_succ, List.getElem_toArray, List.getElem_cons_succ, List.getElem_cons_zero]
    refine wpAnyH_take (i := 16) (v := ?_) rfl (by kernel_rfl) (by kernel_rfl) (by kernel_rfl) (fun _ _ _ h => h) (Or.inl ⟨by rfl, ?_⟩) hS ?_
    rotate_left 1
    · intro W hW
      obtain ⟨⟨v1, v2, v3, v4⟩, ⟨v5, v6, v7, v8⟩⟩ := hW.cells
      clear hW
      go_simp
      all_goals with_reducible rfl
    try simp only [Act.put, List.setIfInBounds_toArray, List.set_cons_zero, List.set_cons_succ, List.getElem_toArray, List.getElem_cons_succ, List.getElem_cons_zero]
    refine wpAnyH_take (i := 17) (v := ?_) rfl (by kernel_rfl) (by kernel_rfl) (by kernel_rfl) (fun _ _ _ h => h) (Or.inl ⟨by rfl, ?_⟩) hS ?_
    rotate_left 1
    · intro W hW
      obtain ⟨⟨v1, v2, v3, v4⟩, ⟨v5, v6, v7, v8⟩⟩ := hW.cells
      clear hW
      go_simp
      all_goals with_reducible rfl
    try simp only [Act.put, List.setIfInBounds_toArray, List.set_cons_zero, List.set_cons_succ, List.getElem_toArray, List.getElem_cons_succ, List.getElem_cons_zero]
    refine wpAnyH_take (i := 18) (v := ?_) rfl (by kernel_rfl) (by kernel_rfl) (by kernel_rfl) (fun _ _ _ h => h) (Or.inl ⟨by rfl, ?_⟩) hS ?_
    rotate_left 1
    · intro W hW
      obtain ⟨⟨v1, v2, v3, v4⟩, ⟨v5, v6, v7, v8⟩⟩ := hW.cells
      clear hW
      go_simp
      all_goals with_reducible rfl
    try simp only [Act.put, List.setIfInBounds_toArray, List.set_cons_zero, List.set_cons_succ, List.getElem_toArray, List.getElem_cons_succ, List.getElem_cons_zero]
    refine wpAnyH_take (i := 19) (v := ?_) rfl (by kernel_rfl) (by kernel_rfl) (by kernel_rfl) (fun _ _ _ h => h) (Or.inl ⟨by rfl, ?_⟩) hS ?_
    rotate_left 1
    · intro W hW
      obtain ⟨⟨v1, v2, v3, v4⟩, ⟨v5, v6, v7, v8⟩⟩ := hW.cells
      clear hW
      go_simp
      all_goals with_reducible rfl
    try simp only [Act.put, List.setIfInBounds_toArray, List.set_cons_zero, List.set_cons_succ, List.getElem_toArray, List.getElem_cons_succ, List.getElem_cons_zero]
    refine wpAnyH_ready (rs := [20]) (by kernel_rfl) (by simp) (AllReadyH.cons rfl ?_ AllReadyH.nil)
    intro K1 hK1
    rw [if_pos (by rfl)]
    try simp only [Act.put, List.setIfInBounds_toArray, List.set_cons_zero, List.set_cons_succ, List.getElem_toArray, List.getElem_cons_succ, List.getElem_cons_zero]
    have hth := hS.res
    have hst := hS.store p.a.toList
    have r1 := World.rangeAt_setCells_same _ _ _ p.a.toList (by rw [Array.length_toList, pi_size]; exact hth)
    generalize World.drew _ = W1 at hS hth hst r1 ⊢
    with_reducible refine wp_store_mid ?g01 ?g02 ?g03 ?g04 ?g05 ?g06 p.a ?g1 ?g2 ?g3 ?g4 ?g5 ?_
    case g04 => with_reducible rfl
    case g1 => rfl
    case g2 => rfl
    case g3 => (rw [pi_size]; exact hth)
    case g4 => exact info80c _
    case g5 => exact pi_one _
    try simp only [Act.put, List.setIfInBounds_toArray, List.set_cons_zero, List.set_cons_succ, List.getElem_toArray, List.getElem_cons_succ, List.getElem_cons_zero]
    refine hK1.out _ _ hst (fun hS => ?_)
    clear hst hth
    generalize W1.setCells (w.heap.size + 1) 0 p.a.toList = W2 at hS r1 ⊢
    try simp only [Act.put, List.setIfInBounds_toArray, List.set_cons_zero, List.set_cons_succ, List.getElem_toArray, List.getElem_cons_succ, List.getElem_cons_zero]
    refine wpAnyH_take (i := 21) (v := ?_) rfl (by kernel_rfl) (by kernel_rfl) (by kernel_rfl) (fun _ _ _ h => h) (Or.inl ⟨by rfl, ?_⟩) hS ?_
    rotate_left 1
    · intro W hW
      obtain ⟨⟨v1, v2, v3, v4⟩, ⟨v5, v6, v7, v8⟩⟩ := hW.cells
      clear hW
      go_simp
      all_goals with_reducible rfl
    try simp only [Act.put, List.setIfInBounds_toArray, List.set_cons_zero, List.set_cons_succ, List.getElem_toArray, List.getElem_cons_succ, List.getElem_cons_zero]
    refine wpAnyH_done (by kernel_rfl) ?_ _
    have r4 := hS.below
    have q1 := Lib.hid r1
    clear hS r1 hK1
    go_wp2_with fail
    refine bodyPost_ret (results_row_tmp rfl _ _ _ _ p.a _ rfl q1.out Try.underlying80 rfl (info80c _)) rfl ?_
    exact ⟨rfl, r4⟩
  · simp only [M.Pi2.at] at m0 m1 m2 q0 q1 q2
    have HP := Lib.hid (PAI.mk (w := w) ((pi_new w p 80).alloc (.cells Z 80)) (there_newB (b := w.heap.size + 1) (w.alloc (.cells p.a 80)) Z 80 22 (by simp) (by omega)) (by simp) (by go_grown))
    go_enter Try.func44, Try.ntmps44
    go_wp2_with ((with_reducible refine is_allocT 80 rfl ?_); refine wpList_alloc_row rfl _ rfl Z hZ.out ?_)
    refine wp_region_held_drew (S := fun W => PAI w W w.heap.size p) (by kernel_rfl) HP.out.drew ?_
    intro hS
    clear HP
    refine wpAnyH_take (i := 0) rfl (by kernel_rfl) (by kernel_rfl) (by kernel_rfl) (fun _ _ _ h => h) (yieldsIf_load_mid (by rfl) _ _ rfl _ _ rfl _ _ (fun W hW => hW.box.1) Try.underlying80 rfl (info80c _)) hS ?_
    try simp only [Act.put, List.setIfInBounds_toArray, List.set_cons_zero, List.set_cons_succ, List.getElem_toArray, List.getElem_cons_succ, List.getElem_cons_zero]
    refine wpAnyH_take (i := 1) (v := ?_) rfl (by kernel_rfl) (by kernel_rfl) (by kernel_rfl) (fun _ _ _ h => h) (Or.inl ⟨by rfl, ?_⟩) hS ?_
    rotate_left 1
    · intro W hW
      obtain ⟨⟨v1, v2, v3, v4⟩, ⟨v5, v6, v7, v8⟩⟩ := hW.cells
      clear hW
      go_simp
      all_goals with_reducible rfl
    try simp only [Act.put, List.setIfInBounds_toArray, List.set_cons_zero, List.set_cons_succ, List.getElem_toArray, List.getElem_cons_succ, List.getElem_cons_zero]
    refine wpAnyH_take (i := 2) (v := ?_) rfl (by kernel_rfl) (by kernel_rfl) (by kernel_rfl) (fun _ _ _ h => h) (Or.inl ⟨by rfl, ?_⟩) hS ?_
    rotate_left 1
    · intro W hW
      obtain ⟨⟨v1, v2, v3, v4⟩, ⟨v5, v6, v7, v8⟩⟩ := hW.cells
      clear hW
      go_simp
      all_goals with_reducible rfl
    try simp only [Act.put, List.setIfInBounds_toArray, List.set_cons_zero, List.set_cons_succ, List.getElem_toArray, List.getElem_cons_succ, List.getElem_cons_zero]
    refine wpAnyH_take (i := 3) (v := ?_) rfl (by kernel_rfl) (by kernel_rfl) (by kernel_rfl) (fun _ _ _ h => h) (Or.inl ⟨by rfl, ?_⟩) hS ?_
    rotate_left 1
    · intro W hW
      obtain ⟨⟨v1, v2, v3, v4⟩, ⟨v5, v6, v7, v8⟩⟩ := hW.cells
      clear hW
      go_simp
      all_goals with_reducible rfl
    try simp only [Act.put, List.setIfInBounds_toArray, List.set_cons_zero, List.set_cons_succ, List.getElem_toArray, List.getElem_cons_succ, List.getElem_cons_zero]
    refine wpAnyH_take (i := 4) (v := ?_) rfl (by kernel_rfl) (by kernel_rfl) (by kernel_rfl) (fun _ _ _ h => h) (Or.inl ⟨by rfl, ?_⟩) hS ?_
    rotate_left 1
    · intro W hW
      obtain ⟨⟨v1, v2, v3, v4⟩, ⟨v5, v6, v7, v8⟩⟩ := hW.cells
      clear hW
      go_simp
      all_goals with_reducible rfl
    try simp only [Act.put, List.setIfInBounds_toArray, List.set_cons_zero, List.set_cons_succ, List.getElem_toArray, List.getElem_cons_succ, List.getElem_cons_zero]
    refine wpAnyH_take (i := 5) (v := ?_) rfl (by kernel_rfl) (by kernel_rfl) (by kernel_rfl) (fun _ _ _ h => h) (Or.inl ⟨by rfl, ?_⟩) hS ?_
    rotate_left 1
    · intro W hW
      obtain ⟨⟨v1, v2, v3, v4⟩, ⟨v5, v6, v7, v8⟩⟩ := hW.cells
      clear hW
      go_simp
      all_goals with_reducible rfl
    try simp only [Act.put, List.setIfInBounds_toArray, List.set_cons_zero, List.set_cons_succ, List.getElem_toArray, List.getElem_cons_succ, List.getElem_cons_zero]
    refine wpAnyH_take (i := 6) (v := ?_) rfl (by kernel_rfl) (by kernel_rfl) (by kernel_rfl) (fun _ _ _ h => h) (Or.inl ⟨by rfl, ?_⟩) hS ?_
    rotate_left 1
    · intro W hW
      obtain ⟨⟨v1, v2, v3, v4⟩, ⟨v5, v6, v7, v8⟩⟩ := hW.cells
      clear hW
      go_simp
      all_goals with_reducible rfl
    try simp only [Act.put, List.setIfInBounds_toArray, List.set_cons_zero, List.set_cons_succ, List.getElem_toArray, List.getElem_cons_succ, List.getElem_cons_zero]
    refine wpAnyH_take (i := 7) (v := ?_) rfl (by kernel_rfl) (by kernel_rfl) (by kernel_rfl) (fun _ _ _ h => h) (Or.inl ⟨by rfl, ?_⟩) hS ?_
    rotate_left 1
    · intro W hW
      obtain ⟨⟨v1, v2, v3, v4⟩, ⟨v5, v6, v7, v8⟩⟩ := hW.cells
      clear hW
      go_simp
      all_goals with_reducible rfl
    try simp only [Act.put, List.setIfInBounds_toArray, List.set_cons_zero, List.set_cons_succ, List.getElem_toArray, List.getElem_cons_succ, List.getElem_cons_zero]
    refine wpAnyH_take (i := 8) (v := ?_) rfl (by kernel_rfl) (by kernel_rfl) (by kernel_rfl) (fun _ _ _ h => h) (Or.inl ⟨by rfl, ?_⟩) hS ?_
    rotate_left 1
    · intro W hW
      obtain ⟨⟨v1, v2, v3, v4⟩, ⟨v5, v6, v7, v8⟩⟩ := hW.cells
      clear hW
      go_simp
      all_goals with_reducible rfl
    try simp only [Act.put, List.setIfInBounds_toArray, List.set_cons_zero, List.set_cons_succ, List.getElem_toArray, List.getElem_cons_succ, List.getElem_cons_zero]
    refine wpAnyH_take (i := 9) (v := ?_) rfl (by kernel_rfl) (by kernel_rfl) (by kernel_rfl) (fun _ _ _ h => h) (Or.inl ⟨by rfl, ?_⟩) hS ?_
    rotate_left 1
    · intro W hW
      obtain ⟨⟨v1, v2, v3, v4⟩, ⟨v5, v6, v7, v8⟩⟩ := hW.cells
      clear hW
      go_simp
      all_goals with_reducible rfl
    try simp only [Act.put, List.setIfInBounds_toArray, List.set_cons_zero, List.set_cons_succ, List.getElem_toArray, List.getElem_cons_succ, List.getElem_cons_zero]
    refine wpAnyH_take (i := 10) (v := ?_) rfl (by kernel_rfl) (by kernel_rfl) (by kernel_rfl) (fun _ _ _ h => h) (Or.inl ⟨by rfl, ?_⟩) hS ?_
    rotate_left 1
    · intro W hW
      obtain ⟨⟨v1, v2, v3, v4⟩, ⟨v5, v6, v7, v8⟩⟩ := hW.cells
      clear hW
      go_simp
      all_goals with_reducible rfl
    try simp only [Act.put, List.setIfInBounds_toArray, List.set_cons_zero, List.set_cons_succ, List.getElem_toArray, List.getElem_cons_succ, List.getElem_cons_zero]
    refine wpAnyH_take (i := 11) (v := ?_) rfl (by kernel_rfl) (by kernel_rfl) (by kernel_rfl) (fun _ _ _ h => h) (Or.inl ⟨by rfl, ?_⟩) hS ?_
    rotate_left 1
    · intro W hW
      obtain ⟨⟨v1, v2, v3, v4⟩, ⟨v5, v6, v7, v8⟩⟩ := hW.cells
      clear hW
      go_simp
      all_goals with_reducible rfl
    try simp only [Act.put, List.setIfInBounds_toArray, List.set_cons_zero, List.set_cons_succ, List.getElem_toArray, List.getElem_cons_succ, List.getElem_cons_zero]
    refine wpAnyH_take (i := 12) (v := ?_) rfl (by kernel_rfl) (by kernel_rfl) (by kernel_rfl) (fun _ _ _ h => h) (Or.inl ⟨by rfl, ?_⟩) hS ?_
    rotate_left 1
    · intro W hW
      obtain ⟨⟨v1, v2, v3, v4⟩, ⟨v5, v6, v7, v8⟩⟩ := hW.cells
      clear hW
      go_simp
      all_goals with_reducible rfl
    try simp only [Act.put, List.setIfInBounds_toArray, List.set_cons_zero, List.set_cons_succ, List.getElem_toArray, List.getElem_cons_succ, List.getElem_cons_zero]
    refine wpAnyH_take (i := 13) (v := ?_) rfl (by kernel_rfl) (by kernel_rfl) (by kernel_rfl) (fun _ _ _ h => h) (Or.inl ⟨by rfl, ?_⟩) hS ?_
    rotate_left 1
    · intro W hW
      obtain ⟨⟨v1, v2, v3, v4⟩, ⟨v5, v6, v7, v8⟩⟩ := hW.cells
      clear hW
      go_simp
      all_goals with_reducible rfl
    try simp only [Act.put, List.setIfInBounds_toArray, List.set_cons_zero, List.set_cons_succ, List.getElem_toArray, List.getElem_cons_succ, List.getElem_cons_zero]
    refine wpAnyH_take (i := 14) (v := ?_) rfl (by kernel_rfl) (by kernel_rfl) (by kernel_rfl) (fun _ _ _ h => h) (Or.inl ⟨by rfl, ?_⟩) hS ?_
    rotate_left 1
    · intro W hW
      obtain ⟨⟨v1, v2, v3, v4⟩, ⟨v5, v6, v7, v8⟩⟩ := hW.cells
      clear hW
      go_simp
      all_goals with_reducible rfl
    try simp only [Act.put, List.setIfInBounds_toArray, List.set_cons_zero, List.set_cons_succ, List.getElem_toArray, List.getElem_cons_succ, List.getElem_cons_zero]
    refine wpAnyH_take (i := 15) (v := ?_) rfl (by kernel_rfl) (by kernel_rfl) (by kernel_rfl) (fun _ _ _ h => h) (Or.inl ⟨by rfl, ?_⟩) hS ?_
    rotate_left 1
    · intro W hW
      obtain ⟨⟨v1, v2, v3, v4⟩, ⟨v5, v6, v7, v8⟩⟩ := hW.cells
      clear hW
      go_simp
      all_goals with_reducible rfl
    try simp only [Act.put, List.setIfInBounds_toArray, List.set_cons_zero, List.set_cons_succ, List.getElem_toArray, List.getElem_cons_succ, List.getElem_cons_zero]
    refine wpAnyH_take (i := 16) (v := ?_) rfl (by kernel_rfl) (by kernel_rfl) (by kernel_rfl) (fun _ _ _ h => h) (Or.inl ⟨by rfl, ?_⟩) hS ?_
    rotate_left 1
    · intro W hW
      obtain ⟨⟨v1, v2, v3, v4⟩, ⟨v5, v6, v7, v8⟩⟩ := hW.cells
      clear hW
      go_simp
      all_goals with_reducible rfl
    try simp only [Act.put, List.setIfInBounds_toArray, List.set_cons_zero, List.set_cons_succ, List.getElem_toArray, List.getElem_cons_succ, List.getElem_cons_zero]
    refine wpAnyH_take (i := 17) (v := ?_) rfl (by kernel_rfl) (by kernel_rfl) (by kernel_rfl) (fun _ _ _ h => h) (Or.inl ⟨by rfl, ?_⟩) hS ?_
    rotate_left 1
    · intro W hW
      obtain ⟨⟨v1, v2, v3, v4⟩, ⟨v5, v6, v7, v8⟩⟩ := hW.cells
      clear hW
      go_simp
      all_goals with_reducible rfl
    try simp only [Act.put, List.setIfInBounds_toArray, List.set_cons_zero, List.set_cons_succ, List.getElem_toArray, List.getElem_cons_succ, List.getElem_cons_zero]
    refine wpAnyH_take (i := 18) (v := ?_) rfl (by kernel_rfl) (by kernel_rfl) (by kernel_rfl) (fun _ _ _ h => h) (Or.inl ⟨by rfl, ?_⟩) hS ?_
    rotate_left 1
    · intro W hW
      obtain ⟨⟨v1, v2, v3, v4⟩, ⟨v5, v6, v7, v8⟩⟩ := hW.cells
      clear hW
      go_simp
      all_goals with_reducible rfl
    try simp only [Act.put, List.setIfInBounds_toArray, List.set_cons_zero, List.set_cons_succ, List.getElem_toArray, List.getElem_cons_succ, List.getElem_cons_zero]
    refine wpAnyH_take (i := 19) (v := ?_) rfl (by kernel_rfl) (by kernel_rfl) (by kernel_rfl) (fun _ _ _ h => h) (Or.inl ⟨by rfl, ?_⟩) hS ?_
    rotate_left 1
    · intro W hW
      obtain ⟨⟨v1, v2, v3, v4⟩, ⟨v5, v6, v7, v8⟩⟩ := hW.cells
      clear hW
      go_simp
      all_goals with_reducible rfl
    try simp only [Act.put, List.setIfInBounds_toArray, List.set_cons_zero, List.set_cons_succ, List.getElem_toArray, List.getElem_cons_succ, List.getElem_cons_zero]
    refine wpAnyH_ready (rs := [20]) (by kernel_rfl) (by simp) (AllReadyH.cons rfl ?_ AllReadyH.nil)
    intro K1 hK1
    rw [if_pos (by rfl)]
    try simp only [Act.put, List.setIfInBounds_toArray, List.set_cons_zero, List.set_cons_succ, List.getElem_toArray, List.getElem_cons_succ, List.getElem_cons_zero]
    have hth := hS.res
    have hst := hS.store p.a.toList
    have r1 := World.rangeAt_setCells_same _ _ _ p.a.toList (by rw [Array.length_toList, pi_size]; exact hth)
    generalize World.drew _ = W1 at hS hth hst r1 ⊢
    with_reducible refine wp_store_mid ?g01 ?g02 ?g03 ?g04 ?g05 ?g06 p.a ?g1 ?g2 ?g3 ?g4 ?g5 ?_
    case g04 => with_reducible rfl
    case g1 => rfl
    case g2 => rfl
    case g3 => (rw [pi_size]; exact hth)
    case g4 => exact info80c _
    case g5 => exact pi_one _
    try simp only [Act.put, List.setIfInBounds_toArray, List.set_cons_zero, List.set_cons_succ, List.getElem_toArray, List.getElem_cons_succ, List.getElem_cons_zero]
    refine hK1.out _ _ hst (fun hS => ?_)
    clear hst hth
    generalize W1.setCells (w.heap.size + 1) 0 p.a.toList = W2 at hS r1 ⊢
    try simp only [Act.put, List.setIfInBounds_toArray, List.set_cons_zero, List.set_cons_succ, List.getElem_toArray, List.getElem_cons_succ, List.getElem_cons_zero]
    refine wpAnyH_take (i := 21) (v := ?_) rfl (by kernel_rfl) (by kernel_rfl) (by kernel_rfl) (fun _ _ _ h => h) (Or.inl ⟨by rfl, ?_⟩) hS ?_
    rotate_left 1
    · intro W hW
      obtain ⟨⟨v1, v2, v3, v4⟩, ⟨v5, v6, v7, v8⟩⟩ := hW.cells
      clear hW
      go_simp
      all_goals with_reducible rfl
    try simp only [Act.put, List.setIfInBounds_toArray, List.set_cons_zero, List.set_cons_succ, List.getElem_toArray, List.getElem_cons_succ, List.getElem_cons_zero]
    refine wpAnyH_done (by kernel_rfl) ?_ _
    have r4 := hS.below
    have q1 := Lib.hid r1
    clear hS r1 hK1
    go_wp2_with fail
    refine bodyPost_ret (results_row_tmp rfl _ _ _ _ p.a _ rfl q1.out Try.underlying80 rfl (info80c _)) rfl ?_
    exact ⟨rfl, r4⟩
/-- pio.Read: whatever the register. -/
theorem pread_any (p : M.Pi2) (k : Int) (w : World) : Calls Try.prog 44 #[.agg p.a, .int .i64 k] w fun e w' => e = .returned (.tuple #[.agg (M.pReadP p k).a, .int .u8 (M.pReadV p k)]) ∧ Below w.heap.size w w' := by
  unfold M.pReadP M.pReadV
  by_cases hk : k < 0 ∨ 1 < k
  · rw [if_neg (by omega), if_neg (by omega)]
    exact pread_out p k hk w
  · obtain ⟨n, rfl⟩ : ∃ n : Nat, k = n := ⟨k.toNat, by omega⟩
    have hn : n < 2 := by omega
    have hk' : (n : Int) = 0 ∨ (n : Int) = 1 := by omega
    simp only [if_pos hk', Int.toNat_natCast]
    by_cases m0 : (p.at n).mode = 0
    · have m12 : ¬ ((p.at n).mode = 1 ∨ (p.at n).mode = 2) := by omega
      simp only [if_neg m12, if_pos m0]
      have h := pread_0 p n hn m0 w
      rcases (show n = 0 ∨ n = 1 by omega) with rfl | rfl <;> exact h
    · by_cases m12 : (p.at n).mode = 1 ∨ (p.at n).mode = 2
      · simp only [if_neg m0, if_pos m12]
        have h := pread_12 p n hn m12 w
        rcases (show n = 0 ∨ n = 1 by omega) with rfl | rfl <;> exact h
      · simp only [if_neg m0, if_neg m12]
        exact pread_3 p n hn m0 (fun e => m12 (.inl e)) (fun e => m12 (.inr e)) w
end Go.Proofs.Ytmoafjgogbcoeaa
