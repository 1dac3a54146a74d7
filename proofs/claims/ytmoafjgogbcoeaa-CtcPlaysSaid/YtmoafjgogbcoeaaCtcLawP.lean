/- charabanclaw23.CtcPlays is true at whatever bytes and edges. -/
import Derived.Test.YtmoafjgogbcoeaaCtcAwake
import Derived.Test.YtmoafjgogbcoeaaCtcPlain
import Derived.Test.YtmoafjgogbcoeaaCtcTickR
import Derived.Test.YtmoafjgogbcoeaaCtcRefY
import Derived.Test.YtmoafjgogbcoeaaCtcEq
import Derived.Deep.RegionHeld3
namespace Go.Proofs.Ytmoafjgogbcoeaa
open Go.RowKit
set_option linter.unusedVariables false
set_option linter.unusedSimpArgs false
set_option maxRecDepth 100000

structure XS (w W : World) (H B6 B7 : Nat) (D : M.Ct) (G : M.Ct) (K : M.E4) (b11 b12 b13 b14 : Nat) : Prop where
  x6 : CtAt W B6 D
  x7 : CtAt W B7 D
  n11 : CtAt W b11 G
  n12 : W.rangeAt b12 0 K.a.toList
  n13 : CtAt W b13 G
  n14 : W.rangeAt b14 0 K.a.toList
  l12 : b12 < W.heap.size
  l14 : b14 < W.heap.size
  below : Below H w W
theorem XS.belowX {w X W : World} {H B6 B7 : Nat} {D G : M.Ct} {K : M.E4} {b11 b12 b13 b14 : Nat} (h : XS w X H B6 B7 D G K b11 b12 b13 b14) (hH : H ≤ X.heap.size) (hb : Below X.heap.size X W) : XS w W H B6 B7 D G K b11 b12 b13 b14 :=
  ⟨h.x6.belowX hb, h.x7.belowX hb, h.n11.belowX hb, range_below h.n12 hb h.l12, h.n13.belowX hb, range_below h.n14 hb h.l14, Nat.lt_of_lt_of_le h.l12 hb.size, Nat.lt_of_lt_of_le h.l14 hb.size, h.below.trans (hb.mono hH)⟩
/-- A slice of bytes that came in. -/
def RowU8 (w : World) (a : Option Addr) (len cap : Nat) (zs : List Int) : Prop :=
  (a = none ∧ len = 0 ∧ cap = 0 ∧ zs = []) ∨
  ∃ x, a = some x ∧ len ≤ cap ∧ cap ≤ maxLen ∧ zs.length = cap ∧ (∀ i, i < zs.length → w.cell? (x.add i) = some (.int .u8 (zs.getD i 0))) ∧ ∀ n ∈ zs, (Lit.int .u8 n).wf = true
theorem RowU8.at_ {w : World} {a : Option Addr} {len cap : Nat} {zs : List Int} (h : RowU8 w a len cap zs) (i : Nat) (hi : i < len) : ∃ x v, a = some x ∧ 0 ≤ v ∧ v ≤ 255 ∧ ∀ W, Below w.heap.size w W → W.cell? (x.add i) = some (.int .u8 v) := by
  rcases h with ⟨_, rfl, _⟩ | ⟨x, hx, hl, hm, hz, hc, hw⟩
  · omega
  · have hi' : i < zs.length := by omega
    have hv := hc i hi'
    have hmem : zs.getD i 0 ∈ zs := by
      rw [List.getD_eq_getElem?_getD, List.getElem?_eq_getElem hi']
      exact List.getElem_mem hi'
    have hb := hw _ hmem
    simp [Lit.wf, IntKind.min, IntKind.max, IntKind.bits, IntKind.signed] at hb
    refine ⟨x, zs.getD i 0, hx, by simpa using hb.1, ?_, fun W hW => ?_⟩
    · have := hb.2; simp at this ⊢; omega
    · rw [hW.cell (p := x.add i) (World.block_lt_of_cell? w _ hv)]
      exact hv
theorem RowU8.len_le {w : World} {a : Option Addr} {len cap : Nat} {zs : List Int} (h : RowU8 w a len cap zs) : len ≤ maxLen := by
  rcases h with ⟨_, rfl, _⟩ | ⟨x, hx, hl, hm, _⟩
  · exact Nat.zero_le _
  · omega
set_option maxHeartbeats 8000000 in
theorem plays_true (A1 : Option Addr) (n1 p1 : Nat) (z1 : List Int) (A2 : Option Addr) (n2 p2 : Nat) (z2 : List Int) (w : World) (r1 : RowU8 w A1 n1 p1 z1) (r2 : RowU8 w A2 n2 p2 z2) :
    Calls Try.prog 8 #[.slice A1 n1 p1, .slice A2 n2 p2] w fun e' w' => e' = .returned (.bool true) ∧ Below w.heap.size w w' := by
  obtain ⟨Z, hZs, hZ'⟩ := zero47
  obtain ⟨Z51, hZ51s, hZ51'⟩ := zero51
  obtain ⟨Y, hYs, hY'⟩ := zero58
  have hZ := Lib.hid hZ'
  have hZ51 := Lib.hid hZ51'
  have hY := Lib.hid hY'
  have hYS : Hid (Y = M.e0.a) := Lib.hid hYs
  have hYn : Y.size = 4 := by rw [hYs]; rfl
  clear hZ' hZ51' hY' hYs
  have hm1 := r1.len_le
  have hm2 := r2.len_le
  simp only [maxLen] at hm1 hm2
  go_enter Try.func8, Try.ntmps8
  go_wp2_with fail
  refine (awake_any _).mono ?_
  rintro e1 w1 ⟨rfl, hb1⟩
  by_cases g1 : 40 < n1
  · go_wp2_with fail
    go_returns
    exact ⟨rfl, hb1⟩
  · by_cases g2 : 400 < n2
    · go_wp2_with fail
      go_returns
      exact ⟨rfl, hb1⟩
    · have hz1 := hb1.size
      have c0 : M.ct0.a = #[.int .u8 0, .int .u8 0, .int .i64 0, .int .i64 0, .bool false, .bool false, .bool false, .bool false, .int .u8 0, .int .u8 0, .int .i64 0, .int .i64 0, .bool false, .bool false, .bool false, .bool false, .int .u8 0, .int .u8 0, .int .i64 0, .int .i64 0, .bool false, .bool false, .bool false, .bool false, .int .u8 0, .int .u8 0, .int .i64 0, .int .i64 0, .bool false, .bool false, .bool false, .bool false, .int .u8 0] := rfl
      have C0 := Lib.hid c0
      clear c0
      go_wp2_with (first
        | ((with_reducible refine is_allocT 47 rfl ?_); refine wpList_alloc_row rfl _ rfl Z hZ.out ?_)
        | ((with_reducible refine is_allocT 51 rfl ?_); refine wpList_alloc_row rfl _ rfl Z51 hZ51.out ?_)
        | ((with_reducible refine is_storeT 47 rfl ?_); refine wpList_store_rowT rfl _ _ _ rfl _ _ M.ct0.a rfl (by rw [C0.out]; rfl) (by rw [ct_size]; exact there_newA w1 Z _ 33 (by omega)) (info47c _) (ct_one _) ?_; intro W2 hW hT; have h2 := Lib.hid (ct_box hW hT); have x2 := hT.below w1.heap.size w1 (Nat.le_refl _) (by simp) ((Below.refl w1.heap.size w1).alloc (Nat.le_refl _) _); have b2 := hb1.trans (x2.mono hz1); have z2' := h2.out.2.2; clear hW hT x2)
        | ((with_reducible refine is_storeT 51 rfl ?_); refine wpList_store_rowT rfl _ _ _ rfl _ _ M.ct0.a rfl (by rw [C0.out]; rfl) (by rw [ct_size]; exact there_newA W2 Z51 _ 33 (by omega)) (info51c _) (ct_one _) ?_; intro W3 hW hT; have h3 := Lib.hid (ct_box hW hT); have x3 := hT.below W2.heap.size W2 (Nat.le_refl _) (by simp) ((Below.refl W2.heap.size W2).alloc (Nat.le_refl _) _); have b3 := b2.trans (x3.mono b2.size); have h2' := Lib.hid (h2.out.belowX x3); clear hW hT x3))
      have z2 := h3.out.2.2
      clear h2 b2
      generalize w1.heap.size = B6 at *
      generalize W2.heap.size = B7 at *
      go_wp2_with fail
      try simp only [Act.put, List.setIfInBounds_toArray, List.set_cons_zero, List.set_cons_succ, Array.toArray_toList, World.size_alloc]
      have hst : CtAt W3 B6 M.ct0 ∧ CtAt W3 B7 M.ct0 ∧ Below w.heap.size w W3 := ⟨h2'.out, h3.out, b3⟩
      clear h2' h3 b3 hb1 z2
      go_loopw [8] (fun i wr => ∃ k : Nat, ∃ c : M.Ct, c.ok ∧ i = .int .i64 k ∧ (k ≤ n1 ∨ k ≤ n2) ∧ CtAt wr B6 c ∧ CtAt wr B7 c ∧ Below w.heap.size w wr) (fun i _ => n1 + n2 - (intOf i).toNat)
      case atStart => exact ⟨0, M.ct0, ct0_ok, rfl, .inl (Nat.zero_le _), hst.1, hst.2.1, hst.2.2⟩
      case round =>
        clear hst
        obtain ⟨k, c, hc, rfl, hkb, hx6, hx7, hxb⟩ := hrel
        have f6 := Lib.hid hx6
        have f7 := Lib.hid hx7
        have fb := hxb
        have s6 := hx6.2.2
        have s7 := hx7.2.2
        clear hx6 hx7 hxb
        by_cases k1 : k < n1
        · obtain ⟨x, v, rfl, hv0, hv1, hcell⟩ := r1.at_ k k1
          have hCell := Lib.hid hcell
          clear hcell
          have hD := M.write_ok (k := v / 64) hc hv0 hv1
          have h1 := fun W => cwrite_any c hc (v / 64) v hv0 hv1 W
          have h2 := fun W => rwrite_any c hc (v / 64) v hv0 hv1 W
          generalize M.write c (v / 64) v = D at hD h1 h2
          have H1 := Lib.hid h1
          have H2 := Lib.hid h2
          clear h1 h2
          have k1' : (k : Int) < (n1 : Int) := by omega
          have k0' : (0 : Int) ≤ (k : Int) := by omega
          have hv := hCell.out _ fb
          go_wp2_with fail
          clear hv
          refine wp_region_held_drew (S := fun W => Below w.heap.size w W) (by kernel_rfl) fb.drew ?_
          have g6 := Lib.hid f6.out.drew
          have g7 := Lib.hid f7.out.drew
          clear f6 f7 fb
          generalize (wr).drew = X0 at *
          intro hS
          refine wpAnyH_take (i := 1) (v := ?_) rfl (by kernel_rfl) (by kernel_rfl) (by kernel_rfl) (fun _ _ _ h => h) (Or.inl ⟨by rfl, ?_⟩) hS ?_
          rotate_left 1
          · intro W hW
            have hv := hCell.out W hW
            clear hW
            go_simp
            all_goals with_reducible rfl
          try simp only [Act.put, List.setIfInBounds_toArray, List.set_cons_zero, List.set_cons_succ, List.getElem_toArray, List.getElem_cons_succ, List.getElem_cons_zero, Array.toArray_toList, World.size_alloc]
          refine wpAnyH_take (i := 2) (v := ?_) rfl (by kernel_rfl) (by kernel_rfl) (by kernel_rfl) (fun _ _ _ h => h) (Or.inl ⟨by rfl, ?_⟩) hS ?_
          rotate_left 1
          · intro W hW
            have hv := hCell.out W hW
            clear hW
            go_simp
            all_goals with_reducible rfl
          try simp only [Act.put, List.setIfInBounds_toArray, List.set_cons_zero, List.set_cons_succ, List.getElem_toArray, List.getElem_cons_succ, List.getElem_cons_zero, Array.toArray_toList, World.size_alloc]
          refine wpAnyH_take (i := 3) (v := ?_) rfl (by kernel_rfl) (by kernel_rfl) (by kernel_rfl) (fun _ _ _ h => h) (Or.inl ⟨by rfl, ?_⟩) hS ?_
          rotate_left 1
          · intro W hW
            have hv := hCell.out W hW
            clear hW
            go_simp
            all_goals with_reducible rfl
          try simp only [Act.put, List.setIfInBounds_toArray, List.set_cons_zero, List.set_cons_succ, List.getElem_toArray, List.getElem_cons_succ, List.getElem_cons_zero, Array.toArray_toList, World.size_alloc]
          refine wpAnyH_take (i := 4) (v := ?_) rfl (by kernel_rfl) (by kernel_rfl) (by kernel_rfl) (fun _ _ _ h => h) (Or.inl ⟨by rfl, ?_⟩) hS ?_
          rotate_left 1
          · intro W hW
            have hv := hCell.out W hW
            clear hW
            go_simp
            all_goals with_reducible rfl
          try simp only [Act.put, List.setIfInBounds_toArray, List.set_cons_zero, List.set_cons_succ, List.getElem_toArray, List.getElem_cons_succ, List.getElem_cons_zero, Array.toArray_toList, World.size_alloc]
          refine wpAnyH_take (i := 5) (v := ?_) rfl (by kernel_rfl) (by kernel_rfl) (by kernel_rfl) (fun _ _ _ h => h) (Or.inl ⟨by rfl, ?_⟩) hS ?_
          rotate_left 1
          · intro W hW
            have hv := hCell.out W hW
            clear hW
            go_simp
            all_goals with_reducible rfl
          try simp only [Act.put, List.setIfInBounds_toArray, List.set_cons_zero, List.set_cons_succ, List.getElem_toArray, List.getElem_cons_succ, List.getElem_cons_zero, Array.toArray_toList, World.size_alloc]
          refine wpAnyH_ready (rs := [0]) (by kernel_rfl) (by simp) (AllReadyH.cons rfl ?_ AllReadyH.nil)
          intro K0 hK0
          rw [if_pos (by rfl)]
          try simp only [Act.put, List.setIfInBounds_toArray, List.set_cons_zero, List.set_cons_succ, List.getElem_toArray, List.getElem_cons_succ, List.getElem_cons_zero, Array.toArray_toList, World.size_alloc]
          refine wp_load_mid _ _ rfl _ _ rfl c.a.toList _ g6.out.1 Try.underlying47 rfl (by simpa using info47c c) ?_
          try simp only [Act.put, List.setIfInBounds_toArray, List.set_cons_zero, List.set_cons_succ, List.getElem_toArray, List.getElem_cons_succ, List.getElem_cons_zero, Array.toArray_toList, World.size_alloc]
          refine hK0.out _ _ hS (fun hS2 => ?_)
          clear hK0 hS
          have hS := hS2
          clear hS2
          try simp only [Act.put, List.setIfInBounds_toArray, List.set_cons_zero, List.set_cons_succ, List.getElem_toArray, List.getElem_cons_succ, List.getElem_cons_zero, Array.toArray_toList, World.size_alloc]
          refine wpAnyH_ready (rs := [6]) (by kernel_rfl) (by simp) (AllReadyH.cons rfl ?_ AllReadyH.nil)
          intro K1 hK1
          rw [if_pos (by rfl)]
          try simp only [Act.put, List.setIfInBounds_toArray, List.set_cons_zero, List.set_cons_succ, List.getElem_toArray, List.getElem_cons_succ, List.getElem_cons_zero, Array.toArray_toList, World.size_alloc]
          go_simp
          refine (H1.out _).mono ?_
          rintro e1 v2 ⟨rfl, hb⟩
          have u6 := Lib.hid (g6.out.belowX hb)
          have u7 := Lib.hid (g7.out.belowX hb)
          refine hK1.out _ _ (hS.trans (hb.mono hS.size)) (fun hS2 => ?_)
          clear hK1 hS hb g6 g7
          have hS := hS2
          clear hS2
          try simp only [Act.put, List.setIfInBounds_toArray, List.set_cons_zero, List.set_cons_succ, List.getElem_toArray, List.getElem_cons_succ, List.getElem_cons_zero, Array.toArray_toList, World.size_alloc]
          refine wpAnyH_ready (rs := [7]) (by kernel_rfl) (by simp) (AllReadyH.cons rfl ?_ AllReadyH.nil)
          intro K2 hK2
          rw [if_pos (by rfl)]
          try simp only [Act.put, List.setIfInBounds_toArray, List.set_cons_zero, List.set_cons_succ, List.getElem_toArray, List.getElem_cons_succ, List.getElem_cons_zero, Array.toArray_toList, World.size_alloc]
          have hth := there_of u6.out.1 u6.out.2.1 (Nat.le_refl 33)
          have rr := World.rangeAt_setCells_same v2 B6 0 D.a.toList (by rw [Array.length_toList, ct_size]; exact hth)
          have tt := touch_setCells v2 B6 0 D.a.toList
          refine wp_store_mid _ _ _ rfl _ _ D.a rfl rfl (by rw [ct_size]; exact hth) (info47c _) (ct_one _) ?_
          try simp only [Act.put, List.setIfInBounds_toArray, List.set_cons_zero, List.set_cons_succ, List.getElem_toArray, List.getElem_cons_succ, List.getElem_cons_zero, Array.toArray_toList, World.size_alloc]
          have fb := tt.below w.heap.size w (by omega) hS.size hS
          refine hK2.out _ _ fb (fun hS2 => ?_)
          have f6 : Hid (CtAt (v2.setCells B6 0 D.a.toList) B6 D) := Lib.hid ⟨rr, u6.out.2.1.touch tt u6.out.2.2, Nat.lt_of_lt_of_le u6.out.2.2 tt.size⟩
          have f7 := Lib.hid (u7.out.touch tt (by omega))
          clear hK2 hS hth rr tt u6 u7 hS2
          generalize v2.setCells B6 0 D.a.toList = W13 at *
          refine wpAnyH_done (by kernel_rfl) ?_ _
          have hv := hCell.out _ fb
          go_wp2_with fail
          clear hv
          refine wp_region_held_drew (S := fun W => Below w.heap.size w W) (by kernel_rfl) fb.drew ?_
          have g6 := Lib.hid f6.out.drew
          have g7 := Lib.hid f7.out.drew
          clear f6 f7 fb
          generalize (W13).drew = X0 at *
          intro hS
          refine wpAnyH_take (i := 1) (v := ?_) rfl (by kernel_rfl) (by kernel_rfl) (by kernel_rfl) (fun _ _ _ h => h) (Or.inl ⟨by rfl, ?_⟩) hS ?_
          rotate_left 1
          · intro W hW
            have hv := hCell.out W hW
            clear hW
            go_simp
            all_goals with_reducible rfl
          try simp only [Act.put, List.setIfInBounds_toArray, List.set_cons_zero, List.set_cons_succ, List.getElem_toArray, List.getElem_cons_succ, List.getElem_cons_zero, Array.toArray_toList, World.size_alloc]
          refine wpAnyH_take (i := 2) (v := ?_) rfl (by kernel_rfl) (by kernel_rfl) (by kernel_rfl) (fun _ _ _ h => h) (Or.inl ⟨by rfl, ?_⟩) hS ?_
          rotate_left 1
          · intro W hW
            have hv := hCell.out W hW
            clear hW
            go_simp
            all_goals with_reducible rfl
          try simp only [Act.put, List.setIfInBounds_toArray, List.set_cons_zero, List.set_cons_succ, List.getElem_toArray, List.getElem_cons_succ, List.getElem_cons_zero, Array.toArray_toList, World.size_alloc]
          refine wpAnyH_take (i := 3) (v := ?_) rfl (by kernel_rfl) (by kernel_rfl) (by kernel_rfl) (fun _ _ _ h => h) (Or.inl ⟨by rfl, ?_⟩) hS ?_
          rotate_left 1
          · intro W hW
            have hv := hCell.out W hW
            clear hW
            go_simp
            all_goals with_reducible rfl
          try simp only [Act.put, List.setIfInBounds_toArray, List.set_cons_zero, List.set_cons_succ, List.getElem_toArray, List.getElem_cons_succ, List.getElem_cons_zero, Array.toArray_toList, World.size_alloc]
          refine wpAnyH_take (i := 4) (v := ?_) rfl (by kernel_rfl) (by kernel_rfl) (by kernel_rfl) (fun _ _ _ h => h) (Or.inl ⟨by rfl, ?_⟩) hS ?_
          rotate_left 1
          · intro W hW
            have hv := hCell.out W hW
            clear hW
            go_simp
            all_goals with_reducible rfl
          try simp only [Act.put, List.setIfInBounds_toArray, List.set_cons_zero, List.set_cons_succ, List.getElem_toArray, List.getElem_cons_succ, List.getElem_cons_zero, Array.toArray_toList, World.size_alloc]
          refine wpAnyH_take (i := 5) (v := ?_) rfl (by kernel_rfl) (by kernel_rfl) (by kernel_rfl) (fun _ _ _ h => h) (Or.inl ⟨by rfl, ?_⟩) hS ?_
          rotate_left 1
          · intro W hW
            have hv := hCell.out W hW
            clear hW
            go_simp
            all_goals with_reducible rfl
          try simp only [Act.put, List.setIfInBounds_toArray, List.set_cons_zero, List.set_cons_succ, List.getElem_toArray, List.getElem_cons_succ, List.getElem_cons_zero, Array.toArray_toList, World.size_alloc]
          refine wpAnyH_ready (rs := [0]) (by kernel_rfl) (by simp) (AllReadyH.cons rfl ?_ AllReadyH.nil)
          intro K0 hK0
          rw [if_pos (by rfl)]
          try simp only [Act.put, List.setIfInBounds_toArray, List.set_cons_zero, List.set_cons_succ, List.getElem_toArray, List.getElem_cons_succ, List.getElem_cons_zero, Array.toArray_toList, World.size_alloc]
          refine wp_load_mid _ _ rfl _ _ rfl c.a.toList _ g7.out.1 Try.underlying51 rfl (by simpa using info51c c) ?_
          try simp only [Act.put, List.setIfInBounds_toArray, List.set_cons_zero, List.set_cons_succ, List.getElem_toArray, List.getElem_cons_succ, List.getElem_cons_zero, Array.toArray_toList, World.size_alloc]
          refine hK0.out _ _ hS (fun hS2 => ?_)
          clear hK0 hS
          have hS := hS2
          clear hS2
          try simp only [Act.put, List.setIfInBounds_toArray, List.set_cons_zero, List.set_cons_succ, List.getElem_toArray, List.getElem_cons_succ, List.getElem_cons_zero, Array.toArray_toList, World.size_alloc]
          refine wpAnyH_ready (rs := [6]) (by kernel_rfl) (by simp) (AllReadyH.cons rfl ?_ AllReadyH.nil)
          intro K1 hK1
          rw [if_pos (by rfl)]
          try simp only [Act.put, List.setIfInBounds_toArray, List.set_cons_zero, List.set_cons_succ, List.getElem_toArray, List.getElem_cons_succ, List.getElem_cons_zero, Array.toArray_toList, World.size_alloc]
          go_simp
          refine (H2.out _).mono ?_
          rintro e1 v2 ⟨rfl, hb⟩
          have u6 := Lib.hid (g6.out.belowX hb)
          have u7 := Lib.hid (g7.out.belowX hb)
          refine hK1.out _ _ (hS.trans (hb.mono hS.size)) (fun hS2 => ?_)
          clear hK1 hS hb g6 g7
          have hS := hS2
          clear hS2
          try simp only [Act.put, List.setIfInBounds_toArray, List.set_cons_zero, List.set_cons_succ, List.getElem_toArray, List.getElem_cons_succ, List.getElem_cons_zero, Array.toArray_toList, World.size_alloc]
          refine wpAnyH_ready (rs := [7]) (by kernel_rfl) (by simp) (AllReadyH.cons rfl ?_ AllReadyH.nil)
          intro K2 hK2
          rw [if_pos (by rfl)]
          try simp only [Act.put, List.setIfInBounds_toArray, List.set_cons_zero, List.set_cons_succ, List.getElem_toArray, List.getElem_cons_succ, List.getElem_cons_zero, Array.toArray_toList, World.size_alloc]
          have hth := there_of u7.out.1 u7.out.2.1 (Nat.le_refl 33)
          have rr := World.rangeAt_setCells_same v2 B7 0 D.a.toList (by rw [Array.length_toList, ct_size]; exact hth)
          have tt := touch_setCells v2 B7 0 D.a.toList
          refine wp_store_mid _ _ _ rfl _ _ D.a rfl rfl (by rw [ct_size]; exact hth) (info51c _) (ct_one _) ?_
          try simp only [Act.put, List.setIfInBounds_toArray, List.set_cons_zero, List.set_cons_succ, List.getElem_toArray, List.getElem_cons_succ, List.getElem_cons_zero, Array.toArray_toList, World.size_alloc]
          have fb := tt.below w.heap.size w (by omega) hS.size hS
          refine hK2.out _ _ fb (fun hS2 => ?_)
          have f7 : Hid (CtAt (v2.setCells B7 0 D.a.toList) B7 D) := Lib.hid ⟨rr, u7.out.2.1.touch tt u7.out.2.2, Nat.lt_of_lt_of_le u7.out.2.2 tt.size⟩
          have f6 := Lib.hid (u6.out.touch tt (by omega))
          clear hK2 hS hth rr tt u6 u7 hS2
          generalize v2.setCells B7 0 D.a.toList = W14 at *
          refine wpAnyH_done (by kernel_rfl) ?_ _
          by_cases k2 : k < n2
          · obtain ⟨x2, u, rfl, hu0, hu1, hcell⟩ := r2.at_ k k2
            have hCell := Lib.hid hcell
            clear hcell
            have k2' : (k : Int) < (n2 : Int) := by omega
            have k2z : (0 : Int) ≤ (k : Int) := by omega
            go_wp2_with (first
              | ((with_reducible refine is_allocT 47 rfl ?_); refine wpList_alloc_row rfl _ rfl Z hZ.out ?_)
                | ((with_reducible refine is_allocT 51 rfl ?_); refine wpList_alloc_row rfl _ rfl Z51 hZ51.out ?_)
                | ((with_reducible refine is_allocT 58 rfl ?_); refine wpList_alloc_row rfl _ rfl Y hY.out ?_))
            obtain ⟨E, hE⟩ : ∃ E, E = M.E4.mk (bits .and .u8 u 1 == 1) (bits .and .u8 u 2 == 2) (bits .and .u8 u 4 == 4) (bits .and .u8 u 8 == 8) := ⟨_, rfl⟩
            have hE' := Lib.hid hE
            clear hE
            have th := Lib.hid (there_drewA (there_newA (W14) Y 58 4 (by omega)))
            have lt := (show (W14).heap.size < ((W14).alloc (.cells Y 58)).drew.heap.size by simp)
            have n6 := f6.out.2.2
            have n7 := f7.out.2.2
            have f6 := Lib.hid (f6.out.alloc (.cells Y 58)).drew
            have f7 := Lib.hid (f7.out.alloc (.cells Y 58)).drew
            have fz := fb.size
            refine wp_region_held_drew (S := fun W => Below w.heap.size w W) (by kernel_rfl) (fb.alloc fb.size (.cells Y 58)).drew ?_
            have fb := (fb.alloc fb.size (.cells Y 58)).drew
            generalize ((W14).alloc (.cells Y 58)).drew = X17 at *
            generalize (W14).heap.size = b10 at *
            intro hS
            refine wpAnyH_take (i := 0) (v := ?_) rfl (by kernel_rfl) (by kernel_rfl) (by kernel_rfl) (fun _ _ _ h => h) (Or.inl ⟨by rfl, ?_⟩) hS ?_
            rotate_left 1
            · intro W hW
              have hv := hCell.out W hW
              clear hW
              go_simp
              all_goals with_reducible rfl
            try simp only [Act.put, List.setIfInBounds_toArray, List.set_cons_zero, List.set_cons_succ, List.getElem_toArray, List.getElem_cons_succ, List.getElem_cons_zero, Array.toArray_toList, World.size_alloc]
            refine wpAnyH_take (i := 1) (v := ?_) rfl (by kernel_rfl) (by kernel_rfl) (by kernel_rfl) (fun _ _ _ h => h) (Or.inl ⟨by rfl, ?_⟩) hS ?_
            rotate_left 1
            · intro W hW
              have hv := hCell.out W hW
              clear hW
              go_simp
              all_goals with_reducible rfl
            try simp only [Act.put, List.setIfInBounds_toArray, List.set_cons_zero, List.set_cons_succ, List.getElem_toArray, List.getElem_cons_succ, List.getElem_cons_zero, Array.toArray_toList, World.size_alloc]
            refine wpAnyH_take (i := 2) (v := ?_) rfl (by kernel_rfl) (by kernel_rfl) (by kernel_rfl) (fun _ _ _ h => h) (Or.inl ⟨by rfl, ?_⟩) hS ?_
            rotate_left 1
            · intro W hW
              have hv := hCell.out W hW
              clear hW
              go_simp
              all_goals with_reducible rfl
            try simp only [Act.put, List.setIfInBounds_toArray, List.set_cons_zero, List.set_cons_succ, List.getElem_toArray, List.getElem_cons_succ, List.getElem_cons_zero, Array.toArray_toList, World.size_alloc]
            refine wpAnyH_take (i := 3) (v := ?_) rfl (by kernel_rfl) (by kernel_rfl) (by kernel_rfl) (fun _ _ _ h => h) (Or.inl ⟨by rfl, ?_⟩) hS ?_
            rotate_left 1
            · intro W hW
              have hv := hCell.out W hW
              clear hW
              go_simp
              all_goals with_reducible rfl
            try simp only [Act.put, List.setIfInBounds_toArray, List.set_cons_zero, List.set_cons_succ, List.getElem_toArray, List.getElem_cons_succ, List.getElem_cons_zero, Array.toArray_toList, World.size_alloc]
            refine wpAnyH_take (i := 4) (v := ?_) rfl (by kernel_rfl) (by kernel_rfl) (by kernel_rfl) (fun _ _ _ h => h) (Or.inl ⟨by rfl, ?_⟩) hS ?_
            rotate_left 1
            · intro W hW
              have hv := hCell.out W hW
              clear hW
              go_simp
              all_goals with_reducible rfl
            try simp only [Act.put, List.setIfInBounds_toArray, List.set_cons_zero, List.set_cons_succ, List.getElem_toArray, List.getElem_cons_succ, List.getElem_cons_zero, Array.toArray_toList, World.size_alloc]
            refine wpAnyH_take (i := 5) (v := ?_) rfl (by kernel_rfl) (by kernel_rfl) (by kernel_rfl) (fun _ _ _ h => h) (Or.inl ⟨by rfl, ?_⟩) hS ?_
            rotate_left 1
            · intro W hW
              have hv := hCell.out W hW
              clear hW
              go_simp
              all_goals with_reducible rfl
            try simp only [Act.put, List.setIfInBounds_toArray, List.set_cons_zero, List.set_cons_succ, List.getElem_toArray, List.getElem_cons_succ, List.getElem_cons_zero, Array.toArray_toList, World.size_alloc]
            refine wpAnyH_take (i := 6) (v := ?_) rfl (by kernel_rfl) (by kernel_rfl) (by kernel_rfl) (fun _ _ _ h => h) (Or.inl ⟨by rfl, ?_⟩) hS ?_
            rotate_left 1
            · intro W hW
              have hv := hCell.out W hW
              clear hW
              go_simp
              all_goals with_reducible rfl
            try simp only [Act.put, List.setIfInBounds_toArray, List.set_cons_zero, List.set_cons_succ, List.getElem_toArray, List.getElem_cons_succ, List.getElem_cons_zero, Array.toArray_toList, World.size_alloc]
            refine wpAnyH_take (i := 7) (v := ?_) rfl (by kernel_rfl) (by kernel_rfl) (by kernel_rfl) (fun _ _ _ h => h) (Or.inl ⟨by rfl, ?_⟩) hS ?_
            rotate_left 1
            · intro W hW
              have hv := hCell.out W hW
              clear hW
              go_simp
              all_goals with_reducible rfl
            try simp only [Act.put, List.setIfInBounds_toArray, List.set_cons_zero, List.set_cons_succ, List.getElem_toArray, List.getElem_cons_succ, List.getElem_cons_zero, Array.toArray_toList, World.size_alloc]
            refine wpAnyH_take (i := 8) (v := ?_) rfl (by kernel_rfl) (by kernel_rfl) (by kernel_rfl) (fun _ _ _ h => h) (Or.inl ⟨by rfl, ?_⟩) hS ?_
            rotate_left 1
            · intro W hW
              have hv := hCell.out W hW
              clear hW
              go_simp
              all_goals with_reducible rfl
            try simp only [Act.put, List.setIfInBounds_toArray, List.set_cons_zero, List.set_cons_succ, List.getElem_toArray, List.getElem_cons_succ, List.getElem_cons_zero, Array.toArray_toList, World.size_alloc]
            refine wpAnyH_take (i := 9) (v := ?_) rfl (by kernel_rfl) (by kernel_rfl) (by kernel_rfl) (fun _ _ _ h => h) (Or.inl ⟨by rfl, ?_⟩) hS ?_
            rotate_left 1
            · intro W hW
              have hv := hCell.out W hW
              clear hW
              go_simp
              all_goals with_reducible rfl
            try simp only [Act.put, List.setIfInBounds_toArray, List.set_cons_zero, List.set_cons_succ, List.getElem_toArray, List.getElem_cons_succ, List.getElem_cons_zero, Array.toArray_toList, World.size_alloc]
            refine wpAnyH_take (i := 10) (v := ?_) rfl (by kernel_rfl) (by kernel_rfl) (by kernel_rfl) (fun _ _ _ h => h) (Or.inl ⟨by rfl, ?_⟩) hS ?_
            rotate_left 1
            · intro W hW
              have hv := hCell.out W hW
              clear hW
              go_simp
              all_goals with_reducible rfl
            try simp only [Act.put, List.setIfInBounds_toArray, List.set_cons_zero, List.set_cons_succ, List.getElem_toArray, List.getElem_cons_succ, List.getElem_cons_zero, Array.toArray_toList, World.size_alloc]
            refine wpAnyH_take (i := 11) (v := ?_) rfl (by kernel_rfl) (by kernel_rfl) (by kernel_rfl) (fun _ _ _ h => h) (Or.inl ⟨by rfl, ?_⟩) hS ?_
            rotate_left 1
            · intro W hW
              have hv := hCell.out W hW
              clear hW
              go_simp
              all_goals with_reducible rfl
            try simp only [Act.put, List.setIfInBounds_toArray, List.set_cons_zero, List.set_cons_succ, List.getElem_toArray, List.getElem_cons_succ, List.getElem_cons_zero, Array.toArray_toList, World.size_alloc]
            refine wpAnyH_take (i := 12) (v := ?_) rfl (by kernel_rfl) (by kernel_rfl) (by kernel_rfl) (fun _ _ _ h => h) (Or.inl ⟨by rfl, ?_⟩) hS ?_
            rotate_left 1
            · intro W hW
              have hv := hCell.out W hW
              clear hW
              go_simp
              all_goals with_reducible rfl
            try simp only [Act.put, List.setIfInBounds_toArray, List.set_cons_zero, List.set_cons_succ, List.getElem_toArray, List.getElem_cons_succ, List.getElem_cons_zero, Array.toArray_toList, World.size_alloc]
            refine wpAnyH_take (i := 13) (v := ?_) rfl (by kernel_rfl) (by kernel_rfl) (by kernel_rfl) (fun _ _ _ h => h) (Or.inl ⟨by rfl, ?_⟩) hS ?_
            rotate_left 1
            · intro W hW
              have hv := hCell.out W hW
              clear hW
              go_simp
              all_goals with_reducible rfl
            try simp only [Act.put, List.setIfInBounds_toArray, List.set_cons_zero, List.set_cons_succ, List.getElem_toArray, List.getElem_cons_succ, List.getElem_cons_zero, Array.toArray_toList, World.size_alloc]
            refine wpAnyH_take (i := 14) (v := ?_) rfl (by kernel_rfl) (by kernel_rfl) (by kernel_rfl) (fun _ _ _ h => h) (Or.inl ⟨by rfl, ?_⟩) hS ?_
            rotate_left 1
            · intro W hW
              have hv := hCell.out W hW
              clear hW
              go_simp
              all_goals with_reducible rfl
            try simp only [Act.put, List.setIfInBounds_toArray, List.set_cons_zero, List.set_cons_succ, List.getElem_toArray, List.getElem_cons_succ, List.getElem_cons_zero, Array.toArray_toList, World.size_alloc]
            refine wpAnyH_take (i := 15) (v := ?_) rfl (by kernel_rfl) (by kernel_rfl) (by kernel_rfl) (fun _ _ _ h => h) (Or.inl ⟨by rfl, ?_⟩) hS ?_
            rotate_left 1
            · intro W hW
              have hv := hCell.out W hW
              clear hW
              go_simp
              all_goals with_reducible rfl
            try simp only [Act.put, List.setIfInBounds_toArray, List.set_cons_zero, List.set_cons_succ, List.getElem_toArray, List.getElem_cons_succ, List.getElem_cons_zero, Array.toArray_toList, World.size_alloc]
            refine wpAnyH_take (i := 16) (v := ?_) rfl (by kernel_rfl) (by kernel_rfl) (by kernel_rfl) (fun _ _ _ h => h) (Or.inl ⟨by rfl, ?_⟩) hS ?_
            rotate_left 1
            · intro W hW
              have hv := hCell.out W hW
              clear hW
              go_simp
              all_goals with_reducible rfl
            try simp only [Act.put, List.setIfInBounds_toArray, List.set_cons_zero, List.set_cons_succ, List.getElem_toArray, List.getElem_cons_succ, List.getElem_cons_zero, Array.toArray_toList, World.size_alloc]
            refine wpAnyH_take (i := 17) (v := ?_) rfl (by kernel_rfl) (by kernel_rfl) (by kernel_rfl) (fun _ _ _ h => h) (Or.inl ⟨by rfl, ?_⟩) hS ?_
            rotate_left 1
            · intro W hW
              have hv := hCell.out W hW
              clear hW
              go_simp
              all_goals with_reducible rfl
            try simp only [Act.put, List.setIfInBounds_toArray, List.set_cons_zero, List.set_cons_succ, List.getElem_toArray, List.getElem_cons_succ, List.getElem_cons_zero, Array.toArray_toList, World.size_alloc]
            refine wpAnyH_take (i := 18) (v := ?_) rfl (by kernel_rfl) (by kernel_rfl) (by kernel_rfl) (fun _ _ _ h => h) (Or.inl ⟨by rfl, ?_⟩) hS ?_
            rotate_left 1
            · intro W hW
              have hv := hCell.out W hW
              clear hW
              go_simp
              all_goals with_reducible rfl
            try simp only [Act.put, List.setIfInBounds_toArray, List.set_cons_zero, List.set_cons_succ, List.getElem_toArray, List.getElem_cons_succ, List.getElem_cons_zero, Array.toArray_toList, World.size_alloc]
            refine wpAnyH_take (i := 19) (v := ?_) rfl (by kernel_rfl) (by kernel_rfl) (by kernel_rfl) (fun _ _ _ h => h) (Or.inl ⟨by rfl, ?_⟩) hS ?_
            rotate_left 1
            · intro W hW
              have hv := hCell.out W hW
              clear hW
              go_simp
              all_goals with_reducible rfl
            try simp only [Act.put, List.setIfInBounds_toArray, List.set_cons_zero, List.set_cons_succ, List.getElem_toArray, List.getElem_cons_succ, List.getElem_cons_zero, Array.toArray_toList, World.size_alloc]
            refine wpAnyH_take (i := 20) (v := ?_) rfl (by kernel_rfl) (by kernel_rfl) (by kernel_rfl) (fun _ _ _ h => h) (Or.inl ⟨by rfl, ?_⟩) hS ?_
            rotate_left 1
            · intro W hW
              have hv := hCell.out W hW
              clear hW
              go_simp
              all_goals with_reducible rfl
            try simp only [Act.put, List.setIfInBounds_toArray, List.set_cons_zero, List.set_cons_succ, List.getElem_toArray, List.getElem_cons_succ, List.getElem_cons_zero, Array.toArray_toList, World.size_alloc]
            refine wpAnyH_take (i := 21) (v := ?_) rfl (by kernel_rfl) (by kernel_rfl) (by kernel_rfl) (fun _ _ _ h => h) (Or.inl ⟨by rfl, ?_⟩) hS ?_
            rotate_left 1
            · intro W hW
              have hv := hCell.out W hW
              clear hW
              go_simp
              all_goals with_reducible rfl
            try simp only [Act.put, List.setIfInBounds_toArray, List.set_cons_zero, List.set_cons_succ, List.getElem_toArray, List.getElem_cons_succ, List.getElem_cons_zero, Array.toArray_toList, World.size_alloc]
            refine wpAnyH_take (i := 22) (v := ?_) rfl (by kernel_rfl) (by kernel_rfl) (by kernel_rfl) (fun _ _ _ h => h) (Or.inl ⟨by rfl, ?_⟩) hS ?_
            rotate_left 1
            · intro W hW
              have hv := hCell.out W hW
              clear hW
              go_simp
              all_goals with_reducible rfl
            try simp only [Act.put, List.setIfInBounds_toArray, List.set_cons_zero, List.set_cons_succ, List.getElem_toArray, List.getElem_cons_succ, List.getElem_cons_zero, Array.toArray_toList, World.size_alloc]
            refine wpAnyH_take (i := 23) (v := ?_) rfl (by kernel_rfl) (by kernel_rfl) (by kernel_rfl) (fun _ _ _ h => h) (Or.inl ⟨by rfl, ?_⟩) hS ?_
            rotate_left 1
            · intro W hW
              have hv := hCell.out W hW
              clear hW
              go_simp
              all_goals with_reducible rfl
            try simp only [Act.put, List.setIfInBounds_toArray, List.set_cons_zero, List.set_cons_succ, List.getElem_toArray, List.getElem_cons_succ, List.getElem_cons_zero, Array.toArray_toList, World.size_alloc]
            refine wpAnyH_take (i := 24) (v := ?_) rfl (by kernel_rfl) (by kernel_rfl) (by kernel_rfl) (fun _ _ _ h => h) (Or.inl ⟨by rfl, ?_⟩) hS ?_
            rotate_left 1
            · intro W hW
              have hv := hCell.out W hW
              clear hW
              go_simp
              all_goals with_reducible rfl
            try simp only [Act.put, List.setIfInBounds_toArray, List.set_cons_zero, List.set_cons_succ, List.getElem_toArray, List.getElem_cons_succ, List.getElem_cons_zero, Array.toArray_toList, World.size_alloc]
            refine wpAnyH_ready (rs := [25]) (by kernel_rfl) (by simp) (AllReadyH.cons rfl ?_ AllReadyH.nil)
            intro K2 hK2
            rw [if_pos (by rfl)]
            try simp only [Act.put, List.setIfInBounds_toArray, List.set_cons_zero, List.set_cons_succ, List.getElem_toArray, List.getElem_cons_succ, List.getElem_cons_zero, Array.toArray_toList, World.size_alloc]
            have rr := World.rangeAt_setCells_same X17 b10 0 E.a.toList (by rw [Array.length_toList, e4_size]; exact th.out)
            have tt := touch_setCells X17 b10 0 E.a.toList
            refine wp_store_mid _ _ _ rfl _ _ E.a rfl (by rw [hE'.out]; rfl) (by rw [e4_size]; exact th.out) (info58c _) (e4_one _) ?_
            try simp only [Act.put, List.setIfInBounds_toArray, List.set_cons_zero, List.set_cons_succ, List.getElem_toArray, List.getElem_cons_succ, List.getElem_cons_zero, Array.toArray_toList, World.size_alloc]
            have fb2 := tt.below w.heap.size w (by omega) fb.size fb
            refine hK2.out _ _ fb2 (fun hS2 => ?_)
            have le10 := Nat.lt_of_lt_of_le lt tt.size
            have fe := Lib.hid rr
            have f6 := Lib.hid (f6.out.touch tt (by omega))
            have f7 := Lib.hid (f7.out.touch tt (by omega))
            have fb := fb2
            clear hK2 hS rr tt th hS2 fb2
            generalize X17.setCells b10 0 E.a.toList = W17 at *
            refine wpAnyH_done (by kernel_rfl) ?_ _
            have hD2 := M.tickC_ok (e := E) hD
            have h1 := fun W => ctick_all D hD E W
            have h2 := fun W => rtick_all D hD E W
            have q1 := fun W => neq51 (M.tickC D E) W
            have q2 := fun W => neq58 (M.tickE D E) W
            have hP := fun W => plain_any (M.tickC D E) W
            generalize M.tickC D E = G at hD2 h1 h2 q1 hP
            generalize M.tickE D E = K at h1 h2 q2
            have T1 := Lib.hid h1
            have T2 := Lib.hid h2
            have Q1 := Lib.hid q1
            have Q2 := Lib.hid q2
            have HP := Lib.hid hP
            clear h1 h2 q1 q2 hP
            go_wp2_with (first
              | ((with_reducible refine is_allocT 47 rfl ?_); refine wpList_alloc_row rfl _ rfl Z hZ.out ?_)
                | ((with_reducible refine is_allocT 51 rfl ?_); refine wpList_alloc_row rfl _ rfl Z51 hZ51.out ?_)
                | ((with_reducible refine is_allocT 58 rfl ?_); refine wpList_alloc_row rfl _ rfl Y hY.out ?_)
              | ((with_reducible refine is_loadT 47 rfl ?_); refine wpList_load_row rfl _ _ rfl _ _ rfl _ Try.underlying47 rfl D.a f6.out.1 (info47c _) ?_)
              | ((with_reducible refine is_loadT 58 rfl ?_); refine wpList_load_row rfl _ _ rfl _ _ rfl _ Try.underlying58 rfl E.a fe.out (info58c _) ?_))
            refine (T1.out _).mono ?_
            rintro e1 w18 ⟨rfl, hb18⟩
            have e6 := Lib.hid (f6.out.belowX hb18)
            have e7 := Lib.hid (f7.out.belowX hb18)
            have ee := Lib.hid (range_below fe.out hb18 le10)
            have el := Nat.lt_of_lt_of_le le10 hb18.size
            have eb := fb.trans (hb18.mono fb.size)
            have ez := eb.size
            clear f6 f7 fe fb hb18 le10
            go_wp2_with (first
              | ((with_reducible refine is_allocT 47 rfl ?_); refine wpList_alloc_row rfl _ rfl Z hZ.out ?_)
                | ((with_reducible refine is_allocT 51 rfl ?_); refine wpList_alloc_row rfl _ rfl Z51 hZ51.out ?_)
                | ((with_reducible refine is_allocT 58 rfl ?_); refine wpList_alloc_row rfl _ rfl Y hY.out ?_)
              | ((with_reducible refine is_storeT 47 rfl ?_); refine wpList_store_rowT rfl _ _ _ rfl _ _ G.a rfl rfl (by rw [ct_size]; exact there_allocA (there_newA w18 Z _ 33 (by omega)) _) (info47c _) (ct_one _) ?_;
                  intro V19 hW hT; have hw3 := Lib.hid hW; have hfr := Lib.hid (Free.touch ((free_new w18 Z 47 33).alloc (by simp) (.cells Y 58)) hT (by simp; omega)); have hth3 := Lib.hid (there_touch (there_newB (b := w18.heap.size + 1) (w18.alloc (.cells Z 47)) Y 58 4 (by simp) (by omega)) hT (by simp) (by omega)); have hX3 := Lib.hid (hT.below w18.heap.size w18 (Nat.le_refl _) (by simp; omega) (((Below.refl w18.heap.size w18).alloc (Nat.le_refl _) _).alloc (by simp) _)); have hsz0 : w18.heap.size + 1 + 1 ≤ V19.heap.size := Nat.le_trans (by simp) hT.size; clear hW hT)
              | ((with_reducible refine is_storeT 58 rfl ?_); refine wpList_store_rowT rfl _ _ _ rfl _ _ K.a rfl rfl (by rw [e4_size]; simp only [World.size_alloc]; exact hth3.out) (info58c _) (e4_one _) ?_;
                  intro W19 hW hT; simp only [World.size_alloc] at hW hT; have hM19 := Lib.hid hW; have hX19 := hT.below w18.heap.size w18 (by omega) (by omega) hX3.out; have hN19 : Hid (CtAt W19 w18.heap.size G) := Lib.hid ⟨hT.range (by omega) hw3.out (.inl (by omega)), hfr.out.touch hT (by omega), Nat.lt_of_lt_of_le (by omega) hT.size⟩; have hsz19 : w18.heap.size + 1 + 1 ≤ W19.heap.size := Nat.le_trans hsz0 hT.size; clear hW hT hw3 hfr hth3 hX3)
              | ((with_reducible refine is_loadT 51 rfl ?_); refine wpList_load_row rfl _ _ rfl _ _ rfl _ Try.underlying51 rfl D.a (e7.out.belowX hX19).1 (info51c _) ?_)
              | ((with_reducible refine is_loadT 58 rfl ?_); refine wpList_load_row rfl _ _ rfl _ _ rfl _ Try.underlying58 rfl E.a (range_below ee.out hX19 el) (info58c _) ?_))
            refine (T2.out _).mono ?_
            rintro e1 w20 ⟨rfl, hb20⟩
            have d6 := Lib.hid ((e6.out.belowX hX19).belowX hb20)
            have d7 := Lib.hid ((e7.out.belowX hX19).belowX hb20)
            have d11 := Lib.hid (hN19.out.belowX hb20)
            have d12 := Lib.hid (range_below hM19.out hb20 (by omega))
            have dl := Nat.lt_of_lt_of_le hsz19 hb20.size
            have db := (eb.trans (hX19.mono ez)).trans (hb20.mono (Nat.le_trans ez hX19.size))
            have dz := db.size
            have q6 := d6.out.2.2
            have q7 := d7.out.2.2
            clear e6 e7 ee el eb hb20 hN19 hM19 hX19
            go_wp2_with (first
              | ((with_reducible refine is_allocT 47 rfl ?_); refine wpList_alloc_row rfl _ rfl Z hZ.out ?_)
                | ((with_reducible refine is_allocT 51 rfl ?_); refine wpList_alloc_row rfl _ rfl Z51 hZ51.out ?_)
                | ((with_reducible refine is_allocT 58 rfl ?_); refine wpList_alloc_row rfl _ rfl Y hY.out ?_)
              | ((with_reducible refine is_storeT 51 rfl ?_); refine wpList_store_rowT rfl _ _ _ rfl _ _ G.a rfl rfl (by rw [ct_size]; exact there_allocA (there_newA w20 Z51 _ 33 (by omega)) _) (info51c _) (ct_one _) ?_;
                  intro V21 hW hT; have hw3 := Lib.hid hW; have hfr := Lib.hid (Free.touch ((free_new w20 Z51 51 33).alloc (by simp) (.cells Y 58)) hT (by simp; omega)); have hth3 := Lib.hid (there_touch (there_newB (b := w20.heap.size + 1) (w20.alloc (.cells Z51 51)) Y 58 4 (by simp) (by omega)) hT (by simp) (by omega)); have hX3 := Lib.hid (hT.below w20.heap.size w20 (Nat.le_refl _) (by simp; omega) (((Below.refl w20.heap.size w20).alloc (Nat.le_refl _) _).alloc (by simp) _)); have hsz0 : w20.heap.size + 1 + 1 ≤ V21.heap.size := Nat.le_trans (by simp) hT.size; clear hW hT)
              | ((with_reducible refine is_storeT 58 rfl ?_); refine wpList_store_rowT rfl _ _ _ rfl _ _ K.a rfl rfl (by rw [e4_size]; simp only [World.size_alloc]; exact hth3.out) (info58c _) (e4_one _) ?_;
                  intro W21 hW hT; simp only [World.size_alloc] at hW hT; have hM21 := Lib.hid hW; have hX21 := hT.below w20.heap.size w20 (by omega) (by omega) hX3.out; have hN21 : Hid (CtAt W21 w20.heap.size G) := Lib.hid ⟨hT.range (by omega) hw3.out (.inl (by omega)), hfr.out.touch hT (by omega), Nat.lt_of_lt_of_le (by omega) hT.size⟩; have hsz21 : w20.heap.size + 1 + 1 ≤ W21.heap.size := Nat.le_trans hsz0 hT.size; clear hW hT hw3 hfr hth3 hX3))
            have hXS : XS w W21 w.heap.size B6 B7 D G K w18.heap.size (w18.heap.size + 1) w20.heap.size (w20.heap.size + 1) :=
              ⟨d6.out.belowX hX21, d7.out.belowX hX21, d11.out.belowX hX21, range_below d12.out hX21 (by omega), hN21.out, hM21.out, by have := hX21.size; omega, by omega, db.trans (hX21.mono dz)⟩
            have HXS := Lib.hid hXS
            clear hXS d6 d7 d11 d12 db hX21 hN21 hM21
            go_wp2_with fail
            refine wp_region_held_drew (S := fun W => XS w W w.heap.size B6 B7 D G K w18.heap.size (w18.heap.size + 1) w20.heap.size (w20.heap.size + 1)) (by kernel_rfl) (HXS.out.belowX HXS.out.below.size (Below.refl _ _).drew) ?_
            clear HXS
            generalize W21.drew = X21
            intro hS
            have q1 := Q1.out
            have q2 := Q2.out
            refine wpAnyH_take (i := 0) rfl (by kernel_rfl) (by kernel_rfl) (by kernel_rfl) (fun _ _ _ h => h) (yieldsIf_load_mid (by rfl) _ _ rfl _ _ rfl _ _ (fun W hW => hW.n11.1) Try.underlying47 rfl (info47c _)) hS ?_
            try simp only [Act.put, List.setIfInBounds_toArray, List.set_cons_zero, List.set_cons_succ, List.getElem_toArray, List.getElem_cons_succ, List.getElem_cons_zero, Array.toArray_toList, World.size_alloc]
            refine wpAnyH_take (i := 2) rfl (by kernel_rfl) (by kernel_rfl) (by kernel_rfl) (fun _ _ _ h => h) (yieldsIf_load_mid (by rfl) _ _ rfl _ _ rfl _ _ (fun W hW => hW.n13.1) Try.underlying51 rfl (info51c _)) hS ?_
            try simp only [Act.put, List.setIfInBounds_toArray, List.set_cons_zero, List.set_cons_succ, List.getElem_toArray, List.getElem_cons_succ, List.getElem_cons_zero, Array.toArray_toList, World.size_alloc]
            refine wpAnyH_ready (rs := [1]) (by kernel_rfl) (by simp) (AllReadyH.cons rfl ?_ AllReadyH.nil)
            intro K1 hK1
            rw [if_pos (by rfl)]
            try simp only [Act.put, List.setIfInBounds_toArray, List.set_cons_zero, List.set_cons_succ, List.getElem_toArray, List.getElem_cons_succ, List.getElem_cons_zero, Array.toArray_toList, World.size_alloc]
            go_simp
            refine (HP.out _).mono ?_
            rintro e1 v2 ⟨rfl, hb⟩
            refine hK1.out _ _ (hS.belowX hS.below.size hb) (fun hS2 => ?_)
            clear hK1 hS hb
            have hS := hS2
            clear hS2
            try simp only [Act.put, List.setIfInBounds_toArray, List.set_cons_zero, List.set_cons_succ, List.getElem_toArray, List.getElem_cons_succ, List.getElem_cons_zero, Array.toArray_toList, World.size_alloc]
            refine wpAnyH_take (i := 3) (v := ?_) rfl (by kernel_rfl) (by kernel_rfl) (by kernel_rfl) (fun _ _ _ h => h) (Or.inl ⟨by rfl, ?_⟩) hS ?_
            rotate_left 1
            · intro W hW
              clear hW
              go_simp
              all_goals with_reducible rfl
            try simp only [Act.put, List.setIfInBounds_toArray, List.set_cons_zero, List.set_cons_succ, List.getElem_toArray, List.getElem_cons_succ, List.getElem_cons_zero, Array.toArray_toList, World.size_alloc]
            refine wpAnyH_take (i := 4) (v := ?_) rfl (by kernel_rfl) (by kernel_rfl) (by kernel_rfl) (fun _ _ _ h => h) (Or.inl ⟨by rfl, ?_⟩) hS ?_
            rotate_left 1
            · intro W hW
              clear hW
              go_simp
              all_goals with_reducible rfl
            try simp only [Act.put, List.setIfInBounds_toArray, List.set_cons_zero, List.set_cons_succ, List.getElem_toArray, List.getElem_cons_succ, List.getElem_cons_zero, Array.toArray_toList, World.size_alloc]
            refine wpAnyH_take (i := 5) rfl (by kernel_rfl) (by kernel_rfl) (by kernel_rfl) (fun _ _ _ h => h) (yieldsIf_load_mid (by rfl) _ _ rfl _ _ rfl _ _ (fun W hW => hW.n12) Try.underlying58 rfl (info58c _)) hS ?_
            try simp only [Act.put, List.setIfInBounds_toArray, List.set_cons_zero, List.set_cons_succ, List.getElem_toArray, List.getElem_cons_succ, List.getElem_cons_zero, Array.toArray_toList, World.size_alloc]
            refine wpAnyH_take (i := 6) rfl (by kernel_rfl) (by kernel_rfl) (by kernel_rfl) (fun _ _ _ h => h) (yieldsIf_load_mid (by rfl) _ _ rfl _ _ rfl _ _ (fun W hW => hW.n14) Try.underlying58 rfl (info58c _)) hS ?_
            try simp only [Act.put, List.setIfInBounds_toArray, List.set_cons_zero, List.set_cons_succ, List.getElem_toArray, List.getElem_cons_succ, List.getElem_cons_zero, Array.toArray_toList, World.size_alloc]
            refine wpAnyH_take (i := 7) (v := ?_) rfl (by kernel_rfl) (by kernel_rfl) (by kernel_rfl) (fun _ _ _ h => h) (Or.inl ⟨by rfl, ?_⟩) hS ?_
            rotate_left 1
            · intro W hW
              clear hW
              go_simp
              all_goals with_reducible rfl
            try simp only [Act.put, List.setIfInBounds_toArray, List.set_cons_zero, List.set_cons_succ, List.getElem_toArray, List.getElem_cons_succ, List.getElem_cons_zero, Array.toArray_toList, World.size_alloc]
            refine wpAnyH_take (i := 8) (v := ?_) rfl (by kernel_rfl) (by kernel_rfl) (by kernel_rfl) (fun _ _ _ h => h) (Or.inl ⟨by rfl, ?_⟩) hS ?_
            rotate_left 1
            · intro W hW
              clear hW
              go_simp
              all_goals with_reducible rfl
            try simp only [Act.put, List.setIfInBounds_toArray, List.set_cons_zero, List.set_cons_succ, List.getElem_toArray, List.getElem_cons_succ, List.getElem_cons_zero, Array.toArray_toList, World.size_alloc]
            refine wpAnyH_done (by kernel_rfl) ?_ _
            have HS := Lib.hid hS
            have hsB6 := hS.x6.2.2
            have hsB7 := hS.x7.2.2
            have hs11 := hS.n11.2.2
            have hs13 := hS.n13.2.2
            clear hS q1 q2
            go_wp2_with (first
              | ((with_reducible refine is_loadT 47 rfl ?_); refine wpList_load_row rfl _ _ rfl _ _ rfl _ Try.underlying47 rfl G.a HS.out.n11.1 (info47c _) ?_)
              | ((with_reducible refine is_storeT 47 rfl ?_); refine wpList_store_rowT rfl _ _ _ rfl _ _ G.a rfl rfl (by rw [ct_size]; exact there_of HS.out.x6.1 HS.out.x6.2.1 (Nat.le_refl _)) (info47c _) (ct_one _) ?_; intro W22 hW hT; have m6 : Hid (CtAt W22 B6 G) := Lib.hid ⟨hW, HS.out.x6.2.1.touch hT hsB6, Nat.lt_of_lt_of_le hsB6 hT.size⟩; have m7 := Lib.hid (HS.out.x7.touch hT (by omega)); have m13 := Lib.hid (HS.out.n13.touch hT (by omega)); have mb := hT.below w.heap.size w (by omega) HS.out.below.size HS.out.below; clear hW hT)
              | ((with_reducible refine is_loadT 51 rfl ?_); refine wpList_load_row rfl _ _ rfl _ _ rfl _ Try.underlying51 rfl G.a m13.out.1 (info51c _) ?_)
              | ((with_reducible refine is_storeT 51 rfl ?_); refine wpList_store_rowT rfl _ _ _ rfl _ _ G.a rfl rfl (by rw [ct_size]; exact there_of m7.out.1 m7.out.2.1 (Nat.le_refl _)) (info51c _) (ct_one _) ?_; intro W23 hW hT; have y7 : Hid (CtAt W23 B7 G) := Lib.hid ⟨hW, m7.out.2.1.touch hT m7.out.2.2, Nat.lt_of_lt_of_le m7.out.2.2 hT.size⟩; have y6 := Lib.hid (m6.out.touch hT (by omega)); have yb := hT.below w.heap.size w (by omega) mb.size mb; clear hW hT))
            go_round
            case rel => exact ⟨k + 1, G, hD2, by simp, by omega, y6.out, y7.out, yb⟩
            case measure => simp [intOf]; omega
          · have k2' : ¬ ((k : Int) < (n2 : Int)) := by omega
            obtain ⟨E, hE⟩ : ∃ E, E = M.e0 := ⟨_, rfl⟩
            have le10 : (W14).heap.size < ((W14).alloc (.cells Y 58)).heap.size := by simp
            have fe : Hid (((W14).alloc (.cells Y 58)).rangeAt (W14).heap.size 0 E.a.toList) := Lib.hid (by rw [hE, ← hYS.out]; exact range_newA _ _ _)
            have f6 := Lib.hid (f6.out.alloc (.cells Y 58))
            have f7 := Lib.hid (f7.out.alloc (.cells Y 58))
            have fb := fb.alloc fb.size (.cells Y 58)
            clear hE
            have hD2 := M.tickC_ok (e := E) hD
            have h1 := fun W => ctick_all D hD E W
            have h2 := fun W => rtick_all D hD E W
            have q1 := fun W => neq51 (M.tickC D E) W
            have q2 := fun W => neq58 (M.tickE D E) W
            have hP := fun W => plain_any (M.tickC D E) W
            generalize M.tickC D E = G at hD2 h1 h2 q1 hP
            generalize M.tickE D E = K at h1 h2 q2
            have T1 := Lib.hid h1
            have T2 := Lib.hid h2
            have Q1 := Lib.hid q1
            have Q2 := Lib.hid q2
            have HP := Lib.hid hP
            clear h1 h2 q1 q2 hP
            go_wp2_with (first
              | ((with_reducible refine is_allocT 47 rfl ?_); refine wpList_alloc_row rfl _ rfl Z hZ.out ?_)
                | ((with_reducible refine is_allocT 51 rfl ?_); refine wpList_alloc_row rfl _ rfl Z51 hZ51.out ?_)
                | ((with_reducible refine is_allocT 58 rfl ?_); refine wpList_alloc_row rfl _ rfl Y hY.out ?_)
              | ((with_reducible refine is_loadT 47 rfl ?_); refine wpList_load_row rfl _ _ rfl _ _ rfl _ Try.underlying47 rfl D.a f6.out.1 (info47c _) ?_)
              | ((with_reducible refine is_loadT 58 rfl ?_); refine wpList_load_row rfl _ _ rfl _ _ rfl _ Try.underlying58 rfl E.a fe.out (info58c _) ?_))
            refine (T1.out _).mono ?_
            rintro e1 w18 ⟨rfl, hb18⟩
            have e6 := Lib.hid (f6.out.belowX hb18)
            have e7 := Lib.hid (f7.out.belowX hb18)
            have ee := Lib.hid (range_below fe.out hb18 le10)
            have el := Nat.lt_of_lt_of_le le10 hb18.size
            have eb := fb.trans (hb18.mono fb.size)
            have ez := eb.size
            clear f6 f7 fe fb hb18 le10
            go_wp2_with (first
              | ((with_reducible refine is_allocT 47 rfl ?_); refine wpList_alloc_row rfl _ rfl Z hZ.out ?_)
                | ((with_reducible refine is_allocT 51 rfl ?_); refine wpList_alloc_row rfl _ rfl Z51 hZ51.out ?_)
                | ((with_reducible refine is_allocT 58 rfl ?_); refine wpList_alloc_row rfl _ rfl Y hY.out ?_)
              | ((with_reducible refine is_storeT 47 rfl ?_); refine wpList_store_rowT rfl _ _ _ rfl _ _ G.a rfl rfl (by rw [ct_size]; exact there_allocA (there_newA w18 Z _ 33 (by omega)) _) (info47c _) (ct_one _) ?_;
                  intro V19 hW hT; have hw3 := Lib.hid hW; have hfr := Lib.hid (Free.touch ((free_new w18 Z 47 33).alloc (by simp) (.cells Y 58)) hT (by simp; omega)); have hth3 := Lib.hid (there_touch (there_newB (b := w18.heap.size + 1) (w18.alloc (.cells Z 47)) Y 58 4 (by simp) (by omega)) hT (by simp) (by omega)); have hX3 := Lib.hid (hT.below w18.heap.size w18 (Nat.le_refl _) (by simp; omega) (((Below.refl w18.heap.size w18).alloc (Nat.le_refl _) _).alloc (by simp) _)); have hsz0 : w18.heap.size + 1 + 1 ≤ V19.heap.size := Nat.le_trans (by simp) hT.size; clear hW hT)
              | ((with_reducible refine is_storeT 58 rfl ?_); refine wpList_store_rowT rfl _ _ _ rfl _ _ K.a rfl rfl (by rw [e4_size]; simp only [World.size_alloc]; exact hth3.out) (info58c _) (e4_one _) ?_;
                  intro W19 hW hT; simp only [World.size_alloc] at hW hT; have hM19 := Lib.hid hW; have hX19 := hT.below w18.heap.size w18 (by omega) (by omega) hX3.out; have hN19 : Hid (CtAt W19 w18.heap.size G) := Lib.hid ⟨hT.range (by omega) hw3.out (.inl (by omega)), hfr.out.touch hT (by omega), Nat.lt_of_lt_of_le (by omega) hT.size⟩; have hsz19 : w18.heap.size + 1 + 1 ≤ W19.heap.size := Nat.le_trans hsz0 hT.size; clear hW hT hw3 hfr hth3 hX3)
              | ((with_reducible refine is_loadT 51 rfl ?_); refine wpList_load_row rfl _ _ rfl _ _ rfl _ Try.underlying51 rfl D.a (e7.out.belowX hX19).1 (info51c _) ?_)
              | ((with_reducible refine is_loadT 58 rfl ?_); refine wpList_load_row rfl _ _ rfl _ _ rfl _ Try.underlying58 rfl E.a (range_below ee.out hX19 el) (info58c _) ?_))
            refine (T2.out _).mono ?_
            rintro e1 w20 ⟨rfl, hb20⟩
            have d6 := Lib.hid ((e6.out.belowX hX19).belowX hb20)
            have d7 := Lib.hid ((e7.out.belowX hX19).belowX hb20)
            have d11 := Lib.hid (hN19.out.belowX hb20)
            have d12 := Lib.hid (range_below hM19.out hb20 (by omega))
            have dl := Nat.lt_of_lt_of_le hsz19 hb20.size
            have db := (eb.trans (hX19.mono ez)).trans (hb20.mono (Nat.le_trans ez hX19.size))
            have dz := db.size
            have q6 := d6.out.2.2
            have q7 := d7.out.2.2
            clear e6 e7 ee el eb hb20 hN19 hM19 hX19
            go_wp2_with (first
              | ((with_reducible refine is_allocT 47 rfl ?_); refine wpList_alloc_row rfl _ rfl Z hZ.out ?_)
                | ((with_reducible refine is_allocT 51 rfl ?_); refine wpList_alloc_row rfl _ rfl Z51 hZ51.out ?_)
                | ((with_reducible refine is_allocT 58 rfl ?_); refine wpList_alloc_row rfl _ rfl Y hY.out ?_)
              | ((with_reducible refine is_storeT 51 rfl ?_); refine wpList_store_rowT rfl _ _ _ rfl _ _ G.a rfl rfl (by rw [ct_size]; exact there_allocA (there_newA w20 Z51 _ 33 (by omega)) _) (info51c _) (ct_one _) ?_;
                  intro V21 hW hT; have hw3 := Lib.hid hW; have hfr := Lib.hid (Free.touch ((free_new w20 Z51 51 33).alloc (by simp) (.cells Y 58)) hT (by simp; omega)); have hth3 := Lib.hid (there_touch (there_newB (b := w20.heap.size + 1) (w20.alloc (.cells Z51 51)) Y 58 4 (by simp) (by omega)) hT (by simp) (by omega)); have hX3 := Lib.hid (hT.below w20.heap.size w20 (Nat.le_refl _) (by simp; omega) (((Below.refl w20.heap.size w20).alloc (Nat.le_refl _) _).alloc (by simp) _)); have hsz0 : w20.heap.size + 1 + 1 ≤ V21.heap.size := Nat.le_trans (by simp) hT.size; clear hW hT)
              | ((with_reducible refine is_storeT 58 rfl ?_); refine wpList_store_rowT rfl _ _ _ rfl _ _ K.a rfl rfl (by rw [e4_size]; simp only [World.size_alloc]; exact hth3.out) (info58c _) (e4_one _) ?_;
                  intro W21 hW hT; simp only [World.size_alloc] at hW hT; have hM21 := Lib.hid hW; have hX21 := hT.below w20.heap.size w20 (by omega) (by omega) hX3.out; have hN21 : Hid (CtAt W21 w20.heap.size G) := Lib.hid ⟨hT.range (by omega) hw3.out (.inl (by omega)), hfr.out.touch hT (by omega), Nat.lt_of_lt_of_le (by omega) hT.size⟩; have hsz21 : w20.heap.size + 1 + 1 ≤ W21.heap.size := Nat.le_trans hsz0 hT.size; clear hW hT hw3 hfr hth3 hX3))
            have hXS : XS w W21 w.heap.size B6 B7 D G K w18.heap.size (w18.heap.size + 1) w20.heap.size (w20.heap.size + 1) :=
              ⟨d6.out.belowX hX21, d7.out.belowX hX21, d11.out.belowX hX21, range_below d12.out hX21 (by omega), hN21.out, hM21.out, by have := hX21.size; omega, by omega, db.trans (hX21.mono dz)⟩
            have HXS := Lib.hid hXS
            clear hXS d6 d7 d11 d12 db hX21 hN21 hM21
            go_wp2_with fail
            refine wp_region_held_drew (S := fun W => XS w W w.heap.size B6 B7 D G K w18.heap.size (w18.heap.size + 1) w20.heap.size (w20.heap.size + 1)) (by kernel_rfl) (HXS.out.belowX HXS.out.below.size (Below.refl _ _).drew) ?_
            clear HXS
            generalize W21.drew = X21
            intro hS
            have q1 := Q1.out
            have q2 := Q2.out
            refine wpAnyH_take (i := 0) rfl (by kernel_rfl) (by kernel_rfl) (by kernel_rfl) (fun _ _ _ h => h) (yieldsIf_load_mid (by rfl) _ _ rfl _ _ rfl _ _ (fun W hW => hW.n11.1) Try.underlying47 rfl (info47c _)) hS ?_
            try simp only [Act.put, List.setIfInBounds_toArray, List.set_cons_zero, List.set_cons_succ, List.getElem_toArray, List.getElem_cons_succ, List.getElem_cons_zero, Array.toArray_toList, World.size_alloc]
            refine wpAnyH_take (i := 2) rfl (by kernel_rfl) (by kernel_rfl) (by kernel_rfl) (fun _ _ _ h => h) (yieldsIf_load_mid (by rfl) _ _ rfl _ _ rfl _ _ (fun W hW => hW.n13.1) Try.underlying51 rfl (info51c _)) hS ?_
            try simp only [Act.put, List.setIfInBounds_toArray, List.set_cons_zero, List.set_cons_succ, List.getElem_toArray, List.getElem_cons_succ, List.getElem_cons_zero, Array.toArray_toList, World.size_alloc]
            refine wpAnyH_ready (rs := [1]) (by kernel_rfl) (by simp) (AllReadyH.cons rfl ?_ AllReadyH.nil)
            intro K1 hK1
            rw [if_pos (by rfl)]
            try simp only [Act.put, List.setIfInBounds_toArray, List.set_cons_zero, List.set_cons_succ, List.getElem_toArray, List.getElem_cons_succ, List.getElem_cons_zero, Array.toArray_toList, World.size_alloc]
            go_simp
            refine (HP.out _).mono ?_
            rintro e1 v2 ⟨rfl, hb⟩
            refine hK1.out _ _ (hS.belowX hS.below.size hb) (fun hS2 => ?_)
            clear hK1 hS hb
            have hS := hS2
            clear hS2
            try simp only [Act.put, List.setIfInBounds_toArray, List.set_cons_zero, List.set_cons_succ, List.getElem_toArray, List.getElem_cons_succ, List.getElem_cons_zero, Array.toArray_toList, World.size_alloc]
            refine wpAnyH_take (i := 3) (v := ?_) rfl (by kernel_rfl) (by kernel_rfl) (by kernel_rfl) (fun _ _ _ h => h) (Or.inl ⟨by rfl, ?_⟩) hS ?_
            rotate_left 1
            · intro W hW
              clear hW
              go_simp
              all_goals with_reducible rfl
            try simp only [Act.put, List.setIfInBounds_toArray, List.set_cons_zero, List.set_cons_succ, List.getElem_toArray, List.getElem_cons_succ, List.getElem_cons_zero, Array.toArray_toList, World.size_alloc]
            refine wpAnyH_take (i := 4) (v := ?_) rfl (by kernel_rfl) (by kernel_rfl) (by kernel_rfl) (fun _ _ _ h => h) (Or.inl ⟨by rfl, ?_⟩) hS ?_
            rotate_left 1
            · intro W hW
              clear hW
              go_simp
              all_goals with_reducible rfl
            try simp only [Act.put, List.setIfInBounds_toArray, List.set_cons_zero, List.set_cons_succ, List.getElem_toArray, List.getElem_cons_succ, List.getElem_cons_zero, Array.toArray_toList, World.size_alloc]
            refine wpAnyH_take (i := 5) rfl (by kernel_rfl) (by kernel_rfl) (by kernel_rfl) (fun _ _ _ h => h) (yieldsIf_load_mid (by rfl) _ _ rfl _ _ rfl _ _ (fun W hW => hW.n12) Try.underlying58 rfl (info58c _)) hS ?_
            try simp only [Act.put, List.setIfInBounds_toArray, List.set_cons_zero, List.set_cons_succ, List.getElem_toArray, List.getElem_cons_succ, List.getElem_cons_zero, Array.toArray_toList, World.size_alloc]
            refine wpAnyH_take (i := 6) rfl (by kernel_rfl) (by kernel_rfl) (by kernel_rfl) (fun _ _ _ h => h) (yieldsIf_load_mid (by rfl) _ _ rfl _ _ rfl _ _ (fun W hW => hW.n14) Try.underlying58 rfl (info58c _)) hS ?_
            try simp only [Act.put, List.setIfInBounds_toArray, List.set_cons_zero, List.set_cons_succ, List.getElem_toArray, List.getElem_cons_succ, List.getElem_cons_zero, Array.toArray_toList, World.size_alloc]
            refine wpAnyH_take (i := 7) (v := ?_) rfl (by kernel_rfl) (by kernel_rfl) (by kernel_rfl) (fun _ _ _ h => h) (Or.inl ⟨by rfl, ?_⟩) hS ?_
            rotate_left 1
            · intro W hW
              clear hW
              go_simp
              all_goals with_reducible rfl
            try simp only [Act.put, List.setIfInBounds_toArray, List.set_cons_zero, List.set_cons_succ, List.getElem_toArray, List.getElem_cons_succ, List.getElem_cons_zero, Array.toArray_toList, World.size_alloc]
            refine wpAnyH_take (i := 8) (v := ?_) rfl (by kernel_rfl) (by kernel_rfl) (by kernel_rfl) (fun _ _ _ h => h) (Or.inl ⟨by rfl, ?_⟩) hS ?_
            rotate_left 1
            · intro W hW
              clear hW
              go_simp
              all_goals with_reducible rfl
            try simp only [Act.put, List.setIfInBounds_toArray, List.set_cons_zero, List.set_cons_succ, List.getElem_toArray, List.getElem_cons_succ, List.getElem_cons_zero, Array.toArray_toList, World.size_alloc]
            refine wpAnyH_done (by kernel_rfl) ?_ _
            have HS := Lib.hid hS
            have hsB6 := hS.x6.2.2
            have hsB7 := hS.x7.2.2
            have hs11 := hS.n11.2.2
            have hs13 := hS.n13.2.2
            clear hS q1 q2
            go_wp2_with (first
              | ((with_reducible refine is_loadT 47 rfl ?_); refine wpList_load_row rfl _ _ rfl _ _ rfl _ Try.underlying47 rfl G.a HS.out.n11.1 (info47c _) ?_)
              | ((with_reducible refine is_storeT 47 rfl ?_); refine wpList_store_rowT rfl _ _ _ rfl _ _ G.a rfl rfl (by rw [ct_size]; exact there_of HS.out.x6.1 HS.out.x6.2.1 (Nat.le_refl _)) (info47c _) (ct_one _) ?_; intro W22 hW hT; have m6 : Hid (CtAt W22 B6 G) := Lib.hid ⟨hW, HS.out.x6.2.1.touch hT hsB6, Nat.lt_of_lt_of_le hsB6 hT.size⟩; have m7 := Lib.hid (HS.out.x7.touch hT (by omega)); have m13 := Lib.hid (HS.out.n13.touch hT (by omega)); have mb := hT.below w.heap.size w (by omega) HS.out.below.size HS.out.below; clear hW hT)
              | ((with_reducible refine is_loadT 51 rfl ?_); refine wpList_load_row rfl _ _ rfl _ _ rfl _ Try.underlying51 rfl G.a m13.out.1 (info51c _) ?_)
              | ((with_reducible refine is_storeT 51 rfl ?_); refine wpList_store_rowT rfl _ _ _ rfl _ _ G.a rfl rfl (by rw [ct_size]; exact there_of m7.out.1 m7.out.2.1 (Nat.le_refl _)) (info51c _) (ct_one _) ?_; intro W23 hW hT; have y7 : Hid (CtAt W23 B7 G) := Lib.hid ⟨hW, m7.out.2.1.touch hT m7.out.2.2, Nat.lt_of_lt_of_le m7.out.2.2 hT.size⟩; have y6 := Lib.hid (m6.out.touch hT (by omega)); have yb := hT.below w.heap.size w (by omega) mb.size mb; clear hW hT))
            go_round
            case rel => exact ⟨k + 1, G, hD2, by simp, by omega, y6.out, y7.out, yb⟩
            case measure => simp [intOf]; omega
        · have k1' : ¬ ((k : Int) < (n1 : Int)) := by omega
          by_cases k2 : k < n2
          · obtain ⟨D, hDd⟩ : ∃ D, D = c := ⟨_, rfl⟩
            have hD := hc
            rw [← hDd] at f6 f7 hD
            clear hDd
            obtain ⟨x2, u, rfl, hu0, hu1, hcell⟩ := r2.at_ k k2
            have hCell := Lib.hid hcell
            clear hcell
            have k2' : (k : Int) < (n2 : Int) := by omega
            have k2z : (0 : Int) ≤ (k : Int) := by omega
            go_wp2_with (first
              | ((with_reducible refine is_allocT 47 rfl ?_); refine wpList_alloc_row rfl _ rfl Z hZ.out ?_)
                | ((with_reducible refine is_allocT 51 rfl ?_); refine wpList_alloc_row rfl _ rfl Z51 hZ51.out ?_)
                | ((with_reducible refine is_allocT 58 rfl ?_); refine wpList_alloc_row rfl _ rfl Y hY.out ?_))
            obtain ⟨E, hE⟩ : ∃ E, E = M.E4.mk (bits .and .u8 u 1 == 1) (bits .and .u8 u 2 == 2) (bits .and .u8 u 4 == 4) (bits .and .u8 u 8 == 8) := ⟨_, rfl⟩
            have hE' := Lib.hid hE
            clear hE
            have th := Lib.hid (there_drewA (there_newA (wr) Y 58 4 (by omega)))
            have lt := (show (wr).heap.size < ((wr).alloc (.cells Y 58)).drew.heap.size by simp)
            have n6 := f6.out.2.2
            have n7 := f7.out.2.2
            have f6 := Lib.hid (f6.out.alloc (.cells Y 58)).drew
            have f7 := Lib.hid (f7.out.alloc (.cells Y 58)).drew
            have fz := fb.size
            refine wp_region_held_drew (S := fun W => Below w.heap.size w W) (by kernel_rfl) (fb.alloc fb.size (.cells Y 58)).drew ?_
            have fb := (fb.alloc fb.size (.cells Y 58)).drew
            generalize ((wr).alloc (.cells Y 58)).drew = X17 at *
            generalize (wr).heap.size = b10 at *
            intro hS
            refine wpAnyH_take (i := 0) (v := ?_) rfl (by kernel_rfl) (by kernel_rfl) (by kernel_rfl) (fun _ _ _ h => h) (Or.inl ⟨by rfl, ?_⟩) hS ?_
            rotate_left 1
            · intro W hW
              have hv := hCell.out W hW
              clear hW
              go_simp
              all_goals with_reducible rfl
            try simp only [Act.put, List.setIfInBounds_toArray, List.set_cons_zero, List.set_cons_succ, List.getElem_toArray, List.getElem_cons_succ, List.getElem_cons_zero, Array.toArray_toList, World.size_alloc]
            refine wpAnyH_take (i := 1) (v := ?_) rfl (by kernel_rfl) (by kernel_rfl) (by kernel_rfl) (fun _ _ _ h => h) (Or.inl ⟨by rfl, ?_⟩) hS ?_
            rotate_left 1
            · intro W hW
              have hv := hCell.out W hW
              clear hW
              go_simp
              all_goals with_reducible rfl
            try simp only [Act.put, List.setIfInBounds_toArray, List.set_cons_zero, List.set_cons_succ, List.getElem_toArray, List.getElem_cons_succ, List.getElem_cons_zero, Array.toArray_toList, World.size_alloc]
            refine wpAnyH_take (i := 2) (v := ?_) rfl (by kernel_rfl) (by kernel_rfl) (by kernel_rfl) (fun _ _ _ h => h) (Or.inl ⟨by rfl, ?_⟩) hS ?_
            rotate_left 1
            · intro W hW
              have hv := hCell.out W hW
              clear hW
              go_simp
              all_goals with_reducible rfl
            try simp only [Act.put, List.setIfInBounds_toArray, List.set_cons_zero, List.set_cons_succ, List.getElem_toArray, List.getElem_cons_succ, List.getElem_cons_zero, Array.toArray_toList, World.size_alloc]
            refine wpAnyH_take (i := 3) (v := ?_) rfl (by kernel_rfl) (by kernel_rfl) (by kernel_rfl) (fun _ _ _ h => h) (Or.inl ⟨by rfl, ?_⟩) hS ?_
            rotate_left 1
            · intro W hW
              have hv := hCell.out W hW
              clear hW
              go_simp
              all_goals with_reducible rfl
            try simp only [Act.put, List.setIfInBounds_toArray, List.set_cons_zero, List.set_cons_succ, List.getElem_toArray, List.getElem_cons_succ, List.getElem_cons_zero, Array.toArray_toList, World.size_alloc]
            refine wpAnyH_take (i := 4) (v := ?_) rfl (by kernel_rfl) (by kernel_rfl) (by kernel_rfl) (fun _ _ _ h => h) (Or.inl ⟨by rfl, ?_⟩) hS ?_
            rotate_left 1
            · intro W hW
              have hv := hCell.out W hW
              clear hW
              go_simp
              all_goals with_reducible rfl
            try simp only [Act.put, List.setIfInBounds_toArray, List.set_cons_zero, List.set_cons_succ, List.getElem_toArray, List.getElem_cons_succ, List.getElem_cons_zero, Array.toArray_toList, World.size_alloc]
            refine wpAnyH_take (i := 5) (v := ?_) rfl (by kernel_rfl) (by kernel_rfl) (by kernel_rfl) (fun _ _ _ h => h) (Or.inl ⟨by rfl, ?_⟩) hS ?_
            rotate_left 1
            · intro W hW
              have hv := hCell.out W hW
              clear hW
              go_simp
              all_goals with_reducible rfl
            try simp only [Act.put, List.setIfInBounds_toArray, List.set_cons_zero, List.set_cons_succ, List.getElem_toArray, List.getElem_cons_succ, List.getElem_cons_zero, Array.toArray_toList, World.size_alloc]
            refine wpAnyH_take (i := 6) (v := ?_) rfl (by kernel_rfl) (by kernel_rfl) (by kernel_rfl) (fun _ _ _ h => h) (Or.inl ⟨by rfl, ?_⟩) hS ?_
            rotate_left 1
            · intro W hW
              have hv := hCell.out W hW
              clear hW
              go_simp
              all_goals with_reducible rfl
            try simp only [Act.put, List.setIfInBounds_toArray, List.set_cons_zero, List.set_cons_succ, List.getElem_toArray, List.getElem_cons_succ, List.getElem_cons_zero, Array.toArray_toList, World.size_alloc]
            refine wpAnyH_take (i := 7) (v := ?_) rfl (by kernel_rfl) (by kernel_rfl) (by kernel_rfl) (fun _ _ _ h => h) (Or.inl ⟨by rfl, ?_⟩) hS ?_
            rotate_left 1
            · intro W hW
              have hv := hCell.out W hW
              clear hW
              go_simp
              all_goals with_reducible rfl
            try simp only [Act.put, List.setIfInBounds_toArray, List.set_cons_zero, List.set_cons_succ, List.getElem_toArray, List.getElem_cons_succ, List.getElem_cons_zero, Array.toArray_toList, World.size_alloc]
            refine wpAnyH_take (i := 8) (v := ?_) rfl (by kernel_rfl) (by kernel_rfl) (by kernel_rfl) (fun _ _ _ h => h) (Or.inl ⟨by rfl, ?_⟩) hS ?_
            rotate_left 1
            · intro W hW
              have hv := hCell.out W hW
              clear hW
              go_simp
              all_goals with_reducible rfl
            try simp only [Act.put, List.setIfInBounds_toArray, List.set_cons_zero, List.set_cons_succ, List.getElem_toArray, List.getElem_cons_succ, List.getElem_cons_zero, Array.toArray_toList, World.size_alloc]
            refine wpAnyH_take (i := 9) (v := ?_) rfl (by kernel_rfl) (by kernel_rfl) (by kernel_rfl) (fun _ _ _ h => h) (Or.inl ⟨by rfl, ?_⟩) hS ?_
            rotate_left 1
            · intro W hW
              have hv := hCell.out W hW
              clear hW
              go_simp
              all_goals with_reducible rfl
            try simp only [Act.put, List.setIfInBounds_toArray, List.set_cons_zero, List.set_cons_succ, List.getElem_toArray, List.getElem_cons_succ, List.getElem_cons_zero, Array.toArray_toList, World.size_alloc]
            refine wpAnyH_take (i := 10) (v := ?_) rfl (by kernel_rfl) (by kernel_rfl) (by kernel_rfl) (fun _ _ _ h => h) (Or.inl ⟨by rfl, ?_⟩) hS ?_
            rotate_left 1
            · intro W hW
              have hv := hCell.out W hW
              clear hW
              go_simp
              all_goals with_reducible rfl
            try simp only [Act.put, List.setIfInBounds_toArray, List.set_cons_zero, List.set_cons_succ, List.getElem_toArray, List.getElem_cons_succ, List.getElem_cons_zero, Array.toArray_toList, World.size_alloc]
            refine wpAnyH_take (i := 11) (v := ?_) rfl (by kernel_rfl) (by kernel_rfl) (by kernel_rfl) (fun _ _ _ h => h) (Or.inl ⟨by rfl, ?_⟩) hS ?_
            rotate_left 1
            · intro W hW
              have hv := hCell.out W hW
              clear hW
              go_simp
              all_goals with_reducible rfl
            try simp only [Act.put, List.setIfInBounds_toArray, List.set_cons_zero, List.set_cons_succ, List.getElem_toArray, List.getElem_cons_succ, List.getElem_cons_zero, Array.toArray_toList, World.size_alloc]
            refine wpAnyH_take (i := 12) (v := ?_) rfl (by kernel_rfl) (by kernel_rfl) (by kernel_rfl) (fun _ _ _ h => h) (Or.inl ⟨by rfl, ?_⟩) hS ?_
            rotate_left 1
            · intro W hW
              have hv := hCell.out W hW
              clear hW
              go_simp
              all_goals with_reducible rfl
            try simp only [Act.put, List.setIfInBounds_toArray, List.set_cons_zero, List.set_cons_succ, List.getElem_toArray, List.getElem_cons_succ, List.getElem_cons_zero, Array.toArray_toList, World.size_alloc]
            refine wpAnyH_take (i := 13) (v := ?_) rfl (by kernel_rfl) (by kernel_rfl) (by kernel_rfl) (fun _ _ _ h => h) (Or.inl ⟨by rfl, ?_⟩) hS ?_
            rotate_left 1
            · intro W hW
              have hv := hCell.out W hW
              clear hW
              go_simp
              all_goals with_reducible rfl
            try simp only [Act.put, List.setIfInBounds_toArray, List.set_cons_zero, List.set_cons_succ, List.getElem_toArray, List.getElem_cons_succ, List.getElem_cons_zero, Array.toArray_toList, World.size_alloc]
            refine wpAnyH_take (i := 14) (v := ?_) rfl (by kernel_rfl) (by kernel_rfl) (by kernel_rfl) (fun _ _ _ h => h) (Or.inl ⟨by rfl, ?_⟩) hS ?_
            rotate_left 1
            · intro W hW
              have hv := hCell.out W hW
              clear hW
              go_simp
              all_goals with_reducible rfl
            try simp only [Act.put, List.setIfInBounds_toArray, List.set_cons_zero, List.set_cons_succ, List.getElem_toArray, List.getElem_cons_succ, List.getElem_cons_zero, Array.toArray_toList, World.size_alloc]
            refine wpAnyH_take (i := 15) (v := ?_) rfl (by kernel_rfl) (by kernel_rfl) (by kernel_rfl) (fun _ _ _ h => h) (Or.inl ⟨by rfl, ?_⟩) hS ?_
            rotate_left 1
            · intro W hW
              have hv := hCell.out W hW
              clear hW
              go_simp
              all_goals with_reducible rfl
            try simp only [Act.put, List.setIfInBounds_toArray, List.set_cons_zero, List.set_cons_succ, List.getElem_toArray, List.getElem_cons_succ, List.getElem_cons_zero, Array.toArray_toList, World.size_alloc]
            refine wpAnyH_take (i := 16) (v := ?_) rfl (by kernel_rfl) (by kernel_rfl) (by kernel_rfl) (fun _ _ _ h => h) (Or.inl ⟨by rfl, ?_⟩) hS ?_
            rotate_left 1
            · intro W hW
              have hv := hCell.out W hW
              clear hW
              go_simp
              all_goals with_reducible rfl
            try simp only [Act.put, List.setIfInBounds_toArray, List.set_cons_zero, List.set_cons_succ, List.getElem_toArray, List.getElem_cons_succ, List.getElem_cons_zero, Array.toArray_toList, World.size_alloc]
            refine wpAnyH_take (i := 17) (v := ?_) rfl (by kernel_rfl) (by kernel_rfl) (by kernel_rfl) (fun _ _ _ h => h) (Or.inl ⟨by rfl, ?_⟩) hS ?_
            rotate_left 1
            · intro W hW
              have hv := hCell.out W hW
              clear hW
              go_simp
              all_goals with_reducible rfl
            try simp only [Act.put, List.setIfInBounds_toArray, List.set_cons_zero, List.set_cons_succ, List.getElem_toArray, List.getElem_cons_succ, List.getElem_cons_zero, Array.toArray_toList, World.size_alloc]
            refine wpAnyH_take (i := 18) (v := ?_) rfl (by kernel_rfl) (by kernel_rfl) (by kernel_rfl) (fun _ _ _ h => h) (Or.inl ⟨by rfl, ?_⟩) hS ?_
            rotate_left 1
            · intro W hW
              have hv := hCell.out W hW
              clear hW
              go_simp
              all_goals with_reducible rfl
            try simp only [Act.put, List.setIfInBounds_toArray, List.set_cons_zero, List.set_cons_succ, List.getElem_toArray, List.getElem_cons_succ, List.getElem_cons_zero, Array.toArray_toList, World.size_alloc]
            refine wpAnyH_take (i := 19) (v := ?_) rfl (by kernel_rfl) (by kernel_rfl) (by kernel_rfl) (fun _ _ _ h => h) (Or.inl ⟨by rfl, ?_⟩) hS ?_
            rotate_left 1
            · intro W hW
              have hv := hCell.out W hW
              clear hW
              go_simp
              all_goals with_reducible rfl
            try simp only [Act.put, List.setIfInBounds_toArray, List.set_cons_zero, List.set_cons_succ, List.getElem_toArray, List.getElem_cons_succ, List.getElem_cons_zero, Array.toArray_toList, World.size_alloc]
            refine wpAnyH_take (i := 20) (v := ?_) rfl (by kernel_rfl) (by kernel_rfl) (by kernel_rfl) (fun _ _ _ h => h) (Or.inl ⟨by rfl, ?_⟩) hS ?_
            rotate_left 1
            · intro W hW
              have hv := hCell.out W hW
              clear hW
              go_simp
              all_goals with_reducible rfl
            try simp only [Act.put, List.setIfInBounds_toArray, List.set_cons_zero, List.set_cons_succ, List.getElem_toArray, List.getElem_cons_succ, List.getElem_cons_zero, Array.toArray_toList, World.size_alloc]
            refine wpAnyH_take (i := 21) (v := ?_) rfl (by kernel_rfl) (by kernel_rfl) (by kernel_rfl) (fun _ _ _ h => h) (Or.inl ⟨by rfl, ?_⟩) hS ?_
            rotate_left 1
            · intro W hW
              have hv := hCell.out W hW
              clear hW
              go_simp
              all_goals with_reducible rfl
            try simp only [Act.put, List.setIfInBounds_toArray, List.set_cons_zero, List.set_cons_succ, List.getElem_toArray, List.getElem_cons_succ, List.getElem_cons_zero, Array.toArray_toList, World.size_alloc]
            refine wpAnyH_take (i := 22) (v := ?_) rfl (by kernel_rfl) (by kernel_rfl) (by kernel_rfl) (fun _ _ _ h => h) (Or.inl ⟨by rfl, ?_⟩) hS ?_
            rotate_left 1
            · intro W hW
              have hv := hCell.out W hW
              clear hW
              go_simp
              all_goals with_reducible rfl
            try simp only [Act.put, List.setIfInBounds_toArray, List.set_cons_zero, List.set_cons_succ, List.getElem_toArray, List.getElem_cons_succ, List.getElem_cons_zero, Array.toArray_toList, World.size_alloc]
            refine wpAnyH_take (i := 23) (v := ?_) rfl (by kernel_rfl) (by kernel_rfl) (by kernel_rfl) (fun _ _ _ h => h) (Or.inl ⟨by rfl, ?_⟩) hS ?_
            rotate_left 1
            · intro W hW
              have hv := hCell.out W hW
              clear hW
              go_simp
              all_goals with_reducible rfl
            try simp only [Act.put, List.setIfInBounds_toArray, List.set_cons_zero, List.set_cons_succ, List.getElem_toArray, List.getElem_cons_succ, List.getElem_cons_zero, Array.toArray_toList, World.size_alloc]
            refine wpAnyH_take (i := 24) (v := ?_) rfl (by kernel_rfl) (by kernel_rfl) (by kernel_rfl) (fun _ _ _ h => h) (Or.inl ⟨by rfl, ?_⟩) hS ?_
            rotate_left 1
            · intro W hW
              have hv := hCell.out W hW
              clear hW
              go_simp
              all_goals with_reducible rfl
            try simp only [Act.put, List.setIfInBounds_toArray, List.set_cons_zero, List.set_cons_succ, List.getElem_toArray, List.getElem_cons_succ, List.getElem_cons_zero, Array.toArray_toList, World.size_alloc]
            refine wpAnyH_ready (rs := [25]) (by kernel_rfl) (by simp) (AllReadyH.cons rfl ?_ AllReadyH.nil)
            intro K2 hK2
            rw [if_pos (by rfl)]
            try simp only [Act.put, List.setIfInBounds_toArray, List.set_cons_zero, List.set_cons_succ, List.getElem_toArray, List.getElem_cons_succ, List.getElem_cons_zero, Array.toArray_toList, World.size_alloc]
            have rr := World.rangeAt_setCells_same X17 b10 0 E.a.toList (by rw [Array.length_toList, e4_size]; exact th.out)
            have tt := touch_setCells X17 b10 0 E.a.toList
            refine wp_store_mid _ _ _ rfl _ _ E.a rfl (by rw [hE'.out]; rfl) (by rw [e4_size]; exact th.out) (info58c _) (e4_one _) ?_
            try simp only [Act.put, List.setIfInBounds_toArray, List.set_cons_zero, List.set_cons_succ, List.getElem_toArray, List.getElem_cons_succ, List.getElem_cons_zero, Array.toArray_toList, World.size_alloc]
            have fb2 := tt.below w.heap.size w (by omega) fb.size fb
            refine hK2.out _ _ fb2 (fun hS2 => ?_)
            have le10 := Nat.lt_of_lt_of_le lt tt.size
            have fe := Lib.hid rr
            have f6 := Lib.hid (f6.out.touch tt (by omega))
            have f7 := Lib.hid (f7.out.touch tt (by omega))
            have fb := fb2
            clear hK2 hS rr tt th hS2 fb2
            generalize X17.setCells b10 0 E.a.toList = W17 at *
            refine wpAnyH_done (by kernel_rfl) ?_ _
            have hD2 := M.tickC_ok (e := E) hD
            have h1 := fun W => ctick_all D hD E W
            have h2 := fun W => rtick_all D hD E W
            have q1 := fun W => neq51 (M.tickC D E) W
            have q2 := fun W => neq58 (M.tickE D E) W
            have hP := fun W => plain_any (M.tickC D E) W
            generalize M.tickC D E = G at hD2 h1 h2 q1 hP
            generalize M.tickE D E = K at h1 h2 q2
            have T1 := Lib.hid h1
            have T2 := Lib.hid h2
            have Q1 := Lib.hid q1
            have Q2 := Lib.hid q2
            have HP := Lib.hid hP
            clear h1 h2 q1 q2 hP
            go_wp2_with (first
              | ((with_reducible refine is_allocT 47 rfl ?_); refine wpList_alloc_row rfl _ rfl Z hZ.out ?_)
                | ((with_reducible refine is_allocT 51 rfl ?_); refine wpList_alloc_row rfl _ rfl Z51 hZ51.out ?_)
                | ((with_reducible refine is_allocT 58 rfl ?_); refine wpList_alloc_row rfl _ rfl Y hY.out ?_)
              | ((with_reducible refine is_loadT 47 rfl ?_); refine wpList_load_row rfl _ _ rfl _ _ rfl _ Try.underlying47 rfl D.a f6.out.1 (info47c _) ?_)
              | ((with_reducible refine is_loadT 58 rfl ?_); refine wpList_load_row rfl _ _ rfl _ _ rfl _ Try.underlying58 rfl E.a fe.out (info58c _) ?_))
            refine (T1.out _).mono ?_
            rintro e1 w18 ⟨rfl, hb18⟩
            have e6 := Lib.hid (f6.out.belowX hb18)
            have e7 := Lib.hid (f7.out.belowX hb18)
            have ee := Lib.hid (range_below fe.out hb18 le10)
            have el := Nat.lt_of_lt_of_le le10 hb18.size
            have eb := fb.trans (hb18.mono fb.size)
            have ez := eb.size
            clear f6 f7 fe fb hb18 le10
            go_wp2_with (first
              | ((with_reducible refine is_allocT 47 rfl ?_); refine wpList_alloc_row rfl _ rfl Z hZ.out ?_)
                | ((with_reducible refine is_allocT 51 rfl ?_); refine wpList_alloc_row rfl _ rfl Z51 hZ51.out ?_)
                | ((with_reducible refine is_allocT 58 rfl ?_); refine wpList_alloc_row rfl _ rfl Y hY.out ?_)
              | ((with_reducible refine is_storeT 47 rfl ?_); refine wpList_store_rowT rfl _ _ _ rfl _ _ G.a rfl rfl (by rw [ct_size]; exact there_allocA (there_newA w18 Z _ 33 (by omega)) _) (info47c _) (ct_one _) ?_;
                  intro V19 hW hT; have hw3 := Lib.hid hW; have hfr := Lib.hid (Free.touch ((free_new w18 Z 47 33).alloc (by simp) (.cells Y 58)) hT (by simp; omega)); have hth3 := Lib.hid (there_touch (there_newB (b := w18.heap.size + 1) (w18.alloc (.cells Z 47)) Y 58 4 (by simp) (by omega)) hT (by simp) (by omega)); have hX3 := Lib.hid (hT.below w18.heap.size w18 (Nat.le_refl _) (by simp; omega) (((Below.refl w18.heap.size w18).alloc (Nat.le_refl _) _).alloc (by simp) _)); have hsz0 : w18.heap.size + 1 + 1 ≤ V19.heap.size := Nat.le_trans (by simp) hT.size; clear hW hT)
              | ((with_reducible refine is_storeT 58 rfl ?_); refine wpList_store_rowT rfl _ _ _ rfl _ _ K.a rfl rfl (by rw [e4_size]; simp only [World.size_alloc]; exact hth3.out) (info58c _) (e4_one _) ?_;
                  intro W19 hW hT; simp only [World.size_alloc] at hW hT; have hM19 := Lib.hid hW; have hX19 := hT.below w18.heap.size w18 (by omega) (by omega) hX3.out; have hN19 : Hid (CtAt W19 w18.heap.size G) := Lib.hid ⟨hT.range (by omega) hw3.out (.inl (by omega)), hfr.out.touch hT (by omega), Nat.lt_of_lt_of_le (by omega) hT.size⟩; have hsz19 : w18.heap.size + 1 + 1 ≤ W19.heap.size := Nat.le_trans hsz0 hT.size; clear hW hT hw3 hfr hth3 hX3)
              | ((with_reducible refine is_loadT 51 rfl ?_); refine wpList_load_row rfl _ _ rfl _ _ rfl _ Try.underlying51 rfl D.a (e7.out.belowX hX19).1 (info51c _) ?_)
              | ((with_reducible refine is_loadT 58 rfl ?_); refine wpList_load_row rfl _ _ rfl _ _ rfl _ Try.underlying58 rfl E.a (range_below ee.out hX19 el) (info58c _) ?_))
            refine (T2.out _).mono ?_
            rintro e1 w20 ⟨rfl, hb20⟩
            have d6 := Lib.hid ((e6.out.belowX hX19).belowX hb20)
            have d7 := Lib.hid ((e7.out.belowX hX19).belowX hb20)
            have d11 := Lib.hid (hN19.out.belowX hb20)
            have d12 := Lib.hid (range_below hM19.out hb20 (by omega))
            have dl := Nat.lt_of_lt_of_le hsz19 hb20.size
            have db := (eb.trans (hX19.mono ez)).trans (hb20.mono (Nat.le_trans ez hX19.size))
            have dz := db.size
            have q6 := d6.out.2.2
            have q7 := d7.out.2.2
            clear e6 e7 ee el eb hb20 hN19 hM19 hX19
            go_wp2_with (first
              | ((with_reducible refine is_allocT 47 rfl ?_); refine wpList_alloc_row rfl _ rfl Z hZ.out ?_)
                | ((with_reducible refine is_allocT 51 rfl ?_); refine wpList_alloc_row rfl _ rfl Z51 hZ51.out ?_)
                | ((with_reducible refine is_allocT 58 rfl ?_); refine wpList_alloc_row rfl _ rfl Y hY.out ?_)
              | ((with_reducible refine is_storeT 51 rfl ?_); refine wpList_store_rowT rfl _ _ _ rfl _ _ G.a rfl rfl (by rw [ct_size]; exact there_allocA (there_newA w20 Z51 _ 33 (by omega)) _) (info51c _) (ct_one _) ?_;
                  intro V21 hW hT; have hw3 := Lib.hid hW; have hfr := Lib.hid (Free.touch ((free_new w20 Z51 51 33).alloc (by simp) (.cells Y 58)) hT (by simp; omega)); have hth3 := Lib.hid (there_touch (there_newB (b := w20.heap.size + 1) (w20.alloc (.cells Z51 51)) Y 58 4 (by simp) (by omega)) hT (by simp) (by omega)); have hX3 := Lib.hid (hT.below w20.heap.size w20 (Nat.le_refl _) (by simp; omega) (((Below.refl w20.heap.size w20).alloc (Nat.le_refl _) _).alloc (by simp) _)); have hsz0 : w20.heap.size + 1 + 1 ≤ V21.heap.size := Nat.le_trans (by simp) hT.size; clear hW hT)
              | ((with_reducible refine is_storeT 58 rfl ?_); refine wpList_store_rowT rfl _ _ _ rfl _ _ K.a rfl rfl (by rw [e4_size]; simp only [World.size_alloc]; exact hth3.out) (info58c _) (e4_one _) ?_;
                  intro W21 hW hT; simp only [World.size_alloc] at hW hT; have hM21 := Lib.hid hW; have hX21 := hT.below w20.heap.size w20 (by omega) (by omega) hX3.out; have hN21 : Hid (CtAt W21 w20.heap.size G) := Lib.hid ⟨hT.range (by omega) hw3.out (.inl (by omega)), hfr.out.touch hT (by omega), Nat.lt_of_lt_of_le (by omega) hT.size⟩; have hsz21 : w20.heap.size + 1 + 1 ≤ W21.heap.size := Nat.le_trans hsz0 hT.size; clear hW hT hw3 hfr hth3 hX3))
            have hXS : XS w W21 w.heap.size B6 B7 D G K w18.heap.size (w18.heap.size + 1) w20.heap.size (w20.heap.size + 1) :=
              ⟨d6.out.belowX hX21, d7.out.belowX hX21, d11.out.belowX hX21, range_below d12.out hX21 (by omega), hN21.out, hM21.out, by have := hX21.size; omega, by omega, db.trans (hX21.mono dz)⟩
            have HXS := Lib.hid hXS
            clear hXS d6 d7 d11 d12 db hX21 hN21 hM21
            go_wp2_with fail
            refine wp_region_held_drew (S := fun W => XS w W w.heap.size B6 B7 D G K w18.heap.size (w18.heap.size + 1) w20.heap.size (w20.heap.size + 1)) (by kernel_rfl) (HXS.out.belowX HXS.out.below.size (Below.refl _ _).drew) ?_
            clear HXS
            generalize W21.drew = X21
            intro hS
            have q1 := Q1.out
            have q2 := Q2.out
            refine wpAnyH_take (i := 0) rfl (by kernel_rfl) (by kernel_rfl) (by kernel_rfl) (fun _ _ _ h => h) (yieldsIf_load_mid (by rfl) _ _ rfl _ _ rfl _ _ (fun W hW => hW.n11.1) Try.underlying47 rfl (info47c _)) hS ?_
            try simp only [Act.put, List.setIfInBounds_toArray, List.set_cons_zero, List.set_cons_succ, List.getElem_toArray, List.getElem_cons_succ, List.getElem_cons_zero, Array.toArray_toList, World.size_alloc]
            refine wpAnyH_take (i := 2) rfl (by kernel_rfl) (by kernel_rfl) (by kernel_rfl) (fun _ _ _ h => h) (yieldsIf_load_mid (by rfl) _ _ rfl _ _ rfl _ _ (fun W hW => hW.n13.1) Try.underlying51 rfl (info51c _)) hS ?_
            try simp only [Act.put, List.setIfInBounds_toArray, List.set_cons_zero, List.set_cons_succ, List.getElem_toArray, List.getElem_cons_succ, List.getElem_cons_zero, Array.toArray_toList, World.size_alloc]
            refine wpAnyH_ready (rs := [1]) (by kernel_rfl) (by simp) (AllReadyH.cons rfl ?_ AllReadyH.nil)
            intro K1 hK1
            rw [if_pos (by rfl)]
            try simp only [Act.put, List.setIfInBounds_toArray, List.set_cons_zero, List.set_cons_succ, List.getElem_toArray, List.getElem_cons_succ, List.getElem_cons_zero, Array.toArray_toList, World.size_alloc]
            go_simp
            refine (HP.out _).mono ?_
            rintro e1 v2 ⟨rfl, hb⟩
            refine hK1.out _ _ (hS.belowX hS.below.size hb) (fun hS2 => ?_)
            clear hK1 hS hb
            have hS := hS2
            clear hS2
            try simp only [Act.put, List.setIfInBounds_toArray, List.set_cons_zero, List.set_cons_succ, List.getElem_toArray, List.getElem_cons_succ, List.getElem_cons_zero, Array.toArray_toList, World.size_alloc]
            refine wpAnyH_take (i := 3) (v := ?_) rfl (by kernel_rfl) (by kernel_rfl) (by kernel_rfl) (fun _ _ _ h => h) (Or.inl ⟨by rfl, ?_⟩) hS ?_
            rotate_left 1
            · intro W hW
              clear hW
              go_simp
              all_goals with_reducible rfl
            try simp only [Act.put, List.setIfInBounds_toArray, List.set_cons_zero, List.set_cons_succ, List.getElem_toArray, List.getElem_cons_succ, List.getElem_cons_zero, Array.toArray_toList, World.size_alloc]
            refine wpAnyH_take (i := 4) (v := ?_) rfl (by kernel_rfl) (by kernel_rfl) (by kernel_rfl) (fun _ _ _ h => h) (Or.inl ⟨by rfl, ?_⟩) hS ?_
            rotate_left 1
            · intro W hW
              clear hW
              go_simp
              all_goals with_reducible rfl
            try simp only [Act.put, List.setIfInBounds_toArray, List.set_cons_zero, List.set_cons_succ, List.getElem_toArray, List.getElem_cons_succ, List.getElem_cons_zero, Array.toArray_toList, World.size_alloc]
            refine wpAnyH_take (i := 5) rfl (by kernel_rfl) (by kernel_rfl) (by kernel_rfl) (fun _ _ _ h => h) (yieldsIf_load_mid (by rfl) _ _ rfl _ _ rfl _ _ (fun W hW => hW.n12) Try.underlying58 rfl (info58c _)) hS ?_
            try simp only [Act.put, List.setIfInBounds_toArray, List.set_cons_zero, List.set_cons_succ, List.getElem_toArray, List.getElem_cons_succ, List.getElem_cons_zero, Array.toArray_toList, World.size_alloc]
            refine wpAnyH_take (i := 6) rfl (by kernel_rfl) (by kernel_rfl) (by kernel_rfl) (fun _ _ _ h => h) (yieldsIf_load_mid (by rfl) _ _ rfl _ _ rfl _ _ (fun W hW => hW.n14) Try.underlying58 rfl (info58c _)) hS ?_
            try simp only [Act.put, List.setIfInBounds_toArray, List.set_cons_zero, List.set_cons_succ, List.getElem_toArray, List.getElem_cons_succ, List.getElem_cons_zero, Array.toArray_toList, World.size_alloc]
            refine wpAnyH_take (i := 7) (v := ?_) rfl (by kernel_rfl) (by kernel_rfl) (by kernel_rfl) (fun _ _ _ h => h) (Or.inl ⟨by rfl, ?_⟩) hS ?_
            rotate_left 1
            · intro W hW
              clear hW
              go_simp
              all_goals with_reducible rfl
            try simp only [Act.put, List.setIfInBounds_toArray, List.set_cons_zero, List.set_cons_succ, List.getElem_toArray, List.getElem_cons_succ, List.getElem_cons_zero, Array.toArray_toList, World.size_alloc]
            refine wpAnyH_take (i := 8) (v := ?_) rfl (by kernel_rfl) (by kernel_rfl) (by kernel_rfl) (fun _ _ _ h => h) (Or.inl ⟨by rfl, ?_⟩) hS ?_
            rotate_left 1
            · intro W hW
              clear hW
              go_simp
              all_goals with_reducible rfl
            try simp only [Act.put, List.setIfInBounds_toArray, List.set_cons_zero, List.set_cons_succ, List.getElem_toArray, List.getElem_cons_succ, List.getElem_cons_zero, Array.toArray_toList, World.size_alloc]
            refine wpAnyH_done (by kernel_rfl) ?_ _
            have HS := Lib.hid hS
            have hsB6 := hS.x6.2.2
            have hsB7 := hS.x7.2.2
            have hs11 := hS.n11.2.2
            have hs13 := hS.n13.2.2
            clear hS q1 q2
            go_wp2_with (first
              | ((with_reducible refine is_loadT 47 rfl ?_); refine wpList_load_row rfl _ _ rfl _ _ rfl _ Try.underlying47 rfl G.a HS.out.n11.1 (info47c _) ?_)
              | ((with_reducible refine is_storeT 47 rfl ?_); refine wpList_store_rowT rfl _ _ _ rfl _ _ G.a rfl rfl (by rw [ct_size]; exact there_of HS.out.x6.1 HS.out.x6.2.1 (Nat.le_refl _)) (info47c _) (ct_one _) ?_; intro W22 hW hT; have m6 : Hid (CtAt W22 B6 G) := Lib.hid ⟨hW, HS.out.x6.2.1.touch hT hsB6, Nat.lt_of_lt_of_le hsB6 hT.size⟩; have m7 := Lib.hid (HS.out.x7.touch hT (by omega)); have m13 := Lib.hid (HS.out.n13.touch hT (by omega)); have mb := hT.below w.heap.size w (by omega) HS.out.below.size HS.out.below; clear hW hT)
              | ((with_reducible refine is_loadT 51 rfl ?_); refine wpList_load_row rfl _ _ rfl _ _ rfl _ Try.underlying51 rfl G.a m13.out.1 (info51c _) ?_)
              | ((with_reducible refine is_storeT 51 rfl ?_); refine wpList_store_rowT rfl _ _ _ rfl _ _ G.a rfl rfl (by rw [ct_size]; exact there_of m7.out.1 m7.out.2.1 (Nat.le_refl _)) (info51c _) (ct_one _) ?_; intro W23 hW hT; have y7 : Hid (CtAt W23 B7 G) := Lib.hid ⟨hW, m7.out.2.1.touch hT m7.out.2.2, Nat.lt_of_lt_of_le m7.out.2.2 hT.size⟩; have y6 := Lib.hid (m6.out.touch hT (by omega)); have yb := hT.below w.heap.size w (by omega) mb.size mb; clear hW hT))
            go_round
            case rel => exact ⟨k + 1, G, hD2, by simp, by omega, y6.out, y7.out, yb⟩
            case measure => simp [intOf]; omega
          · have k2' : ¬ ((k : Int) < (n2 : Int)) := by omega
            go_wp2_with fail
            go_returns
            exact ⟨rfl, fb⟩
end Go.Proofs.Ytmoafjgogbcoeaa
