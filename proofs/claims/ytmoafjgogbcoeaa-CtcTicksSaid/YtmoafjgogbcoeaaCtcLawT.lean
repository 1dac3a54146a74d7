/- charabanclaw23.CtcTicks is true at whatever counters and edges. -/
import Derived.Test.YtmoafjgogbcoeaaCtcAwake
import Derived.Test.YtmoafjgogbcoeaaCtcPlain
import Derived.Test.YtmoafjgogbcoeaaCtcTickR
import Derived.Test.YtmoafjgogbcoeaaCtcAckR
import Derived.Test.YtmoafjgogbcoeaaCtcEq
import Derived.Test.YtmoafjgogbcoeaaCtcRefW
import Derived.Deep.RegionHeld3
import Derived.Deep.DeepCutAuto
namespace Go.Proofs.Ytmoafjgogbcoeaa
open Go.RowKit
set_option linter.unusedVariables false
set_option linter.unusedSimpArgs false
set_option maxRecDepth 100000

/-- What stands behind the first step: the counters, the edges, what the step made of them. -/
structure TS (w W : World) (H : Nat) (c : M.Ct) (e : M.E4) (B : Nat) (D : M.Ct) (E : M.E4) : Prop where
  box : CtAt W H c
  edges : W.rangeAt (H + 1) 0 e.a.toList
  newC : CtAt W B D
  newE : W.rangeAt (B + 1) 0 E.a.toList
  far : H + 2 ≤ B
  size : B + 2 ≤ W.heap.size
  below : Below H w W
variable {w X W : World} {H B : Nat} {c D : M.Ct} {e E : M.E4}
theorem TS.belowX (h : TS w X H c e B D E) (hb : Below X.heap.size X W) : TS w W H c e B D E :=
  have hs := h.size
  have hf := h.far
  ⟨h.box.belowX hb, range_below h.edges hb (by omega), h.newC.belowX hb, range_below h.newE hb (by omega), h.far, Nat.le_trans hs hb.size, h.below.trans (hb.mono (by omega))⟩
theorem TS.alloc (h : TS w X H c e B D E) (ob : Obj) : TS w (X.alloc ob) H c e B D E := h.belowX ((Below.refl _ _).alloc (Nat.le_refl _) ob)
theorem TS.drew (h : TS w X H c e B D E) : TS w X.drew H c e B D E := h.belowX (Below.refl _ _).drew
theorem TS.store (h : TS w X H c e B D E) {b : Nat} (hb : B + 2 ≤ b) (vs : List Value) : TS w (X.setCells b 0 vs) H c e B D E :=
  have hs := h.size
  have hf := h.far
  have ht := touch_setCells X b 0 vs
  ⟨h.box.touch ht (by omega), ht.range (by omega) h.edges (.inl (by omega)), h.newC.touch ht (by omega), ht.range (by omega) h.newE (.inl (by omega)), h.far, Nat.le_trans hs ht.size, ht.below _ _ (by omega) (by omega) h.below⟩
def UT (w W : World) (H : Nat) (c : M.Ct) (e : M.E4) (B : Nat) (D : M.Ct) (E : M.E4) (b9 b10 : Nat) : Prop := TS w W H c e B D E ∧ W.rangeAt b9 0 D.a.toList ∧ W.rangeAt b10 0 E.a.toList ∧ b9 < W.heap.size ∧ b10 < W.heap.size
theorem UT.belowX {b9 b10 : Nat} (h : UT w X H c e B D E b9 b10) (hb : Below X.heap.size X W) : UT w W H c e B D E b9 b10 :=
  ⟨h.1.belowX hb, range_below h.2.1 hb h.2.2.2.1, range_below h.2.2.1 hb h.2.2.2.2, Nat.lt_of_lt_of_le h.2.2.2.1 hb.size, Nat.lt_of_lt_of_le h.2.2.2.2 hb.size⟩
structure VS (w W : World) (H : Nat) (c : M.Ct) (e : M.E4) (B : Nat) (D : M.Ct) (E : M.E4) (F : M.Ct) (b9 b10 b11 b13 : Nat) : Prop where
  u : UT w W H c e B D E b9 b10
  r11 : W.rangeAt b11 0 F.a.toList
  r13 : W.rangeAt b13 0 F.a.toList
  l11 : b11 < W.heap.size
  l13 : b13 < W.heap.size
theorem VS.belowX {F : M.Ct} {b9 b10 b11 b13 : Nat} (h : VS w X H c e B D E F b9 b10 b11 b13) (hb : Below X.heap.size X W) : VS w W H c e B D E F b9 b10 b11 b13 :=
  ⟨h.u.belowX hb, range_below h.r11 hb h.l11, range_below h.r13 hb h.l13, Nat.lt_of_lt_of_le h.l11 hb.size, Nat.lt_of_lt_of_le h.l13 hb.size⟩
theorem VS.drew {F : M.Ct} {b9 b10 b11 b13 : Nat} (h : VS w X H c e B D E F b9 b10 b11 b13) : VS w X.drew H c e B D E F b9 b10 b11 b13 := h.belowX (Below.refl _ _).drew
set_option maxHeartbeats 8000000 in
theorem ticks_true (c : M.Ct) (hc : c.ok) (e : M.E4) (w : World) : Calls Try.prog 7 #[.agg c.a, .agg e.a] w fun e' w' => e' = .returned (.bool true) ∧ Below w.heap.size w w' := by
  have h1 := fun W => ctick_all c hc e W
  have h2 := fun W => rtick_all c hc e W
  have h3 := fun W => cack_any c hc W
  have h4 := fun W => rack_any c hc W
  have h5 := fun W => cpend_any c W
  have h6 := fun W => rpend_any c W
  have hP := fun W => plain_any c W
  have hPD := fun W => plain_any (M.tickC c e) W
  have hPA := fun W => plain_any (M.ackC c) W
  have q1 := fun W => eql51 (M.tickC c e) W
  have q2 := fun W => eql58 (M.tickE c e) W
  have q3 := fun W => eql51 (M.ackC c) W
  generalize M.tickC c e = D at h1 h2 hPD q1
  generalize M.tickE c e = E at h1 h2 q2
  generalize M.ackC c = F at h3 h4 hPA q3
  generalize M.ackV c = V at h3 h4
  generalize M.pendC c = R at h5 h6
  have H1 := Lib.hid h1
  have HR := Lib.hid h2
  have H3 := Lib.hid h3
  have H4 := Lib.hid h4
  have H5 := Lib.hid h5
  have H6 := Lib.hid h6
  have HP := Lib.hid hP
  have HPD := Lib.hid hPD
  have HPA := Lib.hid hPA
  have Q1 := Lib.hid q1
  have Q2 := Lib.hid q2
  have Q3 := Lib.hid q3
  clear h1 h2 h3 h4 h5 h6 hP hPD hPA q1 q2 q3
  obtain ⟨Z, hZn, hZ'⟩ := zero47
  obtain ⟨Z51, hZ51n, hZ51'⟩ := zero51
  obtain ⟨Y, hYs, hY'⟩ := zero58
  have hZ := Lib.hid hZ'
  have hZ51 := Lib.hid hZ51'
  have hY := Lib.hid hY'
  have hYn : Y.size = 4 := by rw [hYs]; rfl
  clear hZ' hZ51' hY' hYs
  have hs := ct_size c
  have hs4 := e4_size e
  go_enter Try.func7, Try.ntmps7
  go_wp2_with fail
  refine (awake_any _).mono ?_
  rintro e1 w1 ⟨rfl, hb1⟩
  have hz1 := hb1.size
  simp at hz1
  have hS0 : CtAt w1 w.heap.size c ∧ w1.rangeAt (w.heap.size + 1) 0 e.a.toList ∧ Below w.heap.size w w1 := ⟨((ct_new w c _).alloc _).belowX hb1, range_below (range_newB _ _ _ (by simp)) hb1 (by simp), Below.trans (by go_grown) (hb1.mono (by simp; omega))⟩
  have HS0 := Lib.hid hS0
  clear hS0 hb1
  go_wp2_with fail
  go_loopw [6] (fun i wr => ∃ k : Nat, k ≤ 4 ∧ i = .int .i64 k ∧ wr = w1) (fun i _ => 4 - (intOf i).toNat)
  case atStart => exact ⟨0, by omega, rfl, rfl⟩
  case round =>
    obtain ⟨k, hk, rfl, rfl⟩ := hrel
    by_cases hlt : k < 4
    · have hlt' : (k : Int) < 4 := by omega
      have hlt0 : (0 : Int) ≤ (k : Int) := by omega
      have hkk : k * 8 = 8 * k := Nat.mul_comm _ _
      have hcc := ch_cells (ct_at HS0.out.1.1 k hlt)
      obtain ⟨_, _, c2, c3, _, _, _, _⟩ := hcc
      have hbl := HS0.out.2.2
      by_cases ha : (c.at k).cnt < -1000000
      · go_wp2_with fail
        go_returns
        exact ⟨rfl, hbl⟩
      · by_cases hb : 1000000 < (c.at k).pre
        · go_wp2_with fail
          go_returns
          exact ⟨rfl, hbl⟩
        · go_wp2_with fail
          go_round
          case rel => exact ⟨k + 1, by omega, by simp, by simp⟩
          case measure => simp [intOf]; omega
    · have : k = 4 := by omega
      subst this
      go_wp2_with (first
        | ((with_reducible refine is_loadT 47 rfl ?_); refine wpList_load_row rfl _ _ rfl _ _ rfl _ Try.underlying47 rfl c.a HS0.out.1.1 (info47c _) ?_)
        | ((with_reducible refine is_loadT 58 rfl ?_); refine wpList_load_row rfl _ _ rfl _ _ rfl _ Try.underlying58 rfl e.a HS0.out.2.1 (info58c _) ?_))
      refine (H1.out _).mono ?_
      rintro e1 w2 ⟨rfl, hb2⟩
      have hz2 := hb2.size
      have hA2 : CtAt w2 w.heap.size c ∧ w2.rangeAt (w.heap.size + 1) 0 e.a.toList ∧ Below w.heap.size w w2 := ⟨HS0.out.1.belowX hb2, range_below HS0.out.2.1 hb2 (by omega), HS0.out.2.2.trans (hb2.mono (by omega))⟩
      have HA2 := Lib.hid hA2
      clear hA2 hb2
      go_wp2_with (first
        | ((with_reducible refine is_allocT 47 rfl ?_); refine wpList_alloc_row rfl _ rfl Z hZ.out ?_)
        | ((with_reducible refine is_allocT 58 rfl ?_); refine wpList_alloc_row rfl _ rfl Y hY.out ?_)
        | ((with_reducible refine is_storeT 47 rfl ?_); refine wpList_store_rowT rfl _ _ _ rfl _ _ D.a rfl rfl (by rw [ct_size]; exact there_allocA (there_newA w2 Z _ 33 (by omega)) _) (info47c _) (ct_one _) ?_;
            intro V4 hW hT; have hw3 := Lib.hid hW; have hfr := Lib.hid (Free.touch ((free_new w2 Z 47 33).alloc (by simp) (.cells Y 58)) hT (by simp; omega)); have hth3 := Lib.hid (there_touch (there_newB (b := w2.heap.size + 1) (w2.alloc (.cells Z 47)) Y 58 4 (by simp) (by omega)) hT (by simp) (by omega)); have hX3 := Lib.hid (hT.below w2.heap.size w2 (Nat.le_refl _) (by simp; omega) (((Below.refl w2.heap.size w2).alloc (Nat.le_refl _) _).alloc (by simp) _)); have hsz0 : w2.heap.size + 1 + 1 ≤ V4.heap.size := Nat.le_trans (by simp) hT.size; clear hW hT)
        | ((with_reducible refine is_storeT 58 rfl ?_); refine wpList_store_rowT rfl _ _ _ rfl _ _ E.a rfl rfl (by rw [e4_size]; simp only [World.size_alloc]; exact hth3.out) (info58c _) (e4_one _) ?_;
            intro W4 hW hT; simp only [World.size_alloc] at hW hT; have hM4 := Lib.hid hW; have hX4 := hT.below w2.heap.size w2 (by omega) (by omega) hX3.out; have hN4 : Hid (CtAt W4 w2.heap.size D) := Lib.hid ⟨hT.range (by omega) hw3.out (.inl (by omega)), hfr.out.touch hT (by omega), Nat.lt_of_lt_of_le (by omega) hT.size⟩; have hsz4 : w2.heap.size + 1 + 1 ≤ W4.heap.size := Nat.le_trans hsz0 hT.size; clear hW hT hw3 hfr hth3 hX3))
      have hTS : TS w W4 w.heap.size c e w2.heap.size D E := ⟨HA2.out.1.belowX hX4, range_below HA2.out.2.1 hX4 (by omega), hN4.out, hM4.out, by omega, hsz4, HA2.out.2.2.trans (hX4.mono (by omega))⟩
      clear hX4 hN4 hM4 HA2 HS0
      go_wp2_with fail
      try simp only [Act.put, List.setIfInBounds_toArray, List.set_cons_zero, List.set_cons_succ, Array.toArray_toList, World.size_alloc]
      generalize w2.heap.size = B at *
      have HTS := Lib.hid hTS
      clear hTS
      go_cut [9, 10] (fun s9 s10 wx => ∃ b9 b10 : Nat, s9 = .pointer (some ⟨b9, 0, none⟩) ∧ s10 = .pointer (some ⟨b10, 0, none⟩) ∧ TS w wx w.heap.size c e B D E ∧ wx.rangeAt b9 0 D.a.toList ∧ wx.rangeAt b10 0 E.a.toList ∧ b9 < wx.heap.size ∧ b10 < wx.heap.size)
      case first =>
        refine wp_region_held_drew (S := fun W => TS w W w.heap.size c e B D E) (by kernel_rfl) HTS.out.drew ?_
        clear HTS
        generalize W4.drew = X0
        intro hS
        refine wpAnyH_take (i := 0) rfl (by kernel_rfl) (by kernel_rfl) (by kernel_rfl) (fun _ _ _ h => h) (yieldsIf_load_mid (by rfl) _ _ rfl _ _ rfl _ _ (fun W hW => hW.box.1) Try.underlying47 rfl (info47c _)) hS ?_
        try simp only [Act.put, List.setIfInBounds_toArray, List.set_cons_zero, List.set_cons_succ, List.getElem_toArray, List.getElem_cons_succ, List.getElem_cons_zero, Array.toArray_toList]
        refine wpAnyH_take (i := 2) rfl (by kernel_rfl) (by kernel_rfl) (by kernel_rfl) (fun _ _ _ h => h) (yieldsIf_load_mid (by rfl) _ _ rfl _ _ rfl _ _ (fun W hW => hW.edges) Try.underlying58 rfl (info58c _)) hS ?_
        try simp only [Act.put, List.setIfInBounds_toArray, List.set_cons_zero, List.set_cons_succ, List.getElem_toArray, List.getElem_cons_succ, List.getElem_cons_zero, Array.toArray_toList]
        refine wpAnyH_ready (rs := [1, 7, 8]) (by kernel_rfl) (by simp) (AllReadyH.cons rfl ?_ (AllReadyH.cons rfl ?_ (AllReadyH.cons rfl ?_ AllReadyH.nil)))
        · intro K1 hK1
          rw [if_pos (by rfl)]
          try simp only [Act.put, List.setIfInBounds_toArray, List.set_cons_zero, List.set_cons_succ, List.getElem_toArray, List.getElem_cons_succ, List.getElem_cons_zero, Array.toArray_toList]
          go_simp
          refine (HP.out _).mono ?_
          rintro e1 v1 ⟨rfl, hb⟩
          refine hK1.out _ _ (hS.belowX hb) (fun hS2 => ?_)
          clear hK1 hS hb
          have hS := hS2
          clear hS2
          try simp only [Act.put, List.setIfInBounds_toArray, List.set_cons_zero, List.set_cons_succ, List.getElem_toArray, List.getElem_cons_succ, List.getElem_cons_zero, Array.toArray_toList]
          refine wpAnyH_ready (rs := [3, 7, 8]) (by kernel_rfl) (by simp) (AllReadyH.cons rfl ?_ (AllReadyH.cons rfl ?_ (AllReadyH.cons rfl ?_ AllReadyH.nil)))
          · intro K3 hK3
            rw [if_pos (by rfl)]
            try simp only [Act.put, List.setIfInBounds_toArray, List.set_cons_zero, List.set_cons_succ, List.getElem_toArray, List.getElem_cons_succ, List.getElem_cons_zero, Array.toArray_toList]
            go_simp
            refine (HR.out _).mono ?_
            rintro e1 v3 ⟨rfl, hb⟩
            refine hK3.out _ _ (hS.belowX hb) (fun hS2 => ?_)
            clear hK3 hS hb
            have hS := hS2
            clear hS2
            try simp only [Act.put, List.setIfInBounds_toArray, List.set_cons_zero, List.set_cons_succ, List.getElem_toArray, List.getElem_cons_succ, List.getElem_cons_zero, Array.toArray_toList]
            refine wpAnyH_take (i := 4) (v := ?_) rfl (by kernel_rfl) (by kernel_rfl) (by kernel_rfl) (fun _ _ _ h => h) (Or.inl ⟨by rfl, ?_⟩) hS ?_
            rotate_left 1
            · intro W hW
              clear hW
              go_simp
              all_goals with_reducible rfl
            try simp only [Act.put, List.setIfInBounds_toArray, List.set_cons_zero, List.set_cons_succ, List.getElem_toArray, List.getElem_cons_succ, List.getElem_cons_zero, Array.toArray_toList]
            refine wpAnyH_take (i := 5) (v := ?_) rfl (by kernel_rfl) (by kernel_rfl) (by kernel_rfl) (fun _ _ _ h => h) (Or.inl ⟨by rfl, ?_⟩) hS ?_
            rotate_left 1
            · intro W hW
              clear hW
              go_simp
              all_goals with_reducible rfl
            try simp only [Act.put, List.setIfInBounds_toArray, List.set_cons_zero, List.set_cons_succ, List.getElem_toArray, List.getElem_cons_succ, List.getElem_cons_zero, Array.toArray_toList]
            refine wpAnyH_take (i := 6) (v := ?_) rfl (by kernel_rfl) (by kernel_rfl) (by kernel_rfl) (fun _ _ _ h => h) (Or.inl ⟨by rfl, ?_⟩) hS ?_
            rotate_left 1
            · intro W hW
              clear hW
              go_simp
              all_goals with_reducible rfl
            try simp only [Act.put, List.setIfInBounds_toArray, List.set_cons_zero, List.set_cons_succ, List.getElem_toArray, List.getElem_cons_succ, List.getElem_cons_zero, Array.toArray_toList]
            refine wpAnyH_ready (rs := [7, 8]) (by kernel_rfl) (by simp) (AllReadyH.cons rfl ?_ (AllReadyH.cons rfl ?_ AllReadyH.nil))
            · intro K7 hK7
              rw [if_pos (by rfl)]
              try simp only [Act.put, List.setIfInBounds_toArray, List.set_cons_zero, List.set_cons_succ, List.getElem_toArray, List.getElem_cons_succ, List.getElem_cons_zero, Array.toArray_toList]
              refine wp_alloc_row _ rfl Z51 hZ51.out ?_
              try simp only [Act.put, List.setIfInBounds_toArray, List.set_cons_zero, List.set_cons_succ, List.getElem_toArray, List.getElem_cons_succ, List.getElem_cons_zero, Array.toArray_toList]
              have th9 := Lib.hid (there_newA v3 Z51 51 33 (by omega))
              have ge9 : B + 2 ≤ v3.heap.size := hS.size
              have lt9 : v3.heap.size < (v3.alloc (.cells Z51 51)).heap.size := by simp
              refine hK7.out _ _ (hS.alloc _) (fun hS2 => ?_)
              clear hK7 hS
              have hS := hS2
              clear hS2
              generalize v3.alloc (.cells Z51 51) = VV2 at *
              generalize v3.heap.size = b9 at *
              refine wpAnyH_ready (rs := [8]) (by kernel_rfl) (by simp) (AllReadyH.cons rfl ?_ AllReadyH.nil)
              · intro K8 hK8
                rw [if_pos (by rfl)]
                try simp only [Act.put, List.setIfInBounds_toArray, List.set_cons_zero, List.set_cons_succ, List.getElem_toArray, List.getElem_cons_succ, List.getElem_cons_zero, Array.toArray_toList]
                refine wp_alloc_row _ rfl Y hY.out ?_
                try simp only [Act.put, List.setIfInBounds_toArray, List.set_cons_zero, List.set_cons_succ, List.getElem_toArray, List.getElem_cons_succ, List.getElem_cons_zero, Array.toArray_toList]
                have th10 := Lib.hid (there_newA VV2 Y 58 4 (by omega))
                have ge10 : B + 2 ≤ VV2.heap.size := hS.size
                have lt10 : VV2.heap.size < (VV2.alloc (.cells Y 58)).heap.size := by simp
                have ne910 : b9 < VV2.heap.size := lt9
                have th9' := Lib.hid (there_allocA th9.out (.cells Y 58))
                have lt9' : b9 < (VV2.alloc (.cells Y 58)).heap.size := by simp; omega
                clear th9 lt9
                have th9 := th9'
                have lt9 := lt9'
                clear th9' lt9'
                refine hK8.out _ _ (hS.alloc _) (fun hS2 => ?_)
                clear hK8 hS
                have hS := hS2
                clear hS2
                generalize VV2.alloc (.cells Y 58) = VV3 at *
                generalize VV2.heap.size = b10 at *
                refine wpAnyH_ready (rs := [9]) (by kernel_rfl) (by simp) (AllReadyH.cons rfl ?_ AllReadyH.nil)
                intro K9 hK9
                rw [if_pos (by rfl)]
                try simp only [Act.put, List.setIfInBounds_toArray, List.set_cons_zero, List.set_cons_succ, List.getElem_toArray, List.getElem_cons_succ, List.getElem_cons_zero, Array.toArray_toList]
                have r9 := World.rangeAt_setCells_same VV3 b9 0 D.a.toList (by rw [Array.length_toList, ct_size]; exact th9.out)
                have s9 := hS.store ge9 D.a.toList
                have t10 := World.there_setCells th10.out b9 0 D.a.toList
                have l9 := Nat.lt_of_lt_of_le lt9 (touch_setCells VV3 b9 0 D.a.toList).size
                have l10 := Nat.lt_of_lt_of_le lt10 (touch_setCells VV3 b9 0 D.a.toList).size
                refine wp_store_mid _ _ _ rfl _ _ D.a rfl rfl (by rw [ct_size]; exact th9.out) (info51c _) (ct_one _) ?_
                try simp only [Act.put, List.setIfInBounds_toArray, List.set_cons_zero, List.set_cons_succ, List.getElem_toArray, List.getElem_cons_succ, List.getElem_cons_zero, Array.toArray_toList]
                refine hK9.out _ _ s9 (fun hS2 => ?_)
                clear hK9 hS s9 th9 th10 lt9 lt10
                have hS := hS2
                clear hS2
                generalize (VV3).setCells b9 0 D.a.toList = W9 at *
                refine wpAnyH_ready (rs := [10]) (by kernel_rfl) (by simp) (AllReadyH.cons rfl ?_ AllReadyH.nil)
                intro K10 hK10
                rw [if_pos (by rfl)]
                try simp only [Act.put, List.setIfInBounds_toArray, List.set_cons_zero, List.set_cons_succ, List.getElem_toArray, List.getElem_cons_succ, List.getElem_cons_zero, Array.toArray_toList]
                have r10 := World.rangeAt_setCells_same W9 b10 0 E.a.toList (by rw [Array.length_toList, e4_size]; exact t10)
                have r9' := World.rangeAt_setCells_apart r9 b10 0 E.a.toList (.inl (by omega))
                have s10 := hS.store ge10 E.a.toList
                have l9' := Nat.lt_of_lt_of_le l9 (touch_setCells W9 b10 0 E.a.toList).size
                have l10' := Nat.lt_of_lt_of_le l10 (touch_setCells W9 b10 0 E.a.toList).size
                refine wp_store_mid _ _ _ rfl _ _ E.a rfl rfl (by rw [e4_size]; exact t10) (info58c _) (e4_one _) ?_
                try simp only [Act.put, List.setIfInBounds_toArray, List.set_cons_zero, List.set_cons_succ, List.getElem_toArray, List.getElem_cons_succ, List.getElem_cons_zero, Array.toArray_toList]
                refine hK10.out _ _ s10 (fun hS2 => ?_)
                clear hK10 hS s10 t10 r9 l9 l10
                generalize W9.setCells b10 0 E.a.toList = W10 at *
                refine wpAnyH_done (by kernel_rfl) ?_ _
                have G : TS w W10 w.heap.size c e B D E ∧ W10.rangeAt b9 0 D.a.toList ∧ W10.rangeAt b10 0 E.a.toList ∧ b9 < W10.heap.size ∧ b10 < W10.heap.size := ⟨hS2, r9', r10, l9', l10'⟩
                have G' := Lib.hid G
                clear G hS2 r9' r10 l9' l10'
                go_wp2_with fail
                go_meet
                exact ⟨b9, b10, rfl, rfl, G'.out⟩
            · intro K8 hK8
              rw [if_pos (by rfl)]
              try simp only [Act.put, List.setIfInBounds_toArray, List.set_cons_zero, List.set_cons_succ, List.getElem_toArray, List.getElem_cons_succ, List.getElem_cons_zero, Array.toArray_toList]
              refine wp_alloc_row _ rfl Y hY.out ?_
              try simp only [Act.put, List.setIfInBounds_toArray, List.set_cons_zero, List.set_cons_succ, List.getElem_toArray, List.getElem_cons_succ, List.getElem_cons_zero, Array.toArray_toList]
              have th10 := Lib.hid (there_newA v3 Y 58 4 (by omega))
              have ge10 : B + 2 ≤ v3.heap.size := hS.size
              have lt10 : v3.heap.size < (v3.alloc (.cells Y 58)).heap.size := by simp
              refine hK8.out _ _ (hS.alloc _) (fun hS2 => ?_)
              clear hK8 hS
              have hS := hS2
              clear hS2
              generalize v3.alloc (.cells Y 58) = VV2 at *
              generalize v3.heap.size = b10 at *
              refine wpAnyH_ready (rs := [7]) (by kernel_rfl) (by simp) (AllReadyH.cons rfl ?_ AllReadyH.nil)
              · intro K7 hK7
                rw [if_pos (by rfl)]
                try simp only [Act.put, List.setIfInBounds_toArray, List.set_cons_zero, List.set_cons_succ, List.getElem_toArray, List.getElem_cons_succ, List.getElem_cons_zero, Array.toArray_toList]
                refine wp_alloc_row _ rfl Z51 hZ51.out ?_
                try simp only [Act.put, List.setIfInBounds_toArray, List.set_cons_zero, List.set_cons_succ, List.getElem_toArray, List.getElem_cons_succ, List.getElem_cons_zero, Array.toArray_toList]
                have th9 := Lib.hid (there_newA VV2 Z51 51 33 (by omega))
                have ge9 : B + 2 ≤ VV2.heap.size := hS.size
                have lt9 : VV2.heap.size < (VV2.alloc (.cells Z51 51)).heap.size := by simp
                have ne910 : b10 < VV2.heap.size := lt10
                have th10' := Lib.hid (there_allocA th10.out (.cells Z51 51))
                have lt10' : b10 < (VV2.alloc (.cells Z51 51)).heap.size := by simp; omega
                clear th10 lt10
                have th10 := th10'
                have lt10 := lt10'
                clear th10' lt10'
                refine hK7.out _ _ (hS.alloc _) (fun hS2 => ?_)
                clear hK7 hS
                have hS := hS2
                clear hS2
                generalize VV2.alloc (.cells Z51 51) = VV3 at *
                generalize VV2.heap.size = b9 at *
                refine wpAnyH_ready (rs := [9]) (by kernel_rfl) (by simp) (AllReadyH.cons rfl ?_ AllReadyH.nil)
                intro K9 hK9
                rw [if_pos (by rfl)]
                try simp only [Act.put, List.setIfInBounds_toArray, List.set_cons_zero, List.set_cons_succ, List.getElem_toArray, List.getElem_cons_succ, List.getElem_cons_zero, Array.toArray_toList]
                have r9 := World.rangeAt_setCells_same VV3 b9 0 D.a.toList (by rw [Array.length_toList, ct_size]; exact th9.out)
                have s9 := hS.store ge9 D.a.toList
                have t10 := World.there_setCells th10.out b9 0 D.a.toList
                have l9 := Nat.lt_of_lt_of_le lt9 (touch_setCells VV3 b9 0 D.a.toList).size
                have l10 := Nat.lt_of_lt_of_le lt10 (touch_setCells VV3 b9 0 D.a.toList).size
                refine wp_store_mid _ _ _ rfl _ _ D.a rfl rfl (by rw [ct_size]; exact th9.out) (info51c _) (ct_one _) ?_
                try simp only [Act.put, List.setIfInBounds_toArray, List.set_cons_zero, List.set_cons_succ, List.getElem_toArray, List.getElem_cons_succ, List.getElem_cons_zero, Array.toArray_toList]
                refine hK9.out _ _ s9 (fun hS2 => ?_)
                clear hK9 hS s9 th9 th10 lt9 lt10
                have hS := hS2
                clear hS2
                generalize (VV3).setCells b9 0 D.a.toList = W9 at *
                refine wpAnyH_ready (rs := [10]) (by kernel_rfl) (by simp) (AllReadyH.cons rfl ?_ AllReadyH.nil)
                intro K10 hK10
                rw [if_pos (by rfl)]
                try simp only [Act.put, List.setIfInBounds_toArray, List.set_cons_zero, List.set_cons_succ, List.getElem_toArray, List.getElem_cons_succ, List.getElem_cons_zero, Array.toArray_toList]
                have r10 := World.rangeAt_setCells_same W9 b10 0 E.a.toList (by rw [Array.length_toList, e4_size]; exact t10)
                have r9' := World.rangeAt_setCells_apart r9 b10 0 E.a.toList (.inl (by omega))
                have s10 := hS.store ge10 E.a.toList
                have l9' := Nat.lt_of_lt_of_le l9 (touch_setCells W9 b10 0 E.a.toList).size
                have l10' := Nat.lt_of_lt_of_le l10 (touch_setCells W9 b10 0 E.a.toList).size
                refine wp_store_mid _ _ _ rfl _ _ E.a rfl rfl (by rw [e4_size]; exact t10) (info58c _) (e4_one _) ?_
                try simp only [Act.put, List.setIfInBounds_toArray, List.set_cons_zero, List.set_cons_succ, List.getElem_toArray, List.getElem_cons_succ, List.getElem_cons_zero, Array.toArray_toList]
                refine hK10.out _ _ s10 (fun hS2 => ?_)
                clear hK10 hS s10 t10 r9 l9 l10
                generalize W9.setCells b10 0 E.a.toList = W10 at *
                refine wpAnyH_done (by kernel_rfl) ?_ _
                have G : TS w W10 w.heap.size c e B D E ∧ W10.rangeAt b9 0 D.a.toList ∧ W10.rangeAt b10 0 E.a.toList ∧ b9 < W10.heap.size ∧ b10 < W10.heap.size := ⟨hS2, r9', r10, l9', l10'⟩
                have G' := Lib.hid G
                clear G hS2 r9' r10 l9' l10'
                go_wp2_with fail
                go_meet
                exact ⟨b9, b10, rfl, rfl, G'.out⟩
          · intro K7 hK7
            rw [if_pos (by rfl)]
            try simp only [Act.put, List.setIfInBounds_toArray, List.set_cons_zero, List.set_cons_succ, List.getElem_toArray, List.getElem_cons_succ, List.getElem_cons_zero, Array.toArray_toList]
            refine wp_alloc_row _ rfl Z51 hZ51.out ?_
            try simp only [Act.put, List.setIfInBounds_toArray, List.set_cons_zero, List.set_cons_succ, List.getElem_toArray, List.getElem_cons_succ, List.getElem_cons_zero, Array.toArray_toList]
            have th9 := Lib.hid (there_newA v1 Z51 51 33 (by omega))
            have ge9 : B + 2 ≤ v1.heap.size := hS.size
            have lt9 : v1.heap.size < (v1.alloc (.cells Z51 51)).heap.size := by simp
            refine hK7.out _ _ (hS.alloc _) (fun hS2 => ?_)
            clear hK7 hS
            have hS := hS2
            clear hS2
            generalize v1.alloc (.cells Z51 51) = VV1 at *
            generalize v1.heap.size = b9 at *
            refine wpAnyH_ready (rs := [3, 8]) (by kernel_rfl) (by simp) (AllReadyH.cons rfl ?_ (AllReadyH.cons rfl ?_ AllReadyH.nil))
            · intro K3 hK3
              rw [if_pos (by rfl)]
              try simp only [Act.put, List.setIfInBounds_toArray, List.set_cons_zero, List.set_cons_succ, List.getElem_toArray, List.getElem_cons_succ, List.getElem_cons_zero, Array.toArray_toList]
              go_simp
              refine (HR.out _).mono ?_
              rintro e1 v3 ⟨rfl, hb⟩
              refine hK3.out _ _ (hS.belowX hb) (fun hS2 => ?_)
              have th9' := Lib.hid (there_belowA th9.out hb lt9)
              have lt9' := Nat.lt_of_lt_of_le lt9 hb.size
              clear th9 lt9
              have th9 := th9'
              have lt9 := lt9'
              clear th9' lt9'
              clear hK3 hS hb
              have hS := hS2
              clear hS2
              try simp only [Act.put, List.setIfInBounds_toArray, List.set_cons_zero, List.set_cons_succ, List.getElem_toArray, List.getElem_cons_succ, List.getElem_cons_zero, Array.toArray_toList]
              refine wpAnyH_take (i := 4) (v := ?_) rfl (by kernel_rfl) (by kernel_rfl) (by kernel_rfl) (fun _ _ _ h => h) (Or.inl ⟨by rfl, ?_⟩) hS ?_
              rotate_left 1
              · intro W hW
                clear hW
                go_simp
                all_goals with_reducible rfl
              try simp only [Act.put, List.setIfInBounds_toArray, List.set_cons_zero, List.set_cons_succ, List.getElem_toArray, List.getElem_cons_succ, List.getElem_cons_zero, Array.toArray_toList]
              refine wpAnyH_take (i := 5) (v := ?_) rfl (by kernel_rfl) (by kernel_rfl) (by kernel_rfl) (fun _ _ _ h => h) (Or.inl ⟨by rfl, ?_⟩) hS ?_
              rotate_left 1
              · intro W hW
                clear hW
                go_simp
                all_goals with_reducible rfl
              try simp only [Act.put, List.setIfInBounds_toArray, List.set_cons_zero, List.set_cons_succ, List.getElem_toArray, List.getElem_cons_succ, List.getElem_cons_zero, Array.toArray_toList]
              refine wpAnyH_take (i := 6) (v := ?_) rfl (by kernel_rfl) (by kernel_rfl) (by kernel_rfl) (fun _ _ _ h => h) (Or.inl ⟨by rfl, ?_⟩) hS ?_
              rotate_left 1
              · intro W hW
                clear hW
                go_simp
                all_goals with_reducible rfl
              try simp only [Act.put, List.setIfInBounds_toArray, List.set_cons_zero, List.set_cons_succ, List.getElem_toArray, List.getElem_cons_succ, List.getElem_cons_zero, Array.toArray_toList]
              refine wpAnyH_ready (rs := [8]) (by kernel_rfl) (by simp) (AllReadyH.cons rfl ?_ AllReadyH.nil)
              · intro K8 hK8
                rw [if_pos (by rfl)]
                try simp only [Act.put, List.setIfInBounds_toArray, List.set_cons_zero, List.set_cons_succ, List.getElem_toArray, List.getElem_cons_succ, List.getElem_cons_zero, Array.toArray_toList]
                refine wp_alloc_row _ rfl Y hY.out ?_
                try simp only [Act.put, List.setIfInBounds_toArray, List.set_cons_zero, List.set_cons_succ, List.getElem_toArray, List.getElem_cons_succ, List.getElem_cons_zero, Array.toArray_toList]
                have th10 := Lib.hid (there_newA v3 Y 58 4 (by omega))
                have ge10 : B + 2 ≤ v3.heap.size := hS.size
                have lt10 : v3.heap.size < (v3.alloc (.cells Y 58)).heap.size := by simp
                have ne910 : b9 < v3.heap.size := lt9
                have th9' := Lib.hid (there_allocA th9.out (.cells Y 58))
                have lt9' : b9 < (v3.alloc (.cells Y 58)).heap.size := by simp; omega
                clear th9 lt9
                have th9 := th9'
                have lt9 := lt9'
                clear th9' lt9'
                refine hK8.out _ _ (hS.alloc _) (fun hS2 => ?_)
                clear hK8 hS
                have hS := hS2
                clear hS2
                generalize v3.alloc (.cells Y 58) = VV3 at *
                generalize v3.heap.size = b10 at *
                refine wpAnyH_ready (rs := [9]) (by kernel_rfl) (by simp) (AllReadyH.cons rfl ?_ AllReadyH.nil)
                intro K9 hK9
                rw [if_pos (by rfl)]
                try simp only [Act.put, List.setIfInBounds_toArray, List.set_cons_zero, List.set_cons_succ, List.getElem_toArray, List.getElem_cons_succ, List.getElem_cons_zero, Array.toArray_toList]
                have r9 := World.rangeAt_setCells_same VV3 b9 0 D.a.toList (by rw [Array.length_toList, ct_size]; exact th9.out)
                have s9 := hS.store ge9 D.a.toList
                have t10 := World.there_setCells th10.out b9 0 D.a.toList
                have l9 := Nat.lt_of_lt_of_le lt9 (touch_setCells VV3 b9 0 D.a.toList).size
                have l10 := Nat.lt_of_lt_of_le lt10 (touch_setCells VV3 b9 0 D.a.toList).size
                refine wp_store_mid _ _ _ rfl _ _ D.a rfl rfl (by rw [ct_size]; exact th9.out) (info51c _) (ct_one _) ?_
                try simp only [Act.put, List.setIfInBounds_toArray, List.set_cons_zero, List.set_cons_succ, List.getElem_toArray, List.getElem_cons_succ, List.getElem_cons_zero, Array.toArray_toList]
                refine hK9.out _ _ s9 (fun hS2 => ?_)
                clear hK9 hS s9 th9 th10 lt9 lt10
                have hS := hS2
                clear hS2
                generalize (VV3).setCells b9 0 D.a.toList = W9 at *
                refine wpAnyH_ready (rs := [10]) (by kernel_rfl) (by simp) (AllReadyH.cons rfl ?_ AllReadyH.nil)
                intro K10 hK10
                rw [if_pos (by rfl)]
                try simp only [Act.put, List.setIfInBounds_toArray, List.set_cons_zero, List.set_cons_succ, List.getElem_toArray, List.getElem_cons_succ, List.getElem_cons_zero, Array.toArray_toList]
                have r10 := World.rangeAt_setCells_same W9 b10 0 E.a.toList (by rw [Array.length_toList, e4_size]; exact t10)
                have r9' := World.rangeAt_setCells_apart r9 b10 0 E.a.toList (.inl (by omega))
                have s10 := hS.store ge10 E.a.toList
                have l9' := Nat.lt_of_lt_of_le l9 (touch_setCells W9 b10 0 E.a.toList).size
                have l10' := Nat.lt_of_lt_of_le l10 (touch_setCells W9 b10 0 E.a.toList).size
                refine wp_store_mid _ _ _ rfl _ _ E.a rfl rfl (by rw [e4_size]; exact t10) (info58c _) (e4_one _) ?_
                try simp only [Act.put, List.setIfInBounds_toArray, List.set_cons_zero, List.set_cons_succ, List.getElem_toArray, List.getElem_cons_succ, List.getElem_cons_zero, Array.toArray_toList]
                refine hK10.out _ _ s10 (fun hS2 => ?_)
                clear hK10 hS s10 t10 r9 l9 l10
                generalize W9.setCells b10 0 E.a.toList = W10 at *
                refine wpAnyH_done (by kernel_rfl) ?_ _
                have G : TS w W10 w.heap.size c e B D E ∧ W10.rangeAt b9 0 D.a.toList ∧ W10.rangeAt b10 0 E.a.toList ∧ b9 < W10.heap.size ∧ b10 < W10.heap.size := ⟨hS2, r9', r10, l9', l10'⟩
                have G' := Lib.hid G
                clear G hS2 r9' r10 l9' l10'
                go_wp2_with fail
                go_meet
                exact ⟨b9, b10, rfl, rfl, G'.out⟩
            · intro K8 hK8
              rw [if_pos (by rfl)]
              try simp only [Act.put, List.setIfInBounds_toArray, List.set_cons_zero, List.set_cons_succ, List.getElem_toArray, List.getElem_cons_succ, List.getElem_cons_zero, Array.toArray_toList]
              refine wp_alloc_row _ rfl Y hY.out ?_
              try simp only [Act.put, List.setIfInBounds_toArray, List.set_cons_zero, List.set_cons_succ, List.getElem_toArray, List.getElem_cons_succ, List.getElem_cons_zero, Array.toArray_toList]
              have th10 := Lib.hid (there_newA VV1 Y 58 4 (by omega))
              have ge10 : B + 2 ≤ VV1.heap.size := hS.size
              have lt10 : VV1.heap.size < (VV1.alloc (.cells Y 58)).heap.size := by simp
              have ne910 : b9 < VV1.heap.size := lt9
              have th9' := Lib.hid (there_allocA th9.out (.cells Y 58))
              have lt9' : b9 < (VV1.alloc (.cells Y 58)).heap.size := by simp; omega
              clear th9 lt9
              have th9 := th9'
              have lt9 := lt9'
              clear th9' lt9'
              refine hK8.out _ _ (hS.alloc _) (fun hS2 => ?_)
              clear hK8 hS
              have hS := hS2
              clear hS2
              generalize VV1.alloc (.cells Y 58) = VV2 at *
              generalize VV1.heap.size = b10 at *
              refine wpAnyH_ready (rs := [3]) (by kernel_rfl) (by simp) (AllReadyH.cons rfl ?_ AllReadyH.nil)
              · intro K3 hK3
                rw [if_pos (by rfl)]
                try simp only [Act.put, List.setIfInBounds_toArray, List.set_cons_zero, List.set_cons_succ, List.getElem_toArray, List.getElem_cons_succ, List.getElem_cons_zero, Array.toArray_toList]
                go_simp
                refine (HR.out _).mono ?_
                rintro e1 v3 ⟨rfl, hb⟩
                refine hK3.out _ _ (hS.belowX hb) (fun hS2 => ?_)
                have th9' := Lib.hid (there_belowA th9.out hb lt9)
                have lt9' := Nat.lt_of_lt_of_le lt9 hb.size
                clear th9 lt9
                have th9 := th9'
                have lt9 := lt9'
                clear th9' lt9'
                have th10' := Lib.hid (there_belowA th10.out hb lt10)
                have lt10' := Nat.lt_of_lt_of_le lt10 hb.size
                clear th10 lt10
                have th10 := th10'
                have lt10 := lt10'
                clear th10' lt10'
                clear hK3 hS hb
                have hS := hS2
                clear hS2
                try simp only [Act.put, List.setIfInBounds_toArray, List.set_cons_zero, List.set_cons_succ, List.getElem_toArray, List.getElem_cons_succ, List.getElem_cons_zero, Array.toArray_toList]
                refine wpAnyH_take (i := 4) (v := ?_) rfl (by kernel_rfl) (by kernel_rfl) (by kernel_rfl) (fun _ _ _ h => h) (Or.inl ⟨by rfl, ?_⟩) hS ?_
                rotate_left 1
                · intro W hW
                  clear hW
                  go_simp
                  all_goals with_reducible rfl
                try simp only [Act.put, List.setIfInBounds_toArray, List.set_cons_zero, List.set_cons_succ, List.getElem_toArray, List.getElem_cons_succ, List.getElem_cons_zero, Array.toArray_toList]
                refine wpAnyH_take (i := 5) (v := ?_) rfl (by kernel_rfl) (by kernel_rfl) (by kernel_rfl) (fun _ _ _ h => h) (Or.inl ⟨by rfl, ?_⟩) hS ?_
                rotate_left 1
                · intro W hW
                  clear hW
                  go_simp
                  all_goals with_reducible rfl
                try simp only [Act.put, List.setIfInBounds_toArray, List.set_cons_zero, List.set_cons_succ, List.getElem_toArray, List.getElem_cons_succ, List.getElem_cons_zero, Array.toArray_toList]
                refine wpAnyH_take (i := 6) (v := ?_) rfl (by kernel_rfl) (by kernel_rfl) (by kernel_rfl) (fun _ _ _ h => h) (Or.inl ⟨by rfl, ?_⟩) hS ?_
                rotate_left 1
                · intro W hW
                  clear hW
                  go_simp
                  all_goals with_reducible rfl
                try simp only [Act.put, List.setIfInBounds_toArray, List.set_cons_zero, List.set_cons_succ, List.getElem_toArray, List.getElem_cons_succ, List.getElem_cons_zero, Array.toArray_toList]
                refine wpAnyH_ready (rs := [9]) (by kernel_rfl) (by simp) (AllReadyH.cons rfl ?_ AllReadyH.nil)
                intro K9 hK9
                rw [if_pos (by rfl)]
                try simp only [Act.put, List.setIfInBounds_toArray, List.set_cons_zero, List.set_cons_succ, List.getElem_toArray, List.getElem_cons_succ, List.getElem_cons_zero, Array.toArray_toList]
                have r9 := World.rangeAt_setCells_same v3 b9 0 D.a.toList (by rw [Array.length_toList, ct_size]; exact th9.out)
                have s9 := hS.store ge9 D.a.toList
                have t10 := World.there_setCells th10.out b9 0 D.a.toList
                have l9 := Nat.lt_of_lt_of_le lt9 (touch_setCells v3 b9 0 D.a.toList).size
                have l10 := Nat.lt_of_lt_of_le lt10 (touch_setCells v3 b9 0 D.a.toList).size
                refine wp_store_mid _ _ _ rfl _ _ D.a rfl rfl (by rw [ct_size]; exact th9.out) (info51c _) (ct_one _) ?_
                try simp only [Act.put, List.setIfInBounds_toArray, List.set_cons_zero, List.set_cons_succ, List.getElem_toArray, List.getElem_cons_succ, List.getElem_cons_zero, Array.toArray_toList]
                refine hK9.out _ _ s9 (fun hS2 => ?_)
                clear hK9 hS s9 th9 th10 lt9 lt10
                have hS := hS2
                clear hS2
                generalize (v3).setCells b9 0 D.a.toList = W9 at *
                refine wpAnyH_ready (rs := [10]) (by kernel_rfl) (by simp) (AllReadyH.cons rfl ?_ AllReadyH.nil)
                intro K10 hK10
                rw [if_pos (by rfl)]
                try simp only [Act.put, List.setIfInBounds_toArray, List.set_cons_zero, List.set_cons_succ, List.getElem_toArray, List.getElem_cons_succ, List.getElem_cons_zero, Array.toArray_toList]
                have r10 := World.rangeAt_setCells_same W9 b10 0 E.a.toList (by rw [Array.length_toList, e4_size]; exact t10)
                have r9' := World.rangeAt_setCells_apart r9 b10 0 E.a.toList (.inl (by omega))
                have s10 := hS.store ge10 E.a.toList
                have l9' := Nat.lt_of_lt_of_le l9 (touch_setCells W9 b10 0 E.a.toList).size
                have l10' := Nat.lt_of_lt_of_le l10 (touch_setCells W9 b10 0 E.a.toList).size
                refine wp_store_mid _ _ _ rfl _ _ E.a rfl rfl (by rw [e4_size]; exact t10) (info58c _) (e4_one _) ?_
                try simp only [Act.put, List.setIfInBounds_toArray, List.set_cons_zero, List.set_cons_succ, List.getElem_toArray, List.getElem_cons_succ, List.getElem_cons_zero, Array.toArray_toList]
                refine hK10.out _ _ s10 (fun hS2 => ?_)
                clear hK10 hS s10 t10 r9 l9 l10
                generalize W9.setCells b10 0 E.a.toList = W10 at *
                refine wpAnyH_done (by kernel_rfl) ?_ _
                have G : TS w W10 w.heap.size c e B D E ∧ W10.rangeAt b9 0 D.a.toList ∧ W10.rangeAt b10 0 E.a.toList ∧ b9 < W10.heap.size ∧ b10 < W10.heap.size := ⟨hS2, r9', r10, l9', l10'⟩
                have G' := Lib.hid G
                clear G hS2 r9' r10 l9' l10'
                go_wp2_with fail
                go_meet
                exact ⟨b9, b10, rfl, rfl, G'.out⟩
          · intro K8 hK8
            rw [if_pos (by rfl)]
            try simp only [Act.put, List.setIfInBounds_toArray, List.set_cons_zero, List.set_cons_succ, List.getElem_toArray, List.getElem_cons_succ, List.getElem_cons_zero, Array.toArray_toList]
            refine wp_alloc_row _ rfl Y hY.out ?_
            try simp only [Act.put, List.setIfInBounds_toArray, List.set_cons_zero, List.set_cons_succ, List.getElem_toArray, List.getElem_cons_succ, List.getElem_cons_zero, Array.toArray_toList]
            have th10 := Lib.hid (there_newA v1 Y 58 4 (by omega))
            have ge10 : B + 2 ≤ v1.heap.size := hS.size
            have lt10 : v1.heap.size < (v1.alloc (.cells Y 58)).heap.size := by simp
            refine hK8.out _ _ (hS.alloc _) (fun hS2 => ?_)
            clear hK8 hS
            have hS := hS2
            clear hS2
            generalize v1.alloc (.cells Y 58) = VV1 at *
            generalize v1.heap.size = b10 at *
            refine wpAnyH_ready (rs := [3, 7]) (by kernel_rfl) (by simp) (AllReadyH.cons rfl ?_ (AllReadyH.cons rfl ?_ AllReadyH.nil))
            · intro K3 hK3
              rw [if_pos (by rfl)]
              try simp only [Act.put, List.setIfInBounds_toArray, List.set_cons_zero, List.set_cons_succ, List.getElem_toArray, List.getElem_cons_succ, List.getElem_cons_zero, Array.toArray_toList]
              go_simp
              refine (HR.out _).mono ?_
              rintro e1 v3 ⟨rfl, hb⟩
              refine hK3.out _ _ (hS.belowX hb) (fun hS2 => ?_)
              have th10' := Lib.hid (there_belowA th10.out hb lt10)
              have lt10' := Nat.lt_of_lt_of_le lt10 hb.size
              clear th10 lt10
              have th10 := th10'
              have lt10 := lt10'
              clear th10' lt10'
              clear hK3 hS hb
              have hS := hS2
              clear hS2
              try simp only [Act.put, List.setIfInBounds_toArray, List.set_cons_zero, List.set_cons_succ, List.getElem_toArray, List.getElem_cons_succ, List.getElem_cons_zero, Array.toArray_toList]
              refine wpAnyH_take (i := 4) (v := ?_) rfl (by kernel_rfl) (by kernel_rfl) (by kernel_rfl) (fun _ _ _ h => h) (Or.inl ⟨by rfl, ?_⟩) hS ?_
              rotate_left 1
              · intro W hW
                clear hW
                go_simp
                all_goals with_reducible rfl
              try simp only [Act.put, List.setIfInBounds_toArray, List.set_cons_zero, List.set_cons_succ, List.getElem_toArray, List.getElem_cons_succ, List.getElem_cons_zero, Array.toArray_toList]
              refine wpAnyH_take (i := 5) (v := ?_) rfl (by kernel_rfl) (by kernel_rfl) (by kernel_rfl) (fun _ _ _ h => h) (Or.inl ⟨by rfl, ?_⟩) hS ?_
              rotate_left 1
              · intro W hW
                clear hW
                go_simp
                all_goals with_reducible rfl
              try simp only [Act.put, List.setIfInBounds_toArray, List.set_cons_zero, List.set_cons_succ, List.getElem_toArray, List.getElem_cons_succ, List.getElem_cons_zero, Array.toArray_toList]
              refine wpAnyH_take (i := 6) (v := ?_) rfl (by kernel_rfl) (by kernel_rfl) (by kernel_rfl) (fun _ _ _ h => h) (Or.inl ⟨by rfl, ?_⟩) hS ?_
              rotate_left 1
              · intro W hW
                clear hW
                go_simp
                all_goals with_reducible rfl
              try simp only [Act.put, List.setIfInBounds_toArray, List.set_cons_zero, List.set_cons_succ, List.getElem_toArray, List.getElem_cons_succ, List.getElem_cons_zero, Array.toArray_toList]
              refine wpAnyH_ready (rs := [7]) (by kernel_rfl) (by simp) (AllReadyH.cons rfl ?_ AllReadyH.nil)
              · intro K7 hK7
                rw [if_pos (by rfl)]
                try simp only [Act.put, List.setIfInBounds_toArray, List.set_cons_zero, List.set_cons_succ, List.getElem_toArray, List.getElem_cons_succ, List.getElem_cons_zero, Array.toArray_toList]
                refine wp_alloc_row _ rfl Z51 hZ51.out ?_
                try simp only [Act.put, List.setIfInBounds_toArray, List.set_cons_zero, List.set_cons_succ, List.getElem_toArray, List.getElem_cons_succ, List.getElem_cons_zero, Array.toArray_toList]
                have th9 := Lib.hid (there_newA v3 Z51 51 33 (by omega))
                have ge9 : B + 2 ≤ v3.heap.size := hS.size
                have lt9 : v3.heap.size < (v3.alloc (.cells Z51 51)).heap.size := by simp
                have ne910 : b10 < v3.heap.size := lt10
                have th10' := Lib.hid (there_allocA th10.out (.cells Z51 51))
                have lt10' : b10 < (v3.alloc (.cells Z51 51)).heap.size := by simp; omega
                clear th10 lt10
                have th10 := th10'
                have lt10 := lt10'
                clear th10' lt10'
                refine hK7.out _ _ (hS.alloc _) (fun hS2 => ?_)
                clear hK7 hS
                have hS := hS2
                clear hS2
                generalize v3.alloc (.cells Z51 51) = VV3 at *
                generalize v3.heap.size = b9 at *
                refine wpAnyH_ready (rs := [9]) (by kernel_rfl) (by simp) (AllReadyH.cons rfl ?_ AllReadyH.nil)
                intro K9 hK9
                rw [if_pos (by rfl)]
                try simp only [Act.put, List.setIfInBounds_toArray, List.set_cons_zero, List.set_cons_succ, List.getElem_toArray, List.getElem_cons_succ, List.getElem_cons_zero, Array.toArray_toList]
                have r9 := World.rangeAt_setCells_same VV3 b9 0 D.a.toList (by rw [Array.length_toList, ct_size]; exact th9.out)
                have s9 := hS.store ge9 D.a.toList
                have t10 := World.there_setCells th10.out b9 0 D.a.toList
                have l9 := Nat.lt_of_lt_of_le lt9 (touch_setCells VV3 b9 0 D.a.toList).size
                have l10 := Nat.lt_of_lt_of_le lt10 (touch_setCells VV3 b9 0 D.a.toList).size
                refine wp_store_mid _ _ _ rfl _ _ D.a rfl rfl (by rw [ct_size]; exact th9.out) (info51c _) (ct_one _) ?_
                try simp only [Act.put, List.setIfInBounds_toArray, List.set_cons_zero, List.set_cons_succ, List.getElem_toArray, List.getElem_cons_succ, List.getElem_cons_zero, Array.toArray_toList]
                refine hK9.out _ _ s9 (fun hS2 => ?_)
                clear hK9 hS s9 th9 th10 lt9 lt10
                have hS := hS2
                clear hS2
                generalize (VV3).setCells b9 0 D.a.toList = W9 at *
                refine wpAnyH_ready (rs := [10]) (by kernel_rfl) (by simp) (AllReadyH.cons rfl ?_ AllReadyH.nil)
                intro K10 hK10
                rw [if_pos (by rfl)]
                try simp only [Act.put, List.setIfInBounds_toArray, List.set_cons_zero, List.set_cons_succ, List.getElem_toArray, List.getElem_cons_succ, List.getElem_cons_zero, Array.toArray_toList]
                have r10 := World.rangeAt_setCells_same W9 b10 0 E.a.toList (by rw [Array.length_toList, e4_size]; exact t10)
                have r9' := World.rangeAt_setCells_apart r9 b10 0 E.a.toList (.inl (by omega))
                have s10 := hS.store ge10 E.a.toList
                have l9' := Nat.lt_of_lt_of_le l9 (touch_setCells W9 b10 0 E.a.toList).size
                have l10' := Nat.lt_of_lt_of_le l10 (touch_setCells W9 b10 0 E.a.toList).size
                refine wp_store_mid _ _ _ rfl _ _ E.a rfl rfl (by rw [e4_size]; exact t10) (info58c _) (e4_one _) ?_
                try simp only [Act.put, List.setIfInBounds_toArray, List.set_cons_zero, List.set_cons_succ, List.getElem_toArray, List.getElem_cons_succ, List.getElem_cons_zero, Array.toArray_toList]
                refine hK10.out _ _ s10 (fun hS2 => ?_)
                clear hK10 hS s10 t10 r9 l9 l10
                generalize W9.setCells b10 0 E.a.toList = W10 at *
                refine wpAnyH_done (by kernel_rfl) ?_ _
                have G : TS w W10 w.heap.size c e B D E ∧ W10.rangeAt b9 0 D.a.toList ∧ W10.rangeAt b10 0 E.a.toList ∧ b9 < W10.heap.size ∧ b10 < W10.heap.size := ⟨hS2, r9', r10, l9', l10'⟩
                have G' := Lib.hid G
                clear G hS2 r9' r10 l9' l10'
                go_wp2_with fail
                go_meet
                exact ⟨b9, b10, rfl, rfl, G'.out⟩
            · intro K7 hK7
              rw [if_pos (by rfl)]
              try simp only [Act.put, List.setIfInBounds_toArray, List.set_cons_zero, List.set_cons_succ, List.getElem_toArray, List.getElem_cons_succ, List.getElem_cons_zero, Array.toArray_toList]
              refine wp_alloc_row _ rfl Z51 hZ51.out ?_
              try simp only [Act.put, List.setIfInBounds_toArray, List.set_cons_zero, List.set_cons_succ, List.getElem_toArray, List.getElem_cons_succ, List.getElem_cons_zero, Array.toArray_toList]
              have th9 := Lib.hid (there_newA VV1 Z51 51 33 (by omega))
              have ge9 : B + 2 ≤ VV1.heap.size := hS.size
              have lt9 : VV1.heap.size < (VV1.alloc (.cells Z51 51)).heap.size := by simp
              have ne910 : b10 < VV1.heap.size := lt10
              have th10' := Lib.hid (there_allocA th10.out (.cells Z51 51))
              have lt10' : b10 < (VV1.alloc (.cells Z51 51)).heap.size := by simp; omega
              clear th10 lt10
              have th10 := th10'
              have lt10 := lt10'
              clear th10' lt10'
              refine hK7.out _ _ (hS.alloc _) (fun hS2 => ?_)
              clear hK7 hS
              have hS := hS2
              clear hS2
              generalize VV1.alloc (.cells Z51 51) = VV2 at *
              generalize VV1.heap.size = b9 at *
              refine wpAnyH_ready (rs := [3]) (by kernel_rfl) (by simp) (AllReadyH.cons rfl ?_ AllReadyH.nil)
              · intro K3 hK3
                rw [if_pos (by rfl)]
                try simp only [Act.put, List.setIfInBounds_toArray, List.set_cons_zero, List.set_cons_succ, List.getElem_toArray, List.getElem_cons_succ, List.getElem_cons_zero, Array.toArray_toList]
                go_simp
                refine (HR.out _).mono ?_
                rintro e1 v3 ⟨rfl, hb⟩
                refine hK3.out _ _ (hS.belowX hb) (fun hS2 => ?_)
                have th9' := Lib.hid (there_belowA th9.out hb lt9)
                have lt9' := Nat.lt_of_lt_of_le lt9 hb.size
                clear th9 lt9
                have th9 := th9'
                have lt9 := lt9'
                clear th9' lt9'
                have th10' := Lib.hid (there_belowA th10.out hb lt10)
                have lt10' := Nat.lt_of_lt_of_le lt10 hb.size
                clear th10 lt10
                have th10 := th10'
                have lt10 := lt10'
                clear th10' lt10'
                clear hK3 hS hb
                have hS := hS2
                clear hS2
                try simp only [Act.put, List.setIfInBounds_toArray, List.set_cons_zero, List.set_cons_succ, List.getElem_toArray, List.getElem_cons_succ, List.getElem_cons_zero, Array.toArray_toList]
                refine wpAnyH_take (i := 4) (v := ?_) rfl (by kernel_rfl) (by kernel_rfl) (by kernel_rfl) (fun _ _ _ h => h) (Or.inl ⟨by rfl, ?_⟩) hS ?_
                rotate_left 1
                · intro W hW
                  clear hW
                  go_simp
                  all_goals with_reducible rfl
                try simp only [Act.put, List.setIfInBounds_toArray, List.set_cons_zero, List.set_cons_succ, List.getElem_toArray, List.getElem_cons_succ, List.getElem_cons_zero, Array.toArray_toList]
                refine wpAnyH_take (i := 5) (v := ?_) rfl (by kernel_rfl) (by kernel_rfl) (by kernel_rfl) (fun _ _ _ h => h) (Or.inl ⟨by rfl, ?_⟩) hS ?_
                rotate_left 1
                · intro W hW
                  clear hW
                  go_simp
                  all_goals with_reducible rfl
                try simp only [Act.put, List.setIfInBounds_toArray, List.set_cons_zero, List.set_cons_succ, List.getElem_toArray, List.getElem_cons_succ, List.getElem_cons_zero, Array.toArray_toList]
                refine wpAnyH_take (i := 6) (v := ?_) rfl (by kernel_rfl) (by kernel_rfl) (by kernel_rfl) (fun _ _ _ h => h) (Or.inl ⟨by rfl, ?_⟩) hS ?_
                rotate_left 1
                · intro W hW
                  clear hW
                  go_simp
                  all_goals with_reducible rfl
                try simp only [Act.put, List.setIfInBounds_toArray, List.set_cons_zero, List.set_cons_succ, List.getElem_toArray, List.getElem_cons_succ, List.getElem_cons_zero, Array.toArray_toList]
                refine wpAnyH_ready (rs := [9]) (by kernel_rfl) (by simp) (AllReadyH.cons rfl ?_ AllReadyH.nil)
                intro K9 hK9
                rw [if_pos (by rfl)]
                try simp only [Act.put, List.setIfInBounds_toArray, List.set_cons_zero, List.set_cons_succ, List.getElem_toArray, List.getElem_cons_succ, List.getElem_cons_zero, Array.toArray_toList]
                have r9 := World.rangeAt_setCells_same v3 b9 0 D.a.toList (by rw [Array.length_toList, ct_size]; exact th9.out)
                have s9 := hS.store ge9 D.a.toList
                have t10 := World.there_setCells th10.out b9 0 D.a.toList
                have l9 := Nat.lt_of_lt_of_le lt9 (touch_setCells v3 b9 0 D.a.toList).size
                have l10 := Nat.lt_of_lt_of_le lt10 (touch_setCells v3 b9 0 D.a.toList).size
                refine wp_store_mid _ _ _ rfl _ _ D.a rfl rfl (by rw [ct_size]; exact th9.out) (info51c _) (ct_one _) ?_
                try simp only [Act.put, List.setIfInBounds_toArray, List.set_cons_zero, List.set_cons_succ, List.getElem_toArray, List.getElem_cons_succ, List.getElem_cons_zero, Array.toArray_toList]
                refine hK9.out _ _ s9 (fun hS2 => ?_)
                clear hK9 hS s9 th9 th10 lt9 lt10
                have hS := hS2
                clear hS2
                generalize (v3).setCells b9 0 D.a.toList = W9 at *
                refine wpAnyH_ready (rs := [10]) (by kernel_rfl) (by simp) (AllReadyH.cons rfl ?_ AllReadyH.nil)
                intro K10 hK10
                rw [if_pos (by rfl)]
                try simp only [Act.put, List.setIfInBounds_toArray, List.set_cons_zero, List.set_cons_succ, List.getElem_toArray, List.getElem_cons_succ, List.getElem_cons_zero, Array.toArray_toList]
                have r10 := World.rangeAt_setCells_same W9 b10 0 E.a.toList (by rw [Array.length_toList, e4_size]; exact t10)
                have r9' := World.rangeAt_setCells_apart r9 b10 0 E.a.toList (.inl (by omega))
                have s10 := hS.store ge10 E.a.toList
                have l9' := Nat.lt_of_lt_of_le l9 (touch_setCells W9 b10 0 E.a.toList).size
                have l10' := Nat.lt_of_lt_of_le l10 (touch_setCells W9 b10 0 E.a.toList).size
                refine wp_store_mid _ _ _ rfl _ _ E.a rfl rfl (by rw [e4_size]; exact t10) (info58c _) (e4_one _) ?_
                try simp only [Act.put, List.setIfInBounds_toArray, List.set_cons_zero, List.set_cons_succ, List.getElem_toArray, List.getElem_cons_succ, List.getElem_cons_zero, Array.toArray_toList]
                refine hK10.out _ _ s10 (fun hS2 => ?_)
                clear hK10 hS s10 t10 r9 l9 l10
                generalize W9.setCells b10 0 E.a.toList = W10 at *
                refine wpAnyH_done (by kernel_rfl) ?_ _
                have G : TS w W10 w.heap.size c e B D E ∧ W10.rangeAt b9 0 D.a.toList ∧ W10.rangeAt b10 0 E.a.toList ∧ b9 < W10.heap.size ∧ b10 < W10.heap.size := ⟨hS2, r9', r10, l9', l10'⟩
                have G' := Lib.hid G
                clear G hS2 r9' r10 l9' l10'
                go_wp2_with fail
                go_meet
                exact ⟨b9, b10, rfl, rfl, G'.out⟩
        · intro K7 hK7
          rw [if_pos (by rfl)]
          try simp only [Act.put, List.setIfInBounds_toArray, List.set_cons_zero, List.set_cons_succ, List.getElem_toArray, List.getElem_cons_succ, List.getElem_cons_zero, Array.toArray_toList]
          refine wp_alloc_row _ rfl Z51 hZ51.out ?_
          try simp only [Act.put, List.setIfInBounds_toArray, List.set_cons_zero, List.set_cons_succ, List.getElem_toArray, List.getElem_cons_succ, List.getElem_cons_zero, Array.toArray_toList]
          have th9 := Lib.hid (there_newA X0 Z51 51 33 (by omega))
          have ge9 : B + 2 ≤ X0.heap.size := hS.size
          have lt9 : X0.heap.size < (X0.alloc (.cells Z51 51)).heap.size := by simp
          refine hK7.out _ _ (hS.alloc _) (fun hS2 => ?_)
          clear hK7 hS
          have hS := hS2
          clear hS2
          generalize X0.alloc (.cells Z51 51) = VV0 at *
          generalize X0.heap.size = b9 at *
          refine wpAnyH_ready (rs := [1, 8]) (by kernel_rfl) (by simp) (AllReadyH.cons rfl ?_ (AllReadyH.cons rfl ?_ AllReadyH.nil))
          · intro K1 hK1
            rw [if_pos (by rfl)]
            try simp only [Act.put, List.setIfInBounds_toArray, List.set_cons_zero, List.set_cons_succ, List.getElem_toArray, List.getElem_cons_succ, List.getElem_cons_zero, Array.toArray_toList]
            go_simp
            refine (HP.out _).mono ?_
            rintro e1 v1 ⟨rfl, hb⟩
            refine hK1.out _ _ (hS.belowX hb) (fun hS2 => ?_)
            have th9' := Lib.hid (there_belowA th9.out hb lt9)
            have lt9' := Nat.lt_of_lt_of_le lt9 hb.size
            clear th9 lt9
            have th9 := th9'
            have lt9 := lt9'
            clear th9' lt9'
            clear hK1 hS hb
            have hS := hS2
            clear hS2
            try simp only [Act.put, List.setIfInBounds_toArray, List.set_cons_zero, List.set_cons_succ, List.getElem_toArray, List.getElem_cons_succ, List.getElem_cons_zero, Array.toArray_toList]
            refine wpAnyH_ready (rs := [3, 8]) (by kernel_rfl) (by simp) (AllReadyH.cons rfl ?_ (AllReadyH.cons rfl ?_ AllReadyH.nil))
            · intro K3 hK3
              rw [if_pos (by rfl)]
              try simp only [Act.put, List.setIfInBounds_toArray, List.set_cons_zero, List.set_cons_succ, List.getElem_toArray, List.getElem_cons_succ, List.getElem_cons_zero, Array.toArray_toList]
              go_simp
              refine (HR.out _).mono ?_
              rintro e1 v3 ⟨rfl, hb⟩
              refine hK3.out _ _ (hS.belowX hb) (fun hS2 => ?_)
              have th9' := Lib.hid (there_belowA th9.out hb lt9)
              have lt9' := Nat.lt_of_lt_of_le lt9 hb.size
              clear th9 lt9
              have th9 := th9'
              have lt9 := lt9'
              clear th9' lt9'
              clear hK3 hS hb
              have hS := hS2
              clear hS2
              try simp only [Act.put, List.setIfInBounds_toArray, List.set_cons_zero, List.set_cons_succ, List.getElem_toArray, List.getElem_cons_succ, List.getElem_cons_zero, Array.toArray_toList]
              refine wpAnyH_take (i := 4) (v := ?_) rfl (by kernel_rfl) (by kernel_rfl) (by kernel_rfl) (fun _ _ _ h => h) (Or.inl ⟨by rfl, ?_⟩) hS ?_
              rotate_left 1
              · intro W hW
                clear hW
                go_simp
                all_goals with_reducible rfl
              try simp only [Act.put, List.setIfInBounds_toArray, List.set_cons_zero, List.set_cons_succ, List.getElem_toArray, List.getElem_cons_succ, List.getElem_cons_zero, Array.toArray_toList]
              refine wpAnyH_take (i := 5) (v := ?_) rfl (by kernel_rfl) (by kernel_rfl) (by kernel_rfl) (fun _ _ _ h => h) (Or.inl ⟨by rfl, ?_⟩) hS ?_
              rotate_left 1
              · intro W hW
                clear hW
                go_simp
                all_goals with_reducible rfl
              try simp only [Act.put, List.setIfInBounds_toArray, List.set_cons_zero, List.set_cons_succ, List.getElem_toArray, List.getElem_cons_succ, List.getElem_cons_zero, Array.toArray_toList]
              refine wpAnyH_take (i := 6) (v := ?_) rfl (by kernel_rfl) (by kernel_rfl) (by kernel_rfl) (fun _ _ _ h => h) (Or.inl ⟨by rfl, ?_⟩) hS ?_
              rotate_left 1
              · intro W hW
                clear hW
                go_simp
                all_goals with_reducible rfl
              try simp only [Act.put, List.setIfInBounds_toArray, List.set_cons_zero, List.set_cons_succ, List.getElem_toArray, List.getElem_cons_succ, List.getElem_cons_zero, Array.toArray_toList]
              refine wpAnyH_ready (rs := [8]) (by kernel_rfl) (by simp) (AllReadyH.cons rfl ?_ AllReadyH.nil)
              · intro K8 hK8
                rw [if_pos (by rfl)]
                try simp only [Act.put, List.setIfInBounds_toArray, List.set_cons_zero, List.set_cons_succ, List.getElem_toArray, List.getElem_cons_succ, List.getElem_cons_zero, Array.toArray_toList]
                refine wp_alloc_row _ rfl Y hY.out ?_
                try simp only [Act.put, List.setIfInBounds_toArray, List.set_cons_zero, List.set_cons_succ, List.getElem_toArray, List.getElem_cons_succ, List.getElem_cons_zero, Array.toArray_toList]
                have th10 := Lib.hid (there_newA v3 Y 58 4 (by omega))
                have ge10 : B + 2 ≤ v3.heap.size := hS.size
                have lt10 : v3.heap.size < (v3.alloc (.cells Y 58)).heap.size := by simp
                have ne910 : b9 < v3.heap.size := lt9
                have th9' := Lib.hid (there_allocA th9.out (.cells Y 58))
                have lt9' : b9 < (v3.alloc (.cells Y 58)).heap.size := by simp; omega
                clear th9 lt9
                have th9 := th9'
                have lt9 := lt9'
                clear th9' lt9'
                refine hK8.out _ _ (hS.alloc _) (fun hS2 => ?_)
                clear hK8 hS
                have hS := hS2
                clear hS2
                generalize v3.alloc (.cells Y 58) = VV3 at *
                generalize v3.heap.size = b10 at *
                refine wpAnyH_ready (rs := [9]) (by kernel_rfl) (by simp) (AllReadyH.cons rfl ?_ AllReadyH.nil)
                intro K9 hK9
                rw [if_pos (by rfl)]
                try simp only [Act.put, List.setIfInBounds_toArray, List.set_cons_zero, List.set_cons_succ, List.getElem_toArray, List.getElem_cons_succ, List.getElem_cons_zero, Array.toArray_toList]
                have r9 := World.rangeAt_setCells_same VV3 b9 0 D.a.toList (by rw [Array.length_toList, ct_size]; exact th9.out)
                have s9 := hS.store ge9 D.a.toList
                have t10 := World.there_setCells th10.out b9 0 D.a.toList
                have l9 := Nat.lt_of_lt_of_le lt9 (touch_setCells VV3 b9 0 D.a.toList).size
                have l10 := Nat.lt_of_lt_of_le lt10 (touch_setCells VV3 b9 0 D.a.toList).size
                refine wp_store_mid _ _ _ rfl _ _ D.a rfl rfl (by rw [ct_size]; exact th9.out) (info51c _) (ct_one _) ?_
                try simp only [Act.put, List.setIfInBounds_toArray, List.set_cons_zero, List.set_cons_succ, List.getElem_toArray, List.getElem_cons_succ, List.getElem_cons_zero, Array.toArray_toList]
                refine hK9.out _ _ s9 (fun hS2 => ?_)
                clear hK9 hS s9 th9 th10 lt9 lt10
                have hS := hS2
                clear hS2
                generalize (VV3).setCells b9 0 D.a.toList = W9 at *
                refine wpAnyH_ready (rs := [10]) (by kernel_rfl) (by simp) (AllReadyH.cons rfl ?_ AllReadyH.nil)
                intro K10 hK10
                rw [if_pos (by rfl)]
                try simp only [Act.put, List.setIfInBounds_toArray, List.set_cons_zero, List.set_cons_succ, List.getElem_toArray, List.getElem_cons_succ, List.getElem_cons_zero, Array.toArray_toList]
                have r10 := World.rangeAt_setCells_same W9 b10 0 E.a.toList (by rw [Array.length_toList, e4_size]; exact t10)
                have r9' := World.rangeAt_setCells_apart r9 b10 0 E.a.toList (.inl (by omega))
                have s10 := hS.store ge10 E.a.toList
                have l9' := Nat.lt_of_lt_of_le l9 (touch_setCells W9 b10 0 E.a.toList).size
                have l10' := Nat.lt_of_lt_of_le l10 (touch_setCells W9 b10 0 E.a.toList).size
                refine wp_store_mid _ _ _ rfl _ _ E.a rfl rfl (by rw [e4_size]; exact t10) (info58c _) (e4_one _) ?_
                try simp only [Act.put, List.setIfInBounds_toArray, List.set_cons_zero, List.set_cons_succ, List.getElem_toArray, List.getElem_cons_succ, List.getElem_cons_zero, Array.toArray_toList]
                refine hK10.out _ _ s10 (fun hS2 => ?_)
                clear hK10 hS s10 t10 r9 l9 l10
                generalize W9.setCells b10 0 E.a.toList = W10 at *
                refine wpAnyH_done (by kernel_rfl) ?_ _
                have G : TS w W10 w.heap.size c e B D E ∧ W10.rangeAt b9 0 D.a.toList ∧ W10.rangeAt b10 0 E.a.toList ∧ b9 < W10.heap.size ∧ b10 < W10.heap.size := ⟨hS2, r9', r10, l9', l10'⟩
                have G' := Lib.hid G
                clear G hS2 r9' r10 l9' l10'
                go_wp2_with fail
                go_meet
                exact ⟨b9, b10, rfl, rfl, G'.out⟩
            · intro K8 hK8
              rw [if_pos (by rfl)]
              try simp only [Act.put, List.setIfInBounds_toArray, List.set_cons_zero, List.set_cons_succ, List.getElem_toArray, List.getElem_cons_succ, List.getElem_cons_zero, Array.toArray_toList]
              refine wp_alloc_row _ rfl Y hY.out ?_
              try simp only [Act.put, List.setIfInBounds_toArray, List.set_cons_zero, List.set_cons_succ, List.getElem_toArray, List.getElem_cons_succ, List.getElem_cons_zero, Array.toArray_toList]
              have th10 := Lib.hid (there_newA v1 Y 58 4 (by omega))
              have ge10 : B + 2 ≤ v1.heap.size := hS.size
              have lt10 : v1.heap.size < (v1.alloc (.cells Y 58)).heap.size := by simp
              have ne910 : b9 < v1.heap.size := lt9
              have th9' := Lib.hid (there_allocA th9.out (.cells Y 58))
              have lt9' : b9 < (v1.alloc (.cells Y 58)).heap.size := by simp; omega
              clear th9 lt9
              have th9 := th9'
              have lt9 := lt9'
              clear th9' lt9'
              refine hK8.out _ _ (hS.alloc _) (fun hS2 => ?_)
              clear hK8 hS
              have hS := hS2
              clear hS2
              generalize v1.alloc (.cells Y 58) = VV2 at *
              generalize v1.heap.size = b10 at *
              refine wpAnyH_ready (rs := [3]) (by kernel_rfl) (by simp) (AllReadyH.cons rfl ?_ AllReadyH.nil)
              · intro K3 hK3
                rw [if_pos (by rfl)]
                try simp only [Act.put, List.setIfInBounds_toArray, List.set_cons_zero, List.set_cons_succ, List.getElem_toArray, List.getElem_cons_succ, List.getElem_cons_zero, Array.toArray_toList]
                go_simp
                refine (HR.out _).mono ?_
                rintro e1 v3 ⟨rfl, hb⟩
                refine hK3.out _ _ (hS.belowX hb) (fun hS2 => ?_)
                have th9' := Lib.hid (there_belowA th9.out hb lt9)
                have lt9' := Nat.lt_of_lt_of_le lt9 hb.size
                clear th9 lt9
                have th9 := th9'
                have lt9 := lt9'
                clear th9' lt9'
                have th10' := Lib.hid (there_belowA th10.out hb lt10)
                have lt10' := Nat.lt_of_lt_of_le lt10 hb.size
                clear th10 lt10
                have th10 := th10'
                have lt10 := lt10'
                clear th10' lt10'
                clear hK3 hS hb
                have hS := hS2
                clear hS2
                try simp only [Act.put, List.setIfInBounds_toArray, List.set_cons_zero, List.set_cons_succ, List.getElem_toArray, List.getElem_cons_succ, List.getElem_cons_zero, Array.toArray_toList]
                refine wpAnyH_take (i := 4) (v := ?_) rfl (by kernel_rfl) (by kernel_rfl) (by kernel_rfl) (fun _ _ _ h => h) (Or.inl ⟨by rfl, ?_⟩) hS ?_
                rotate_left 1
                · intro W hW
                  clear hW
                  go_simp
                  all_goals with_reducible rfl
                try simp only [Act.put, List.setIfInBounds_toArray, List.set_cons_zero, List.set_cons_succ, List.getElem_toArray, List.getElem_cons_succ, List.getElem_cons_zero, Array.toArray_toList]
                refine wpAnyH_take (i := 5) (v := ?_) rfl (by kernel_rfl) (by kernel_rfl) (by kernel_rfl) (fun _ _ _ h => h) (Or.inl ⟨by rfl, ?_⟩) hS ?_
                rotate_left 1
                · intro W hW
                  clear hW
                  go_simp
                  all_goals with_reducible rfl
                try simp only [Act.put, List.setIfInBounds_toArray, List.set_cons_zero, List.set_cons_succ, List.getElem_toArray, List.getElem_cons_succ, List.getElem_cons_zero, Array.toArray_toList]
                refine wpAnyH_take (i := 6) (v := ?_) rfl (by kernel_rfl) (by kernel_rfl) (by kernel_rfl) (fun _ _ _ h => h) (Or.inl ⟨by rfl, ?_⟩) hS ?_
                rotate_left 1
                · intro W hW
                  clear hW
                  go_simp
                  all_goals with_reducible rfl
                try simp only [Act.put, List.setIfInBounds_toArray, List.set_cons_zero, List.set_cons_succ, List.getElem_toArray, List.getElem_cons_succ, List.getElem_cons_zero, Array.toArray_toList]
                refine wpAnyH_ready (rs := [9]) (by kernel_rfl) (by simp) (AllReadyH.cons rfl ?_ AllReadyH.nil)
                intro K9 hK9
                rw [if_pos (by rfl)]
                try simp only [Act.put, List.setIfInBounds_toArray, List.set_cons_zero, List.set_cons_succ, List.getElem_toArray, List.getElem_cons_succ, List.getElem_cons_zero, Array.toArray_toList]
                have r9 := World.rangeAt_setCells_same v3 b9 0 D.a.toList (by rw [Array.length_toList, ct_size]; exact th9.out)
                have s9 := hS.store ge9 D.a.toList
                have t10 := World.there_setCells th10.out b9 0 D.a.toList
                have l9 := Nat.lt_of_lt_of_le lt9 (touch_setCells v3 b9 0 D.a.toList).size
                have l10 := Nat.lt_of_lt_of_le lt10 (touch_setCells v3 b9 0 D.a.toList).size
                refine wp_store_mid _ _ _ rfl _ _ D.a rfl rfl (by rw [ct_size]; exact th9.out) (info51c _) (ct_one _) ?_
                try simp only [Act.put, List.setIfInBounds_toArray, List.set_cons_zero, List.set_cons_succ, List.getElem_toArray, List.getElem_cons_succ, List.getElem_cons_zero, Array.toArray_toList]
                refine hK9.out _ _ s9 (fun hS2 => ?_)
                clear hK9 hS s9 th9 th10 lt9 lt10
                have hS := hS2
                clear hS2
                generalize (v3).setCells b9 0 D.a.toList = W9 at *
                refine wpAnyH_ready (rs := [10]) (by kernel_rfl) (by simp) (AllReadyH.cons rfl ?_ AllReadyH.nil)
                intro K10 hK10
                rw [if_pos (by rfl)]
                try simp only [Act.put, List.setIfInBounds_toArray, List.set_cons_zero, List.set_cons_succ, List.getElem_toArray, List.getElem_cons_succ, List.getElem_cons_zero, Array.toArray_toList]
                have r10 := World.rangeAt_setCells_same W9 b10 0 E.a.toList (by rw [Array.length_toList, e4_size]; exact t10)
                have r9' := World.rangeAt_setCells_apart r9 b10 0 E.a.toList (.inl (by omega))
                have s10 := hS.store ge10 E.a.toList
                have l9' := Nat.lt_of_lt_of_le l9 (touch_setCells W9 b10 0 E.a.toList).size
                have l10' := Nat.lt_of_lt_of_le l10 (touch_setCells W9 b10 0 E.a.toList).size
                refine wp_store_mid _ _ _ rfl _ _ E.a rfl rfl (by rw [e4_size]; exact t10) (info58c _) (e4_one _) ?_
                try simp only [Act.put, List.setIfInBounds_toArray, List.set_cons_zero, List.set_cons_succ, List.getElem_toArray, List.getElem_cons_succ, List.getElem_cons_zero, Array.toArray_toList]
                refine hK10.out _ _ s10 (fun hS2 => ?_)
                clear hK10 hS s10 t10 r9 l9 l10
                generalize W9.setCells b10 0 E.a.toList = W10 at *
                refine wpAnyH_done (by kernel_rfl) ?_ _
                have G : TS w W10 w.heap.size c e B D E ∧ W10.rangeAt b9 0 D.a.toList ∧ W10.rangeAt b10 0 E.a.toList ∧ b9 < W10.heap.size ∧ b10 < W10.heap.size := ⟨hS2, r9', r10, l9', l10'⟩
                have G' := Lib.hid G
                clear G hS2 r9' r10 l9' l10'
                go_wp2_with fail
                go_meet
                exact ⟨b9, b10, rfl, rfl, G'.out⟩
          · intro K8 hK8
            rw [if_pos (by rfl)]
            try simp only [Act.put, List.setIfInBounds_toArray, List.set_cons_zero, List.set_cons_succ, List.getElem_toArray, List.getElem_cons_succ, List.getElem_cons_zero, Array.toArray_toList]
            refine wp_alloc_row _ rfl Y hY.out ?_
            try simp only [Act.put, List.setIfInBounds_toArray, List.set_cons_zero, List.set_cons_succ, List.getElem_toArray, List.getElem_cons_succ, List.getElem_cons_zero, Array.toArray_toList]
            have th10 := Lib.hid (there_newA VV0 Y 58 4 (by omega))
            have ge10 : B + 2 ≤ VV0.heap.size := hS.size
            have lt10 : VV0.heap.size < (VV0.alloc (.cells Y 58)).heap.size := by simp
            have ne910 : b9 < VV0.heap.size := lt9
            have th9' := Lib.hid (there_allocA th9.out (.cells Y 58))
            have lt9' : b9 < (VV0.alloc (.cells Y 58)).heap.size := by simp; omega
            clear th9 lt9
            have th9 := th9'
            have lt9 := lt9'
            clear th9' lt9'
            refine hK8.out _ _ (hS.alloc _) (fun hS2 => ?_)
            clear hK8 hS
            have hS := hS2
            clear hS2
            generalize VV0.alloc (.cells Y 58) = VV1 at *
            generalize VV0.heap.size = b10 at *
            refine wpAnyH_ready (rs := [1]) (by kernel_rfl) (by simp) (AllReadyH.cons rfl ?_ AllReadyH.nil)
            · intro K1 hK1
              rw [if_pos (by rfl)]
              try simp only [Act.put, List.setIfInBounds_toArray, List.set_cons_zero, List.set_cons_succ, List.getElem_toArray, List.getElem_cons_succ, List.getElem_cons_zero, Array.toArray_toList]
              go_simp
              refine (HP.out _).mono ?_
              rintro e1 v1 ⟨rfl, hb⟩
              refine hK1.out _ _ (hS.belowX hb) (fun hS2 => ?_)
              have th9' := Lib.hid (there_belowA th9.out hb lt9)
              have lt9' := Nat.lt_of_lt_of_le lt9 hb.size
              clear th9 lt9
              have th9 := th9'
              have lt9 := lt9'
              clear th9' lt9'
              have th10' := Lib.hid (there_belowA th10.out hb lt10)
              have lt10' := Nat.lt_of_lt_of_le lt10 hb.size
              clear th10 lt10
              have th10 := th10'
              have lt10 := lt10'
              clear th10' lt10'
              clear hK1 hS hb
              have hS := hS2
              clear hS2
              try simp only [Act.put, List.setIfInBounds_toArray, List.set_cons_zero, List.set_cons_succ, List.getElem_toArray, List.getElem_cons_succ, List.getElem_cons_zero, Array.toArray_toList]
              refine wpAnyH_ready (rs := [3]) (by kernel_rfl) (by simp) (AllReadyH.cons rfl ?_ AllReadyH.nil)
              · intro K3 hK3
                rw [if_pos (by rfl)]
                try simp only [Act.put, List.setIfInBounds_toArray, List.set_cons_zero, List.set_cons_succ, List.getElem_toArray, List.getElem_cons_succ, List.getElem_cons_zero, Array.toArray_toList]
                go_simp
                refine (HR.out _).mono ?_
                rintro e1 v3 ⟨rfl, hb⟩
                refine hK3.out _ _ (hS.belowX hb) (fun hS2 => ?_)
                have th9' := Lib.hid (there_belowA th9.out hb lt9)
                have lt9' := Nat.lt_of_lt_of_le lt9 hb.size
                clear th9 lt9
                have th9 := th9'
                have lt9 := lt9'
                clear th9' lt9'
                have th10' := Lib.hid (there_belowA th10.out hb lt10)
                have lt10' := Nat.lt_of_lt_of_le lt10 hb.size
                clear th10 lt10
                have th10 := th10'
                have lt10 := lt10'
                clear th10' lt10'
                clear hK3 hS hb
                have hS := hS2
                clear hS2
                try simp only [Act.put, List.setIfInBounds_toArray, List.set_cons_zero, List.set_cons_succ, List.getElem_toArray, List.getElem_cons_succ, List.getElem_cons_zero, Array.toArray_toList]
                refine wpAnyH_take (i := 4) (v := ?_) rfl (by kernel_rfl) (by kernel_rfl) (by kernel_rfl) (fun _ _ _ h => h) (Or.inl ⟨by rfl, ?_⟩) hS ?_
                rotate_left 1
                · intro W hW
                  clear hW
                  go_simp
                  all_goals with_reducible rfl
                try simp only [Act.put, List.setIfInBounds_toArray, List.set_cons_zero, List.set_cons_succ, List.getElem_toArray, List.getElem_cons_succ, List.getElem_cons_zero, Array.toArray_toList]
                refine wpAnyH_take (i := 5) (v := ?_) rfl (by kernel_rfl) (by kernel_rfl) (by kernel_rfl) (fun _ _ _ h => h) (Or.inl ⟨by rfl, ?_⟩) hS ?_
                rotate_left 1
                · intro W hW
                  clear hW
                  go_simp
                  all_goals with_reducible rfl
                try simp only [Act.put, List.setIfInBounds_toArray, List.set_cons_zero, List.set_cons_succ, List.getElem_toArray, List.getElem_cons_succ, List.getElem_cons_zero, Array.toArray_toList]
                refine wpAnyH_take (i := 6) (v := ?_) rfl (by kernel_rfl) (by kernel_rfl) (by kernel_rfl) (fun _ _ _ h => h) (Or.inl ⟨by rfl, ?_⟩) hS ?_
                rotate_left 1
                · intro W hW
                  clear hW
                  go_simp
                  all_goals with_reducible rfl
                try simp only [Act.put, List.setIfInBounds_toArray, List.set_cons_zero, List.set_cons_succ, List.getElem_toArray, List.getElem_cons_succ, List.getElem_cons_zero, Array.toArray_toList]
                refine wpAnyH_ready (rs := [9]) (by kernel_rfl) (by simp) (AllReadyH.cons rfl ?_ AllReadyH.nil)
                intro K9 hK9
                rw [if_pos (by rfl)]
                try simp only [Act.put, List.setIfInBounds_toArray, List.set_cons_zero, List.set_cons_succ, List.getElem_toArray, List.getElem_cons_succ, List.getElem_cons_zero, Array.toArray_toList]
                have r9 := World.rangeAt_setCells_same v3 b9 0 D.a.toList (by rw [Array.length_toList, ct_size]; exact th9.out)
                have s9 := hS.store ge9 D.a.toList
                have t10 := World.there_setCells th10.out b9 0 D.a.toList
                have l9 := Nat.lt_of_lt_of_le lt9 (touch_setCells v3 b9 0 D.a.toList).size
                have l10 := Nat.lt_of_lt_of_le lt10 (touch_setCells v3 b9 0 D.a.toList).size
                refine wp_store_mid _ _ _ rfl _ _ D.a rfl rfl (by rw [ct_size]; exact th9.out) (info51c _) (ct_one _) ?_
                try simp only [Act.put, List.setIfInBounds_toArray, List.set_cons_zero, List.set_cons_succ, List.getElem_toArray, List.getElem_cons_succ, List.getElem_cons_zero, Array.toArray_toList]
                refine hK9.out _ _ s9 (fun hS2 => ?_)
                clear hK9 hS s9 th9 th10 lt9 lt10
                have hS := hS2
                clear hS2
                generalize (v3).setCells b9 0 D.a.toList = W9 at *
                refine wpAnyH_ready (rs := [10]) (by kernel_rfl) (by simp) (AllReadyH.cons rfl ?_ AllReadyH.nil)
                intro K10 hK10
                rw [if_pos (by rfl)]
                try simp only [Act.put, List.setIfInBounds_toArray, List.set_cons_zero, List.set_cons_succ, List.getElem_toArray, List.getElem_cons_succ, List.getElem_cons_zero, Array.toArray_toList]
                have r10 := World.rangeAt_setCells_same W9 b10 0 E.a.toList (by rw [Array.length_toList, e4_size]; exact t10)
                have r9' := World.rangeAt_setCells_apart r9 b10 0 E.a.toList (.inl (by omega))
                have s10 := hS.store ge10 E.a.toList
                have l9' := Nat.lt_of_lt_of_le l9 (touch_setCells W9 b10 0 E.a.toList).size
                have l10' := Nat.lt_of_lt_of_le l10 (touch_setCells W9 b10 0 E.a.toList).size
                refine wp_store_mid _ _ _ rfl _ _ E.a rfl rfl (by rw [e4_size]; exact t10) (info58c _) (e4_one _) ?_
                try simp only [Act.put, List.setIfInBounds_toArray, List.set_cons_zero, List.set_cons_succ, List.getElem_toArray, List.getElem_cons_succ, List.getElem_cons_zero, Array.toArray_toList]
                refine hK10.out _ _ s10 (fun hS2 => ?_)
                clear hK10 hS s10 t10 r9 l9 l10
                generalize W9.setCells b10 0 E.a.toList = W10 at *
                refine wpAnyH_done (by kernel_rfl) ?_ _
                have G : TS w W10 w.heap.size c e B D E ∧ W10.rangeAt b9 0 D.a.toList ∧ W10.rangeAt b10 0 E.a.toList ∧ b9 < W10.heap.size ∧ b10 < W10.heap.size := ⟨hS2, r9', r10, l9', l10'⟩
                have G' := Lib.hid G
                clear G hS2 r9' r10 l9' l10'
                go_wp2_with fail
                go_meet
                exact ⟨b9, b10, rfl, rfl, G'.out⟩
        · intro K8 hK8
          rw [if_pos (by rfl)]
          try simp only [Act.put, List.setIfInBounds_toArray, List.set_cons_zero, List.set_cons_succ, List.getElem_toArray, List.getElem_cons_succ, List.getElem_cons_zero, Array.toArray_toList]
          refine wp_alloc_row _ rfl Y hY.out ?_
          try simp only [Act.put, List.setIfInBounds_toArray, List.set_cons_zero, List.set_cons_succ, List.getElem_toArray, List.getElem_cons_succ, List.getElem_cons_zero, Array.toArray_toList]
          have th10 := Lib.hid (there_newA X0 Y 58 4 (by omega))
          have ge10 : B + 2 ≤ X0.heap.size := hS.size
          have lt10 : X0.heap.size < (X0.alloc (.cells Y 58)).heap.size := by simp
          refine hK8.out _ _ (hS.alloc _) (fun hS2 => ?_)
          clear hK8 hS
          have hS := hS2
          clear hS2
          generalize X0.alloc (.cells Y 58) = VV0 at *
          generalize X0.heap.size = b10 at *
          refine wpAnyH_ready (rs := [1, 7]) (by kernel_rfl) (by simp) (AllReadyH.cons rfl ?_ (AllReadyH.cons rfl ?_ AllReadyH.nil))
          · intro K1 hK1
            rw [if_pos (by rfl)]
            try simp only [Act.put, List.setIfInBounds_toArray, List.set_cons_zero, List.set_cons_succ, List.getElem_toArray, List.getElem_cons_succ, List.getElem_cons_zero, Array.toArray_toList]
            go_simp
            refine (HP.out _).mono ?_
            rintro e1 v1 ⟨rfl, hb⟩
            refine hK1.out _ _ (hS.belowX hb) (fun hS2 => ?_)
            have th10' := Lib.hid (there_belowA th10.out hb lt10)
            have lt10' := Nat.lt_of_lt_of_le lt10 hb.size
            clear th10 lt10
            have th10 := th10'
            have lt10 := lt10'
            clear th10' lt10'
            clear hK1 hS hb
            have hS := hS2
            clear hS2
            try simp only [Act.put, List.setIfInBounds_toArray, List.set_cons_zero, List.set_cons_succ, List.getElem_toArray, List.getElem_cons_succ, List.getElem_cons_zero, Array.toArray_toList]
            refine wpAnyH_ready (rs := [3, 7]) (by kernel_rfl) (by simp) (AllReadyH.cons rfl ?_ (AllReadyH.cons rfl ?_ AllReadyH.nil))
            · intro K3 hK3
              rw [if_pos (by rfl)]
              try simp only [Act.put, List.setIfInBounds_toArray, List.set_cons_zero, List.set_cons_succ, List.getElem_toArray, List.getElem_cons_succ, List.getElem_cons_zero, Array.toArray_toList]
              go_simp
              refine (HR.out _).mono ?_
              rintro e1 v3 ⟨rfl, hb⟩
              refine hK3.out _ _ (hS.belowX hb) (fun hS2 => ?_)
              have th10' := Lib.hid (there_belowA th10.out hb lt10)
              have lt10' := Nat.lt_of_lt_of_le lt10 hb.size
              clear th10 lt10
              have th10 := th10'
              have lt10 := lt10'
              clear th10' lt10'
              clear hK3 hS hb
              have hS := hS2
              clear hS2
              try simp only [Act.put, List.setIfInBounds_toArray, List.set_cons_zero, List.set_cons_succ, List.getElem_toArray, List.getElem_cons_succ, List.getElem_cons_zero, Array.toArray_toList]
              refine wpAnyH_take (i := 4) (v := ?_) rfl (by kernel_rfl) (by kernel_rfl) (by kernel_rfl) (fun _ _ _ h => h) (Or.inl ⟨by rfl, ?_⟩) hS ?_
              rotate_left 1
              · intro W hW
                clear hW
                go_simp
                all_goals with_reducible rfl
              try simp only [Act.put, List.setIfInBounds_toArray, List.set_cons_zero, List.set_cons_succ, List.getElem_toArray, List.getElem_cons_succ, List.getElem_cons_zero, Array.toArray_toList]
              refine wpAnyH_take (i := 5) (v := ?_) rfl (by kernel_rfl) (by kernel_rfl) (by kernel_rfl) (fun _ _ _ h => h) (Or.inl ⟨by rfl, ?_⟩) hS ?_
              rotate_left 1
              · intro W hW
                clear hW
                go_simp
                all_goals with_reducible rfl
              try simp only [Act.put, List.setIfInBounds_toArray, List.set_cons_zero, List.set_cons_succ, List.getElem_toArray, List.getElem_cons_succ, List.getElem_cons_zero, Array.toArray_toList]
              refine wpAnyH_take (i := 6) (v := ?_) rfl (by kernel_rfl) (by kernel_rfl) (by kernel_rfl) (fun _ _ _ h => h) (Or.inl ⟨by rfl, ?_⟩) hS ?_
              rotate_left 1
              · intro W hW
                clear hW
                go_simp
                all_goals with_reducible rfl
              try simp only [Act.put, List.setIfInBounds_toArray, List.set_cons_zero, List.set_cons_succ, List.getElem_toArray, List.getElem_cons_succ, List.getElem_cons_zero, Array.toArray_toList]
              refine wpAnyH_ready (rs := [7]) (by kernel_rfl) (by simp) (AllReadyH.cons rfl ?_ AllReadyH.nil)
              · intro K7 hK7
                rw [if_pos (by rfl)]
                try simp only [Act.put, List.setIfInBounds_toArray, List.set_cons_zero, List.set_cons_succ, List.getElem_toArray, List.getElem_cons_succ, List.getElem_cons_zero, Array.toArray_toList]
                refine wp_alloc_row _ rfl Z51 hZ51.out ?_
                try simp only [Act.put, List.setIfInBounds_toArray, List.set_cons_zero, List.set_cons_succ, List.getElem_toArray, List.getElem_cons_succ, List.getElem_cons_zero, Array.toArray_toList]
                have th9 := Lib.hid (there_newA v3 Z51 51 33 (by omega))
                have ge9 : B + 2 ≤ v3.heap.size := hS.size
                have lt9 : v3.heap.size < (v3.alloc (.cells Z51 51)).heap.size := by simp
                have ne910 : b10 < v3.heap.size := lt10
                have th10' := Lib.hid (there_allocA th10.out (.cells Z51 51))
                have lt10' : b10 < (v3.alloc (.cells Z51 51)).heap.size := by simp; omega
                clear th10 lt10
                have th10 := th10'
                have lt10 := lt10'
                clear th10' lt10'
                refine hK7.out _ _ (hS.alloc _) (fun hS2 => ?_)
                clear hK7 hS
                have hS := hS2
                clear hS2
                generalize v3.alloc (.cells Z51 51) = VV3 at *
                generalize v3.heap.size = b9 at *
                refine wpAnyH_ready (rs := [9]) (by kernel_rfl) (by simp) (AllReadyH.cons rfl ?_ AllReadyH.nil)
                intro K9 hK9
                rw [if_pos (by rfl)]
                try simp only [Act.put, List.setIfInBounds_toArray, List.set_cons_zero, List.set_cons_succ, List.getElem_toArray, List.getElem_cons_succ, List.getElem_cons_zero, Array.toArray_toList]
                have r9 := World.rangeAt_setCells_same VV3 b9 0 D.a.toList (by rw [Array.length_toList, ct_size]; exact th9.out)
                have s9 := hS.store ge9 D.a.toList
                have t10 := World.there_setCells th10.out b9 0 D.a.toList
                have l9 := Nat.lt_of_lt_of_le lt9 (touch_setCells VV3 b9 0 D.a.toList).size
                have l10 := Nat.lt_of_lt_of_le lt10 (touch_setCells VV3 b9 0 D.a.toList).size
                refine wp_store_mid _ _ _ rfl _ _ D.a rfl rfl (by rw [ct_size]; exact th9.out) (info51c _) (ct_one _) ?_
                try simp only [Act.put, List.setIfInBounds_toArray, List.set_cons_zero, List.set_cons_succ, List.getElem_toArray, List.getElem_cons_succ, List.getElem_cons_zero, Array.toArray_toList]
                refine hK9.out _ _ s9 (fun hS2 => ?_)
                clear hK9 hS s9 th9 th10 lt9 lt10
                have hS := hS2
                clear hS2
                generalize (VV3).setCells b9 0 D.a.toList = W9 at *
                refine wpAnyH_ready (rs := [10]) (by kernel_rfl) (by simp) (AllReadyH.cons rfl ?_ AllReadyH.nil)
                intro K10 hK10
                rw [if_pos (by rfl)]
                try simp only [Act.put, List.setIfInBounds_toArray, List.set_cons_zero, List.set_cons_succ, List.getElem_toArray, List.getElem_cons_succ, List.getElem_cons_zero, Array.toArray_toList]
                have r10 := World.rangeAt_setCells_same W9 b10 0 E.a.toList (by rw [Array.length_toList, e4_size]; exact t10)
                have r9' := World.rangeAt_setCells_apart r9 b10 0 E.a.toList (.inl (by omega))
                have s10 := hS.store ge10 E.a.toList
                have l9' := Nat.lt_of_lt_of_le l9 (touch_setCells W9 b10 0 E.a.toList).size
                have l10' := Nat.lt_of_lt_of_le l10 (touch_setCells W9 b10 0 E.a.toList).size
                refine wp_store_mid _ _ _ rfl _ _ E.a rfl rfl (by rw [e4_size]; exact t10) (info58c _) (e4_one _) ?_
                try simp only [Act.put, List.setIfInBounds_toArray, List.set_cons_zero, List.set_cons_succ, List.getElem_toArray, List.getElem_cons_succ, List.getElem_cons_zero, Array.toArray_toList]
                refine hK10.out _ _ s10 (fun hS2 => ?_)
                clear hK10 hS s10 t10 r9 l9 l10
                generalize W9.setCells b10 0 E.a.toList = W10 at *
                refine wpAnyH_done (by kernel_rfl) ?_ _
                have G : TS w W10 w.heap.size c e B D E ∧ W10.rangeAt b9 0 D.a.toList ∧ W10.rangeAt b10 0 E.a.toList ∧ b9 < W10.heap.size ∧ b10 < W10.heap.size := ⟨hS2, r9', r10, l9', l10'⟩
                have G' := Lib.hid G
                clear G hS2 r9' r10 l9' l10'
                go_wp2_with fail
                go_meet
                exact ⟨b9, b10, rfl, rfl, G'.out⟩
            · intro K7 hK7
              rw [if_pos (by rfl)]
              try simp only [Act.put, List.setIfInBounds_toArray, List.set_cons_zero, List.set_cons_succ, List.getElem_toArray, List.getElem_cons_succ, List.getElem_cons_zero, Array.toArray_toList]
              refine wp_alloc_row _ rfl Z51 hZ51.out ?_
              try simp only [Act.put, List.setIfInBounds_toArray, List.set_cons_zero, List.set_cons_succ, List.getElem_toArray, List.getElem_cons_succ, List.getElem_cons_zero, Array.toArray_toList]
              have th9 := Lib.hid (there_newA v1 Z51 51 33 (by omega))
              have ge9 : B + 2 ≤ v1.heap.size := hS.size
              have lt9 : v1.heap.size < (v1.alloc (.cells Z51 51)).heap.size := by simp
              have ne910 : b10 < v1.heap.size := lt10
              have th10' := Lib.hid (there_allocA th10.out (.cells Z51 51))
              have lt10' : b10 < (v1.alloc (.cells Z51 51)).heap.size := by simp; omega
              clear th10 lt10
              have th10 := th10'
              have lt10 := lt10'
              clear th10' lt10'
              refine hK7.out _ _ (hS.alloc _) (fun hS2 => ?_)
              clear hK7 hS
              have hS := hS2
              clear hS2
              generalize v1.alloc (.cells Z51 51) = VV2 at *
              generalize v1.heap.size = b9 at *
              refine wpAnyH_ready (rs := [3]) (by kernel_rfl) (by simp) (AllReadyH.cons rfl ?_ AllReadyH.nil)
              · intro K3 hK3
                rw [if_pos (by rfl)]
                try simp only [Act.put, List.setIfInBounds_toArray, List.set_cons_zero, List.set_cons_succ, List.getElem_toArray, List.getElem_cons_succ, List.getElem_cons_zero, Array.toArray_toList]
                go_simp
                refine (HR.out _).mono ?_
                rintro e1 v3 ⟨rfl, hb⟩
                refine hK3.out _ _ (hS.belowX hb) (fun hS2 => ?_)
                have th9' := Lib.hid (there_belowA th9.out hb lt9)
                have lt9' := Nat.lt_of_lt_of_le lt9 hb.size
                clear th9 lt9
                have th9 := th9'
                have lt9 := lt9'
                clear th9' lt9'
                have th10' := Lib.hid (there_belowA th10.out hb lt10)
                have lt10' := Nat.lt_of_lt_of_le lt10 hb.size
                clear th10 lt10
                have th10 := th10'
                have lt10 := lt10'
                clear th10' lt10'
                clear hK3 hS hb
                have hS := hS2
                clear hS2
                try simp only [Act.put, List.setIfInBounds_toArray, List.set_cons_zero, List.set_cons_succ, List.getElem_toArray, List.getElem_cons_succ, List.getElem_cons_zero, Array.toArray_toList]
                refine wpAnyH_take (i := 4) (v := ?_) rfl (by kernel_rfl) (by kernel_rfl) (by kernel_rfl) (fun _ _ _ h => h) (Or.inl ⟨by rfl, ?_⟩) hS ?_
                rotate_left 1
                · intro W hW
                  clear hW
                  go_simp
                  all_goals with_reducible rfl
                try simp only [Act.put, List.setIfInBounds_toArray, List.set_cons_zero, List.set_cons_succ, List.getElem_toArray, List.getElem_cons_succ, List.getElem_cons_zero, Array.toArray_toList]
                refine wpAnyH_take (i := 5) (v := ?_) rfl (by kernel_rfl) (by kernel_rfl) (by kernel_rfl) (fun _ _ _ h => h) (Or.inl ⟨by rfl, ?_⟩) hS ?_
                rotate_left 1
                · intro W hW
                  clear hW
                  go_simp
                  all_goals with_reducible rfl
                try simp only [Act.put, List.setIfInBounds_toArray, List.set_cons_zero, List.set_cons_succ, List.getElem_toArray, List.getElem_cons_succ, List.getElem_cons_zero, Array.toArray_toList]
                refine wpAnyH_take (i := 6) (v := ?_) rfl (by kernel_rfl) (by kernel_rfl) (by kernel_rfl) (fun _ _ _ h => h) (Or.inl ⟨by rfl, ?_⟩) hS ?_
                rotate_left 1
                · intro W hW
                  clear hW
                  go_simp
                  all_goals with_reducible rfl
                try simp only [Act.put, List.setIfInBounds_toArray, List.set_cons_zero, List.set_cons_succ, List.getElem_toArray, List.getElem_cons_succ, List.getElem_cons_zero, Array.toArray_toList]
                refine wpAnyH_ready (rs := [9]) (by kernel_rfl) (by simp) (AllReadyH.cons rfl ?_ AllReadyH.nil)
                intro K9 hK9
                rw [if_pos (by rfl)]
                try simp only [Act.put, List.setIfInBounds_toArray, List.set_cons_zero, List.set_cons_succ, List.getElem_toArray, List.getElem_cons_succ, List.getElem_cons_zero, Array.toArray_toList]
                have r9 := World.rangeAt_setCells_same v3 b9 0 D.a.toList (by rw [Array.length_toList, ct_size]; exact th9.out)
                have s9 := hS.store ge9 D.a.toList
                have t10 := World.there_setCells th10.out b9 0 D.a.toList
                have l9 := Nat.lt_of_lt_of_le lt9 (touch_setCells v3 b9 0 D.a.toList).size
                have l10 := Nat.lt_of_lt_of_le lt10 (touch_setCells v3 b9 0 D.a.toList).size
                refine wp_store_mid _ _ _ rfl _ _ D.a rfl rfl (by rw [ct_size]; exact th9.out) (info51c _) (ct_one _) ?_
                try simp only [Act.put, List.setIfInBounds_toArray, List.set_cons_zero, List.set_cons_succ, List.getElem_toArray, List.getElem_cons_succ, List.getElem_cons_zero, Array.toArray_toList]
                refine hK9.out _ _ s9 (fun hS2 => ?_)
                clear hK9 hS s9 th9 th10 lt9 lt10
                have hS := hS2
                clear hS2
                generalize (v3).setCells b9 0 D.a.toList = W9 at *
                refine wpAnyH_ready (rs := [10]) (by kernel_rfl) (by simp) (AllReadyH.cons rfl ?_ AllReadyH.nil)
                intro K10 hK10
                rw [if_pos (by rfl)]
                try simp only [Act.put, List.setIfInBounds_toArray, List.set_cons_zero, List.set_cons_succ, List.getElem_toArray, List.getElem_cons_succ, List.getElem_cons_zero, Array.toArray_toList]
                have r10 := World.rangeAt_setCells_same W9 b10 0 E.a.toList (by rw [Array.length_toList, e4_size]; exact t10)
                have r9' := World.rangeAt_setCells_apart r9 b10 0 E.a.toList (.inl (by omega))
                have s10 := hS.store ge10 E.a.toList
                have l9' := Nat.lt_of_lt_of_le l9 (touch_setCells W9 b10 0 E.a.toList).size
                have l10' := Nat.lt_of_lt_of_le l10 (touch_setCells W9 b10 0 E.a.toList).size
                refine wp_store_mid _ _ _ rfl _ _ E.a rfl rfl (by rw [e4_size]; exact t10) (info58c _) (e4_one _) ?_
                try simp only [Act.put, List.setIfInBounds_toArray, List.set_cons_zero, List.set_cons_succ, List.getElem_toArray, List.getElem_cons_succ, List.getElem_cons_zero, Array.toArray_toList]
                refine hK10.out _ _ s10 (fun hS2 => ?_)
                clear hK10 hS s10 t10 r9 l9 l10
                generalize W9.setCells b10 0 E.a.toList = W10 at *
                refine wpAnyH_done (by kernel_rfl) ?_ _
                have G : TS w W10 w.heap.size c e B D E ∧ W10.rangeAt b9 0 D.a.toList ∧ W10.rangeAt b10 0 E.a.toList ∧ b9 < W10.heap.size ∧ b10 < W10.heap.size := ⟨hS2, r9', r10, l9', l10'⟩
                have G' := Lib.hid G
                clear G hS2 r9' r10 l9' l10'
                go_wp2_with fail
                go_meet
                exact ⟨b9, b10, rfl, rfl, G'.out⟩
          · intro K7 hK7
            rw [if_pos (by rfl)]
            try simp only [Act.put, List.setIfInBounds_toArray, List.set_cons_zero, List.set_cons_succ, List.getElem_toArray, List.getElem_cons_succ, List.getElem_cons_zero, Array.toArray_toList]
            refine wp_alloc_row _ rfl Z51 hZ51.out ?_
            try simp only [Act.put, List.setIfInBounds_toArray, List.set_cons_zero, List.set_cons_succ, List.getElem_toArray, List.getElem_cons_succ, List.getElem_cons_zero, Array.toArray_toList]
            have th9 := Lib.hid (there_newA VV0 Z51 51 33 (by omega))
            have ge9 : B + 2 ≤ VV0.heap.size := hS.size
            have lt9 : VV0.heap.size < (VV0.alloc (.cells Z51 51)).heap.size := by simp
            have ne910 : b10 < VV0.heap.size := lt10
            have th10' := Lib.hid (there_allocA th10.out (.cells Z51 51))
            have lt10' : b10 < (VV0.alloc (.cells Z51 51)).heap.size := by simp; omega
            clear th10 lt10
            have th10 := th10'
            have lt10 := lt10'
            clear th10' lt10'
            refine hK7.out _ _ (hS.alloc _) (fun hS2 => ?_)
            clear hK7 hS
            have hS := hS2
            clear hS2
            generalize VV0.alloc (.cells Z51 51) = VV1 at *
            generalize VV0.heap.size = b9 at *
            refine wpAnyH_ready (rs := [1]) (by kernel_rfl) (by simp) (AllReadyH.cons rfl ?_ AllReadyH.nil)
            · intro K1 hK1
              rw [if_pos (by rfl)]
              try simp only [Act.put, List.setIfInBounds_toArray, List.set_cons_zero, List.set_cons_succ, List.getElem_toArray, List.getElem_cons_succ, List.getElem_cons_zero, Array.toArray_toList]
              go_simp
              refine (HP.out _).mono ?_
              rintro e1 v1 ⟨rfl, hb⟩
              refine hK1.out _ _ (hS.belowX hb) (fun hS2 => ?_)
              have th9' := Lib.hid (there_belowA th9.out hb lt9)
              have lt9' := Nat.lt_of_lt_of_le lt9 hb.size
              clear th9 lt9
              have th9 := th9'
              have lt9 := lt9'
              clear th9' lt9'
              have th10' := Lib.hid (there_belowA th10.out hb lt10)
              have lt10' := Nat.lt_of_lt_of_le lt10 hb.size
              clear th10 lt10
              have th10 := th10'
              have lt10 := lt10'
              clear th10' lt10'
              clear hK1 hS hb
              have hS := hS2
              clear hS2
              try simp only [Act.put, List.setIfInBounds_toArray, List.set_cons_zero, List.set_cons_succ, List.getElem_toArray, List.getElem_cons_succ, List.getElem_cons_zero, Array.toArray_toList]
              refine wpAnyH_ready (rs := [3]) (by kernel_rfl) (by simp) (AllReadyH.cons rfl ?_ AllReadyH.nil)
              · intro K3 hK3
                rw [if_pos (by rfl)]
                try simp only [Act.put, List.setIfInBounds_toArray, List.set_cons_zero, List.set_cons_succ, List.getElem_toArray, List.getElem_cons_succ, List.getElem_cons_zero, Array.toArray_toList]
                go_simp
                refine (HR.out _).mono ?_
                rintro e1 v3 ⟨rfl, hb⟩
                refine hK3.out _ _ (hS.belowX hb) (fun hS2 => ?_)
                have th9' := Lib.hid (there_belowA th9.out hb lt9)
                have lt9' := Nat.lt_of_lt_of_le lt9 hb.size
                clear th9 lt9
                have th9 := th9'
                have lt9 := lt9'
                clear th9' lt9'
                have th10' := Lib.hid (there_belowA th10.out hb lt10)
                have lt10' := Nat.lt_of_lt_of_le lt10 hb.size
                clear th10 lt10
                have th10 := th10'
                have lt10 := lt10'
                clear th10' lt10'
                clear hK3 hS hb
                have hS := hS2
                clear hS2
                try simp only [Act.put, List.setIfInBounds_toArray, List.set_cons_zero, List.set_cons_succ, List.getElem_toArray, List.getElem_cons_succ, List.getElem_cons_zero, Array.toArray_toList]
                refine wpAnyH_take (i := 4) (v := ?_) rfl (by kernel_rfl) (by kernel_rfl) (by kernel_rfl) (fun _ _ _ h => h) (Or.inl ⟨by rfl, ?_⟩) hS ?_
                rotate_left 1
                · intro W hW
                  clear hW
                  go_simp
                  all_goals with_reducible rfl
                try simp only [Act.put, List.setIfInBounds_toArray, List.set_cons_zero, List.set_cons_succ, List.getElem_toArray, List.getElem_cons_succ, List.getElem_cons_zero, Array.toArray_toList]
                refine wpAnyH_take (i := 5) (v := ?_) rfl (by kernel_rfl) (by kernel_rfl) (by kernel_rfl) (fun _ _ _ h => h) (Or.inl ⟨by rfl, ?_⟩) hS ?_
                rotate_left 1
                · intro W hW
                  clear hW
                  go_simp
                  all_goals with_reducible rfl
                try simp only [Act.put, List.setIfInBounds_toArray, List.set_cons_zero, List.set_cons_succ, List.getElem_toArray, List.getElem_cons_succ, List.getElem_cons_zero, Array.toArray_toList]
                refine wpAnyH_take (i := 6) (v := ?_) rfl (by kernel_rfl) (by kernel_rfl) (by kernel_rfl) (fun _ _ _ h => h) (Or.inl ⟨by rfl, ?_⟩) hS ?_
                rotate_left 1
                · intro W hW
                  clear hW
                  go_simp
                  all_goals with_reducible rfl
                try simp only [Act.put, List.setIfInBounds_toArray, List.set_cons_zero, List.set_cons_succ, List.getElem_toArray, List.getElem_cons_succ, List.getElem_cons_zero, Array.toArray_toList]
                refine wpAnyH_ready (rs := [9]) (by kernel_rfl) (by simp) (AllReadyH.cons rfl ?_ AllReadyH.nil)
                intro K9 hK9
                rw [if_pos (by rfl)]
                try simp only [Act.put, List.setIfInBounds_toArray, List.set_cons_zero, List.set_cons_succ, List.getElem_toArray, List.getElem_cons_succ, List.getElem_cons_zero, Array.toArray_toList]
                have r9 := World.rangeAt_setCells_same v3 b9 0 D.a.toList (by rw [Array.length_toList, ct_size]; exact th9.out)
                have s9 := hS.store ge9 D.a.toList
                have t10 := World.there_setCells th10.out b9 0 D.a.toList
                have l9 := Nat.lt_of_lt_of_le lt9 (touch_setCells v3 b9 0 D.a.toList).size
                have l10 := Nat.lt_of_lt_of_le lt10 (touch_setCells v3 b9 0 D.a.toList).size
                refine wp_store_mid _ _ _ rfl _ _ D.a rfl rfl (by rw [ct_size]; exact th9.out) (info51c _) (ct_one _) ?_
                try simp only [Act.put, List.setIfInBounds_toArray, List.set_cons_zero, List.set_cons_succ, List.getElem_toArray, List.getElem_cons_succ, List.getElem_cons_zero, Array.toArray_toList]
                refine hK9.out _ _ s9 (fun hS2 => ?_)
                clear hK9 hS s9 th9 th10 lt9 lt10
                have hS := hS2
                clear hS2
                generalize (v3).setCells b9 0 D.a.toList = W9 at *
                refine wpAnyH_ready (rs := [10]) (by kernel_rfl) (by simp) (AllReadyH.cons rfl ?_ AllReadyH.nil)
                intro K10 hK10
                rw [if_pos (by rfl)]
                try simp only [Act.put, List.setIfInBounds_toArray, List.set_cons_zero, List.set_cons_succ, List.getElem_toArray, List.getElem_cons_succ, List.getElem_cons_zero, Array.toArray_toList]
                have r10 := World.rangeAt_setCells_same W9 b10 0 E.a.toList (by rw [Array.length_toList, e4_size]; exact t10)
                have r9' := World.rangeAt_setCells_apart r9 b10 0 E.a.toList (.inl (by omega))
                have s10 := hS.store ge10 E.a.toList
                have l9' := Nat.lt_of_lt_of_le l9 (touch_setCells W9 b10 0 E.a.toList).size
                have l10' := Nat.lt_of_lt_of_le l10 (touch_setCells W9 b10 0 E.a.toList).size
                refine wp_store_mid _ _ _ rfl _ _ E.a rfl rfl (by rw [e4_size]; exact t10) (info58c _) (e4_one _) ?_
                try simp only [Act.put, List.setIfInBounds_toArray, List.set_cons_zero, List.set_cons_succ, List.getElem_toArray, List.getElem_cons_succ, List.getElem_cons_zero, Array.toArray_toList]
                refine hK10.out _ _ s10 (fun hS2 => ?_)
                clear hK10 hS s10 t10 r9 l9 l10
                generalize W9.setCells b10 0 E.a.toList = W10 at *
                refine wpAnyH_done (by kernel_rfl) ?_ _
                have G : TS w W10 w.heap.size c e B D E ∧ W10.rangeAt b9 0 D.a.toList ∧ W10.rangeAt b10 0 E.a.toList ∧ b9 < W10.heap.size ∧ b10 < W10.heap.size := ⟨hS2, r9', r10, l9', l10'⟩
                have G' := Lib.hid G
                clear G hS2 r9' r10 l9' l10'
                go_wp2_with fail
                go_meet
                exact ⟨b9, b10, rfl, rfl, G'.out⟩
      case rest =>
        obtain ⟨b9, b10, rfl, rfl, hU⟩ := hcut
        have HU := Lib.hid (show UT w wc w.heap.size c e B D E b9 b10 from hU)
        clear hU
        go_wp2_with ((with_reducible refine is_loadT 47 rfl ?_); refine wpList_load_row rfl _ _ rfl _ _ rfl _ Try.underlying47 rfl c.a HU.out.1.box.1 (info47c _) ?_)
        refine (H3.out _).mono ?_
        rintro e1 w5 ⟨rfl, hb5⟩
        have HU5 := Lib.hid (HU.out.belowX hb5)
        clear HU hb5
        go_wp2_with (first
          | ((with_reducible refine is_allocT 47 rfl ?_); refine wpList_alloc_row rfl _ rfl Z hZ.out ?_)
          | ((with_reducible refine is_storeT 47 rfl ?_); refine wpList_store_rowT rfl _ _ _ rfl _ _ F.a rfl rfl (by rw [ct_size]; exact there_newA w5 Z _ 33 (by omega)) (info47c _) (ct_one _) ?_; intro W6 hW hT; have r11 := Lib.hid hW; have l11 : w5.heap.size < W6.heap.size := Nat.lt_of_lt_of_le (by simp) hT.size; have HU6 := Lib.hid (HU5.out.belowX (hT.below w5.heap.size w5 (Nat.le_refl _) (by simp) ((Below.refl w5.heap.size w5).alloc (Nat.le_refl _) _))); clear hW hT)
          | ((with_reducible refine is_loadT 47 rfl ?_); refine wpList_load_row rfl _ _ rfl _ _ rfl _ Try.underlying47 rfl c.a HU6.out.1.box.1 (info47c _) ?_))
        generalize w5.heap.size = b11 at *
        refine (HP.out _).mono ?_
        rintro e1 w7 ⟨rfl, hb7⟩
        have r11a := Lib.hid (range_below r11.out hb7 l11)
        have l11a := Nat.lt_of_lt_of_le l11 hb7.size
        have HU7 := Lib.hid (HU6.out.belowX hb7)
        clear HU6 hb7 r11 l11
        go_wp2_with fail
        refine (H4.out _).mono ?_
        rintro e1 w8 ⟨rfl, hb8⟩
        have r11b := Lib.hid (range_below r11a.out hb8 l11a)
        have l11b := Nat.lt_of_lt_of_le l11a hb8.size
        have HU8 := Lib.hid (HU7.out.belowX hb8)
        clear HU7 hb8 r11a l11a
        go_wp2_with (first
          | ((with_reducible refine is_allocT 51 rfl ?_); refine wpList_alloc_row rfl _ rfl Z51 hZ51.out ?_)
          | ((with_reducible refine is_storeT 51 rfl ?_); refine wpList_store_rowT rfl _ _ _ rfl _ _ F.a rfl rfl (by rw [ct_size]; exact there_newA w8 Z51 _ 33 (by omega)) (info51c _) (ct_one _) ?_; intro W9 hW hT; have l13 : w8.heap.size < W9.heap.size := Nat.lt_of_lt_of_le (by simp) hT.size; have hX9 := hT.below w8.heap.size w8 (Nat.le_refl _) (by simp) ((Below.refl w8.heap.size w8).alloc (Nat.le_refl _) _); have HV9 : Hid (VS w W9 w.heap.size c e B D E F b9 b10 b11 w8.heap.size) := Lib.hid ⟨HU8.out.belowX hX9, range_below r11b.out hX9 l11b, hW, Nat.lt_of_lt_of_le l11b hX9.size, l13⟩; clear hW hT hX9 l13))
        generalize w8.heap.size = b13 at *
        clear HU5 HU8 r11b l11b
        go_wp2_with fail
        refine wp_region_held_drew (S := fun W => VS w W w.heap.size c e B D E F b9 b10 b11 b13) (by kernel_rfl) HV9.out.drew ?_
        intro hS
        clear HV9
        have q1 := Q1.out
        have q2 := Q2.out
        have q3 := Q3.out
        refine wpAnyH_take (i := 0) rfl (by kernel_rfl) (by kernel_rfl) (by kernel_rfl) (fun _ _ _ h => h) (yieldsIf_load_mid (by rfl) _ _ rfl _ _ rfl _ _ (fun W hW => hW.u.1.newC.1) Try.underlying47 rfl (info47c _)) hS ?_
        try simp only [Act.put, List.setIfInBounds_toArray, List.set_cons_zero, List.set_cons_succ, List.getElem_toArray, List.getElem_cons_succ, List.getElem_cons_zero, Array.toArray_toList]
        refine wpAnyH_take (i := 2) rfl (by kernel_rfl) (by kernel_rfl) (by kernel_rfl) (fun _ _ _ h => h) (yieldsIf_load_mid (by rfl) _ _ rfl _ _ rfl _ _ (fun W hW => hW.u.2.1) Try.underlying51 rfl (info51c _)) hS ?_
        try simp only [Act.put, List.setIfInBounds_toArray, List.set_cons_zero, List.set_cons_succ, List.getElem_toArray, List.getElem_cons_succ, List.getElem_cons_zero, Array.toArray_toList]
        refine wpAnyH_ready (rs := [1]) (by kernel_rfl) (by simp) (AllReadyH.cons rfl ?_ AllReadyH.nil)
        intro K1 hK1
        rw [if_pos (by rfl)]
        try simp only [Act.put, List.setIfInBounds_toArray, List.set_cons_zero, List.set_cons_succ, List.getElem_toArray, List.getElem_cons_succ, List.getElem_cons_zero, Array.toArray_toList]
        go_simp
        refine (HPD.out _).mono ?_
        rintro e1 v2 ⟨rfl, hb⟩
        refine hK1.out _ _ (hS.belowX hb) (fun hS2 => ?_)
        clear hK1 hS hb
        have hS := hS2
        clear hS2
        try simp only [Act.put, List.setIfInBounds_toArray, List.set_cons_zero, List.set_cons_succ, List.getElem_toArray, List.getElem_cons_succ, List.getElem_cons_zero, Array.toArray_toList]
        refine wpAnyH_take (i := 3) (v := ?_) rfl (by kernel_rfl) (by kernel_rfl) (by kernel_rfl) (fun _ _ _ h => h) (Or.inl ⟨by rfl, ?_⟩) hS ?_
        rotate_left 1
        · intro W hW
          clear hW
          go_simp
          all_goals with_reducible rfl
        try simp only [Act.put, List.setIfInBounds_toArray, List.set_cons_zero, List.set_cons_succ, List.getElem_toArray, List.getElem_cons_succ, List.getElem_cons_zero, Array.toArray_toList]
        refine wpAnyH_take (i := 4) (v := ?_) rfl (by kernel_rfl) (by kernel_rfl) (by kernel_rfl) (fun _ _ _ h => h) (Or.inl ⟨by rfl, ?_⟩) hS ?_
        rotate_left 1
        · intro W hW
          clear hW
          go_simp
          all_goals with_reducible rfl
        try simp only [Act.put, List.setIfInBounds_toArray, List.set_cons_zero, List.set_cons_succ, List.getElem_toArray, List.getElem_cons_succ, List.getElem_cons_zero, Array.toArray_toList]
        refine wpAnyH_take (i := 5) rfl (by kernel_rfl) (by kernel_rfl) (by kernel_rfl) (fun _ _ _ h => h) (yieldsIf_load_mid (by rfl) _ _ rfl _ _ rfl _ _ (fun W hW => hW.u.1.newE) Try.underlying58 rfl (info58c _)) hS ?_
        try simp only [Act.put, List.setIfInBounds_toArray, List.set_cons_zero, List.set_cons_succ, List.getElem_toArray, List.getElem_cons_succ, List.getElem_cons_zero, Array.toArray_toList]
        refine wpAnyH_take (i := 6) rfl (by kernel_rfl) (by kernel_rfl) (by kernel_rfl) (fun _ _ _ h => h) (yieldsIf_load_mid (by rfl) _ _ rfl _ _ rfl _ _ (fun W hW => hW.u.2.2.1) Try.underlying58 rfl (info58c _)) hS ?_
        try simp only [Act.put, List.setIfInBounds_toArray, List.set_cons_zero, List.set_cons_succ, List.getElem_toArray, List.getElem_cons_succ, List.getElem_cons_zero, Array.toArray_toList]
        refine wpAnyH_take (i := 7) (v := ?_) rfl (by kernel_rfl) (by kernel_rfl) (by kernel_rfl) (fun _ _ _ h => h) (Or.inl ⟨by rfl, ?_⟩) hS ?_
        rotate_left 1
        · intro W hW
          clear hW
          go_simp
          all_goals with_reducible rfl
        try simp only [Act.put, List.setIfInBounds_toArray, List.set_cons_zero, List.set_cons_succ, List.getElem_toArray, List.getElem_cons_succ, List.getElem_cons_zero, Array.toArray_toList]
        refine wpAnyH_take (i := 8) (v := ?_) rfl (by kernel_rfl) (by kernel_rfl) (by kernel_rfl) (fun _ _ _ h => h) (Or.inl ⟨by rfl, ?_⟩) hS ?_
        rotate_left 1
        · intro W hW
          clear hW
          go_simp
          all_goals with_reducible rfl
        try simp only [Act.put, List.setIfInBounds_toArray, List.set_cons_zero, List.set_cons_succ, List.getElem_toArray, List.getElem_cons_succ, List.getElem_cons_zero, Array.toArray_toList]
        refine wpAnyH_take (i := 9) (v := ?_) rfl (by kernel_rfl) (by kernel_rfl) (by kernel_rfl) (fun _ _ _ h => h) (Or.inl ⟨by rfl, ?_⟩) hS ?_
        rotate_left 1
        · intro W hW
          clear hW
          go_simp
          all_goals with_reducible rfl
        try simp only [Act.put, List.setIfInBounds_toArray, List.set_cons_zero, List.set_cons_succ, List.getElem_toArray, List.getElem_cons_succ, List.getElem_cons_zero, Array.toArray_toList]
        refine wpAnyH_take (i := 10) rfl (by kernel_rfl) (by kernel_rfl) (by kernel_rfl) (fun _ _ _ h => h) (yieldsIf_load_mid (by rfl) _ _ rfl _ _ rfl _ _ (fun W hW => hW.r11) Try.underlying47 rfl (info47c _)) hS ?_
        try simp only [Act.put, List.setIfInBounds_toArray, List.set_cons_zero, List.set_cons_succ, List.getElem_toArray, List.getElem_cons_succ, List.getElem_cons_zero, Array.toArray_toList]
        refine wpAnyH_take (i := 12) rfl (by kernel_rfl) (by kernel_rfl) (by kernel_rfl) (fun _ _ _ h => h) (yieldsIf_load_mid (by rfl) _ _ rfl _ _ rfl _ _ (fun W hW => hW.r13) Try.underlying51 rfl (info51c _)) hS ?_
        try simp only [Act.put, List.setIfInBounds_toArray, List.set_cons_zero, List.set_cons_succ, List.getElem_toArray, List.getElem_cons_succ, List.getElem_cons_zero, Array.toArray_toList]
        refine wpAnyH_ready (rs := [11]) (by kernel_rfl) (by simp) (AllReadyH.cons rfl ?_ AllReadyH.nil)
        intro K1 hK1
        rw [if_pos (by rfl)]
        try simp only [Act.put, List.setIfInBounds_toArray, List.set_cons_zero, List.set_cons_succ, List.getElem_toArray, List.getElem_cons_succ, List.getElem_cons_zero, Array.toArray_toList]
        go_simp
        refine (HPA.out _).mono ?_
        rintro e1 v2 ⟨rfl, hb⟩
        refine hK1.out _ _ (hS.belowX hb) (fun hS2 => ?_)
        clear hK1 hS hb
        have hS := hS2
        clear hS2
        try simp only [Act.put, List.setIfInBounds_toArray, List.set_cons_zero, List.set_cons_succ, List.getElem_toArray, List.getElem_cons_succ, List.getElem_cons_zero, Array.toArray_toList]
        refine wpAnyH_take (i := 13) (v := ?_) rfl (by kernel_rfl) (by kernel_rfl) (by kernel_rfl) (fun _ _ _ h => h) (Or.inl ⟨by rfl, ?_⟩) hS ?_
        rotate_left 1
        · intro W hW
          clear hW
          go_simp
          all_goals with_reducible rfl
        try simp only [Act.put, List.setIfInBounds_toArray, List.set_cons_zero, List.set_cons_succ, List.getElem_toArray, List.getElem_cons_succ, List.getElem_cons_zero, Array.toArray_toList]
        refine wpAnyH_take (i := 14) (v := ?_) rfl (by kernel_rfl) (by kernel_rfl) (by kernel_rfl) (fun _ _ _ h => h) (Or.inl ⟨by rfl, ?_⟩) hS ?_
        rotate_left 1
        · intro W hW
          clear hW
          go_simp
          all_goals with_reducible rfl
        try simp only [Act.put, List.setIfInBounds_toArray, List.set_cons_zero, List.set_cons_succ, List.getElem_toArray, List.getElem_cons_succ, List.getElem_cons_zero, Array.toArray_toList]
        refine wpAnyH_take (i := 15) (v := ?_) rfl (by kernel_rfl) (by kernel_rfl) (by kernel_rfl) (fun _ _ _ h => h) (Or.inl ⟨by rfl, ?_⟩) hS ?_
        rotate_left 1
        · intro W hW
          clear hW
          go_simp
          all_goals with_reducible rfl
        try simp only [Act.put, List.setIfInBounds_toArray, List.set_cons_zero, List.set_cons_succ, List.getElem_toArray, List.getElem_cons_succ, List.getElem_cons_zero, Array.toArray_toList]
        refine wpAnyH_take (i := 16) (v := ?_) rfl (by kernel_rfl) (by kernel_rfl) (by kernel_rfl) (fun _ _ _ h => h) (Or.inl ⟨by rfl, ?_⟩) hS ?_
        rotate_left 1
        · intro W hW
          clear hW
          go_simp
          all_goals with_reducible rfl
        try simp only [Act.put, List.setIfInBounds_toArray, List.set_cons_zero, List.set_cons_succ, List.getElem_toArray, List.getElem_cons_succ, List.getElem_cons_zero, Array.toArray_toList]
        refine wpAnyH_take (i := 17) (v := ?_) rfl (by kernel_rfl) (by kernel_rfl) (by kernel_rfl) (fun _ _ _ h => h) (Or.inl ⟨by rfl, ?_⟩) hS ?_
        rotate_left 1
        · intro W hW
          clear hW
          go_simp
          all_goals with_reducible rfl
        try simp only [Act.put, List.setIfInBounds_toArray, List.set_cons_zero, List.set_cons_succ, List.getElem_toArray, List.getElem_cons_succ, List.getElem_cons_zero, Array.toArray_toList]
        refine wpAnyH_take (i := 18) (v := ?_) rfl (by kernel_rfl) (by kernel_rfl) (by kernel_rfl) (fun _ _ _ h => h) (Or.inl ⟨by rfl, ?_⟩) hS ?_
        rotate_left 1
        · intro W hW
          clear hW
          go_simp
          all_goals with_reducible rfl
        try simp only [Act.put, List.setIfInBounds_toArray, List.set_cons_zero, List.set_cons_succ, List.getElem_toArray, List.getElem_cons_succ, List.getElem_cons_zero, Array.toArray_toList]
        refine wpAnyH_take (i := 19) (v := ?_) rfl (by kernel_rfl) (by kernel_rfl) (by kernel_rfl) (fun _ _ _ h => h) (Or.inl ⟨by rfl, ?_⟩) hS ?_
        rotate_left 1
        · intro W hW
          clear hW
          go_simp
          all_goals with_reducible rfl
        try simp only [Act.put, List.setIfInBounds_toArray, List.set_cons_zero, List.set_cons_succ, List.getElem_toArray, List.getElem_cons_succ, List.getElem_cons_zero, Array.toArray_toList]
        refine wpAnyH_take (i := 20) (v := ?_) rfl (by kernel_rfl) (by kernel_rfl) (by kernel_rfl) (fun _ _ _ h => h) (Or.inl ⟨by rfl, ?_⟩) hS ?_
        rotate_left 1
        · intro W hW
          clear hW
          go_simp
          all_goals with_reducible rfl
        try simp only [Act.put, List.setIfInBounds_toArray, List.set_cons_zero, List.set_cons_succ, List.getElem_toArray, List.getElem_cons_succ, List.getElem_cons_zero, Array.toArray_toList]
        refine wpAnyH_take (i := 21) rfl (by kernel_rfl) (by kernel_rfl) (by kernel_rfl) (fun _ _ _ h => h) (yieldsIf_load_mid (by rfl) _ _ rfl _ _ rfl _ _ (fun W hW => hW.u.1.box.1) Try.underlying47 rfl (info47c _)) hS ?_
        try simp only [Act.put, List.setIfInBounds_toArray, List.set_cons_zero, List.set_cons_succ, List.getElem_toArray, List.getElem_cons_succ, List.getElem_cons_zero, Array.toArray_toList]
        refine wpAnyH_take (i := 23) rfl (by kernel_rfl) (by kernel_rfl) (by kernel_rfl) (fun _ _ _ h => h) (yieldsIf_load_mid (by rfl) _ _ rfl _ _ rfl _ _ (fun W hW => hW.u.1.box.1) Try.underlying47 rfl (info47c _)) hS ?_
        try simp only [Act.put, List.setIfInBounds_toArray, List.set_cons_zero, List.set_cons_succ, List.getElem_toArray, List.getElem_cons_succ, List.getElem_cons_zero, Array.toArray_toList]
        refine wpAnyH_ready (rs := [22]) (by kernel_rfl) (by simp) (AllReadyH.cons rfl ?_ AllReadyH.nil)
        intro K1 hK1
        rw [if_pos (by rfl)]
        try simp only [Act.put, List.setIfInBounds_toArray, List.set_cons_zero, List.set_cons_succ, List.getElem_toArray, List.getElem_cons_succ, List.getElem_cons_zero, Array.toArray_toList]
        go_simp
        refine (H5.out _).mono ?_
        rintro e1 v2 ⟨rfl, hb⟩
        refine hK1.out _ _ (hS.belowX hb) (fun hS2 => ?_)
        clear hK1 hS hb
        have hS := hS2
        clear hS2
        try simp only [Act.put, List.setIfInBounds_toArray, List.set_cons_zero, List.set_cons_succ, List.getElem_toArray, List.getElem_cons_succ, List.getElem_cons_zero, Array.toArray_toList]
        refine wpAnyH_ready (rs := [24]) (by kernel_rfl) (by simp) (AllReadyH.cons rfl ?_ AllReadyH.nil)
        intro K1 hK1
        rw [if_pos (by rfl)]
        try simp only [Act.put, List.setIfInBounds_toArray, List.set_cons_zero, List.set_cons_succ, List.getElem_toArray, List.getElem_cons_succ, List.getElem_cons_zero, Array.toArray_toList]
        go_simp
        refine (HP.out _).mono ?_
        rintro e1 v2 ⟨rfl, hb⟩
        refine hK1.out _ _ (hS.belowX hb) (fun hS2 => ?_)
        clear hK1 hS hb
        have hS := hS2
        clear hS2
        try simp only [Act.put, List.setIfInBounds_toArray, List.set_cons_zero, List.set_cons_succ, List.getElem_toArray, List.getElem_cons_succ, List.getElem_cons_zero, Array.toArray_toList]
        refine wpAnyH_ready (rs := [25]) (by kernel_rfl) (by simp) (AllReadyH.cons rfl ?_ AllReadyH.nil)
        intro K1 hK1
        rw [if_pos (by rfl)]
        try simp only [Act.put, List.setIfInBounds_toArray, List.set_cons_zero, List.set_cons_succ, List.getElem_toArray, List.getElem_cons_succ, List.getElem_cons_zero, Array.toArray_toList]
        go_simp
        refine (H6.out _).mono ?_
        rintro e1 v2 ⟨rfl, hb⟩
        refine hK1.out _ _ (hS.belowX hb) (fun hS2 => ?_)
        clear hK1 hS hb
        have hS := hS2
        clear hS2
        try simp only [Act.put, List.setIfInBounds_toArray, List.set_cons_zero, List.set_cons_succ, List.getElem_toArray, List.getElem_cons_succ, List.getElem_cons_zero, Array.toArray_toList]
        refine wpAnyH_take (i := 26) (v := ?_) rfl (by kernel_rfl) (by kernel_rfl) (by kernel_rfl) (fun _ _ _ h => h) (Or.inl ⟨by rfl, ?_⟩) hS ?_
        rotate_left 1
        · intro W hW
          clear hW
          go_simp
          all_goals with_reducible rfl
        try simp only [Act.put, List.setIfInBounds_toArray, List.set_cons_zero, List.set_cons_succ, List.getElem_toArray, List.getElem_cons_succ, List.getElem_cons_zero, Array.toArray_toList]
        refine wpAnyH_take (i := 27) (v := ?_) rfl (by kernel_rfl) (by kernel_rfl) (by kernel_rfl) (fun _ _ _ h => h) (Or.inl ⟨by rfl, ?_⟩) hS ?_
        rotate_left 1
        · intro W hW
          clear hW
          go_simp
          all_goals with_reducible rfl
        try simp only [Act.put, List.setIfInBounds_toArray, List.set_cons_zero, List.set_cons_succ, List.getElem_toArray, List.getElem_cons_succ, List.getElem_cons_zero, Array.toArray_toList]
        refine wpAnyH_take (i := 28) (v := ?_) rfl (by kernel_rfl) (by kernel_rfl) (by kernel_rfl) (fun _ _ _ h => h) (Or.inl ⟨by rfl, ?_⟩) hS ?_
        rotate_left 1
        · intro W hW
          clear hW
          go_simp
          all_goals with_reducible rfl
        try simp only [Act.put, List.setIfInBounds_toArray, List.set_cons_zero, List.set_cons_succ, List.getElem_toArray, List.getElem_cons_succ, List.getElem_cons_zero, Array.toArray_toList]
        refine wpAnyH_done (by kernel_rfl) ?_ _
        have hbl := hS.u.1.below
        clear hS
        go_wp2_with fail
        go_returns
        exact ⟨rfl, hbl⟩
end Go.Proofs.Ytmoafjgogbcoeaa
