/- charabancref23.Tick by its contract. -/
import Derived.Test.YtmoafjgogbcoeaaCtcTickC
import Derived.Test.YtmoafjgogbcoeaaCtcRef2
import Derived.Test.YtmoafjgogbcoeaaCtcAck
namespace Go.Proofs.Ytmoafjgogbcoeaa
open Go.RowKit
set_option linter.unusedVariables false
set_option linter.unusedSimpArgs false
set_option maxRecDepth 100000
theorem TI.belowX {w X W : World} {H : Nat} {c : M.Ct} {e o : M.E4} (h : TI w X H c e o) (hb : Below X.heap.size X W) : TI w W H c e o :=
  have hs := h.size
  ⟨h.box.belowX hb, range_below h.edges hb (by omega), range_below h.out hb (by omega), there_belowA h.outf hb (by omega), there_belowA h.res1 hb (by omega), there_belowA h.res2 hb (by omega), Nat.le_trans hs hb.size, h.below.trans (hb.mono (by omega))⟩
theorem TI.alloc {w X : World} {H : Nat} {c : M.Ct} {e o : M.E4} (h : TI w X H c e o) (ob : Obj) : TI w (X.alloc ob) H c e o := h.belowX ((Below.refl _ _).alloc (Nat.le_refl _) ob)
theorem TI.other {w W : World} {H b : Nat} {c : M.Ct} {e o : M.E4} (h : TI w W H c e o) (hb : H + 5 ≤ b) (vs : List Value) : TI w (W.setCells b 0 vs) H c e o :=
  have hs := h.size
  have ht := touch_setCells W b 0 vs
  ⟨h.box.touch ht (by omega), ht.range (by omega) h.edges (.inl (by omega)), ht.range (by omega) h.out (.inl (by omega)), World.there_setCells h.outf _ _ _, World.there_setCells h.res1 _ _ _, World.there_setCells h.res2 _ _ _,
   Nat.le_trans hs ht.size, ht.below _ _ (by omega) (by omega) h.below⟩
set_option maxHeartbeats 4000000 in
theorem rtick_all (c : M.Ct) (hc : c.ok) (e : M.E4) (w : World) : Calls Try.prog 37 #[.agg c.a, .agg e.a] w fun e' w' => e' = .returned (.tuple #[.agg (M.tickC c e).a, .agg (M.tickE c e).a]) ∧ Below w.heap.size w w' := by
  obtain ⟨Z, hZs, hZ'⟩ := zero51
  obtain ⟨Y, hYs, hY'⟩ := zero58
  have hZ := Lib.hid hZ'
  have hY := Lib.hid hY'
  have hYs' := Lib.hid hYs
  clear hZ' hY' hYs
  have hs0 := ct_size c
  have hs1 := e4_size e
  obtain ⟨Z8, hZ8s, hZ8'⟩ := zero48
  have hZ8 := Lib.hid hZ8'
  clear hZ8'
  have hmf : ∀ (fn : Fn) (first cap : Array Value) (w : World), (Instr.makeFunc fn first cap).run Try.prog w = .ok (.func fn first cap) w := fun _ _ _ _ => rfl
  go_enter Try.func37, Try.ntmps37
  go_wp2_with (first
    | ((with_reducible refine is_allocT 51 rfl ?_); refine wpList_alloc_row rfl _ rfl Z hZ.out ?_)
    | ((with_reducible refine is_allocT 58 rfl ?_); refine wpList_alloc_row rfl _ rfl Y hY.out ?_))
  have hstart : TI w (((((w.alloc (.cells c.a 51)).alloc (.cells e.a 58)).alloc (.cells Z 51)).alloc (.cells Y 58)).alloc (.cells Y 58)) w.heap.size c e ⟨false, false, false, false⟩ := by
    refine ⟨((((ct_new _ _ _).alloc _).alloc _).alloc _).alloc _, range_alloc (range_alloc (range_alloc (range_newB _ _ _ (by simp)) _) _) _, ?_, ?_, ?_, ?_, by simp, by go_grown⟩
    · rw [hYs'.out]; exact range_newB _ _ _ (by simp)
    · exact there_newB _ _ _ _ (by simp) (by rw [hYs'.out]; exact Nat.le_refl _)
    · exact there_allocA (there_allocA (there_newB _ _ _ _ (by simp) (by omega)) _) _
    · exact there_allocA (there_newB _ _ _ _ (by simp) (by rw [hYs'.out]; exact Nat.le_refl _)) _
  go_loopw [7] (fun i wr => ∃ k : Nat, k ≤ 4 ∧ i = .int .i64 k ∧ TI w wr w.heap.size (M.stepC c e k) e (M.stepE c e k)) (fun i _ => 4 - (intOf i).toNat)
  case atStart => exact ⟨0, Nat.zero_le _, rfl, hstart⟩
  case round =>
    clear hstart
    obtain ⟨k, hk, rfl, hI⟩ := hrel
    by_cases hlt : k < 4
    · have hlt' : (k : Int) < 4 := by omega
      have hlt0 : (0 : Int) ≤ (k : Int) := by omega
      have hB := hI.size
      have hkk : k * 8 = 8 * k := Nat.mul_comm _ _
      obtain ⟨C, hCd⟩ : ∃ C, C = M.stepC c e k := ⟨_, rfl⟩
      obtain ⟨O, hOd⟩ : ∃ O, O = M.stepE c e k := ⟨_, rfl⟩
      have hCok := stepC_ok (e := e) hc k
      rw [← hCd, ← hOd] at hI
      rw [← hCd] at hCok
      have hCD := Lib.hid hCd
      have hOD := Lib.hid hOd
      have hI0 := Lib.hid hI
      clear hCd hOd hI
      go_wp2_with fail
      refine wp_region_held_drew (S := fun W => TI w W w.heap.size C e O) (by kernel_rfl) hI0.out.drew ?_
      intro hS
      clear hI0
      refine wpAnyH_take (i := 0) (v := ?_) rfl (by kernel_rfl) (by kernel_rfl) (by kernel_rfl) (fun _ _ _ h => h) (Or.inl ⟨by rfl, ?_⟩) hS ?_
      rotate_left 1
      · intro W hW
        have hv := e4_cell hW.edges k hlt
        clear hW
        go_simp
        all_goals with_reducible rfl
      try simp only [Act.put, List.setIfInBounds_toArray, List.set_cons_zero, List.set_cons_succ, List.getElem_toArray, List.getElem_cons_succ, List.getElem_cons_zero]
      refine wpAnyH_take (i := 1) (v := ?_) rfl (by kernel_rfl) (by kernel_rfl) (by kernel_rfl) (fun _ _ _ h => h) (Or.inl ⟨by rfl, ?_⟩) hS ?_
      rotate_left 1
      · intro W hW
        have hv := e4_cell hW.edges k hlt
        clear hW
        go_simp
        all_goals with_reducible rfl
      try simp only [Act.put, List.setIfInBounds_toArray, List.set_cons_zero, List.set_cons_succ, List.getElem_toArray, List.getElem_cons_succ, List.getElem_cons_zero]
      refine wpAnyH_take (i := 2) (v := ?_) rfl (by kernel_rfl) (by kernel_rfl) (by kernel_rfl) (fun _ _ _ h => h) (Or.inl ⟨by rfl, ?_⟩) hS ?_
      rotate_left 1
      · intro W hW
        have hv := e4_cell hW.edges k hlt
        clear hW
        go_simp
        all_goals with_reducible rfl
      try simp only [Act.put, List.setIfInBounds_toArray, List.set_cons_zero, List.set_cons_succ, List.getElem_toArray, List.getElem_cons_succ, List.getElem_cons_zero]
      refine wpAnyH_take (i := 3) rfl (by kernel_rfl) (by kernel_rfl) (by kernel_rfl) (fun _ _ _ h => h) (yieldsIf_load_mid (by rfl) _ _ rfl _ _ rfl _ _ (fun W hW => ct_at hW.box.1 k hlt) Try.underlying48 rfl (info48c _)) hS ?_
      try simp only [Act.put, List.setIfInBounds_toArray, List.set_cons_zero, List.set_cons_succ, List.getElem_toArray, List.getElem_cons_succ, List.getElem_cons_zero]
      refine wpAnyH_take (i := 4) (v := ?_) rfl (by kernel_rfl) (by kernel_rfl) (by kernel_rfl) (fun _ _ _ h => h) (Or.inl ⟨by rfl, ?_⟩) hS ?_
      rotate_left 1
      · intro W hW
        have hv := e4_cell hW.edges k hlt
        clear hW
        go_simp
        all_goals with_reducible rfl
      try simp only [Act.put, List.setIfInBounds_toArray, List.set_cons_zero, List.set_cons_succ, List.getElem_toArray, List.getElem_cons_succ, List.getElem_cons_zero]
      refine wpAnyH_take (i := 5) (v := ?_) rfl (by kernel_rfl) (by kernel_rfl) (by kernel_rfl) (fun _ _ _ h => h) (Or.inl ⟨by rfl, ?_⟩) hS ?_
      rotate_left 1
      · intro W hW
        have hv := e4_cell hW.edges k hlt
        clear hW
        go_simp
        all_goals with_reducible rfl
      try simp only [Act.put, List.setIfInBounds_toArray, List.set_cons_zero, List.set_cons_succ, List.getElem_toArray, List.getElem_cons_succ, List.getElem_cons_zero]
      refine wpAnyH_take (i := 6) (v := ?_) rfl (by kernel_rfl) (by kernel_rfl) (by kernel_rfl) (fun _ _ _ h => h) (Or.inl ⟨by rfl, ?_⟩) hS ?_
      rotate_left 1
      · intro W hW
        have hv := e4_cell hW.edges k hlt
        clear hW
        go_simp
        all_goals with_reducible rfl
      try simp only [Act.put, List.setIfInBounds_toArray, List.set_cons_zero, List.set_cons_succ, List.getElem_toArray, List.getElem_cons_succ, List.getElem_cons_zero]
      have hX := ch_size (M.tickX (C.at k) (e.at k))
      obtain ⟨X, hXd⟩ : ∃ X, X = M.tickX (C.at k) (e.at k) := ⟨_, rfl⟩
      have hR := fun W => rtick_any (C.at k) (e.at k) (M.at_ok hCok k) W
      rw [← hXd] at hX
      simp only [← hXd] at hR
      obtain ⟨Zb, hZd⟩ : ∃ Zb, Zb = M.tickZ (C.at k) (e.at k) := ⟨_, rfl⟩
      simp only [← hZd] at hR
      have hXD := Lib.hid hXd
      have hZD := Lib.hid hZd
      have HR := Lib.hid hR
      clear hXd hZd hR
      refine wpAnyH_ready (rs := [7, 11]) (by kernel_rfl) (by simp) (AllReadyH.cons rfl ?_ (AllReadyH.cons rfl ?_ AllReadyH.nil))
      · intro K1 hK1
        rw [if_pos (by rfl)]
        try simp only [Act.put, List.setIfInBounds_toArray, List.set_cons_zero, List.set_cons_succ, List.getElem_toArray, List.getElem_cons_succ, List.getElem_cons_zero]
        go_simp
        refine (HR.out _).mono ?_
        rintro e1 w2 ⟨rfl, hb2⟩
        refine hK1.out _ _ (hS.belowX hb2) (fun hS2 => ?_)
        clear hK1 hS hb2
        have hS := hS2
        clear hS2
        try simp only [Act.put, List.setIfInBounds_toArray, List.set_cons_zero, List.set_cons_succ, List.getElem_toArray, List.getElem_cons_succ, List.getElem_cons_zero]
        refine wpAnyH_take (i := 8) (v := ?_) rfl (by kernel_rfl) (by kernel_rfl) (by kernel_rfl) (fun _ _ _ h => h) (Or.inl ⟨by rfl, ?_⟩) hS ?_
        rotate_left 1
        · intro W hW
          clear hW
          go_simp
          all_goals with_reducible rfl
        try simp only [Act.put, List.setIfInBounds_toArray, List.set_cons_zero, List.set_cons_succ, List.getElem_toArray, List.getElem_cons_succ, List.getElem_cons_zero]
        refine wpAnyH_take (i := 9) (v := ?_) rfl (by kernel_rfl) (by kernel_rfl) (by kernel_rfl) (fun _ _ _ h => h) (Or.inl ⟨by rfl, ?_⟩) hS ?_
        rotate_left 1
        · intro W hW
          clear hW
          go_simp
          all_goals with_reducible rfl
        try simp only [Act.put, List.setIfInBounds_toArray, List.set_cons_zero, List.set_cons_succ, List.getElem_toArray, List.getElem_cons_succ, List.getElem_cons_zero]
        refine wpAnyH_take (i := 10) (v := ?_) rfl (by kernel_rfl) (by kernel_rfl) (by kernel_rfl) (fun _ _ _ h => h) (Or.inl ⟨by rfl, ?_⟩) hS ?_
        rotate_left 1
        · intro W hW
          clear hW
          go_simp
          all_goals with_reducible rfl
        try simp only [Act.put, List.setIfInBounds_toArray, List.set_cons_zero, List.set_cons_succ, List.getElem_toArray, List.getElem_cons_succ, List.getElem_cons_zero]
        refine wpAnyH_ready (rs := [11]) (by kernel_rfl) (by simp) (AllReadyH.cons rfl ?_ AllReadyH.nil)
        intro K2 hK2
        rw [if_pos (by rfl)]
        try simp only [Act.put, List.setIfInBounds_toArray, List.set_cons_zero, List.set_cons_succ, List.getElem_toArray, List.getElem_cons_succ, List.getElem_cons_zero]
        refine wp_alloc_row _ rfl Z8 hZ8.out ?_
        try simp only [Act.put, List.setIfInBounds_toArray, List.set_cons_zero, List.set_cons_succ, List.getElem_toArray, List.getElem_cons_succ, List.getElem_cons_zero]
        have hth := there_newA w2 Z8 48 8 (by omega)
        have hbk : w.heap.size + 5 ≤ w2.heap.size := hS.size
        have hS2 := hS.alloc (.cells Z8 48)
        have hlw : w2.heap.size < (w2.alloc (.cells Z8 48)).heap.size := by simp
        refine hK2.out _ _ hS2 (fun hS3 => ?_)
        clear hK2 hS hS3
        generalize w2.alloc (.cells Z8 48) = W1 at hth hS2 hlw ⊢
        generalize w2.heap.size = b8 at hth hbk hlw ⊢
        refine wpAnyH_ready (rs := [12]) (by kernel_rfl) (by simp) (AllReadyH.cons rfl ?_ AllReadyH.nil)
        intro K3 hK3
        rw [if_pos (by rfl)]
        try simp only [Act.put, List.setIfInBounds_toArray, List.set_cons_zero, List.set_cons_succ, List.getElem_toArray, List.getElem_cons_succ, List.getElem_cons_zero]
        have r1 := World.rangeAt_setCells_same W1 b8 0 X.a.toList (by rw [Array.length_toList, hX]; exact hth)
        have hS5 := hS2.other hbk X.a.toList
        have hlw3 : b8 < (W1.setCells b8 0 X.a.toList).heap.size := Nat.lt_of_lt_of_le hlw (touch_setCells W1 b8 0 X.a.toList).size
        with_reducible refine wp_store_mid ?u01 ?u02 ?u03 ?u04 ?u05 ?u06 X.a ?u1 ?u2 ?u3 ?u4 ?u5 ?_
        case u04 => with_reducible rfl
        case u1 => rfl
        case u2 => rfl
        case u3 => (rw [hX]; exact hth)
        case u4 => exact info48c _
        case u5 => exact ch_one _
        try simp only [Act.put, List.setIfInBounds_toArray, List.set_cons_zero, List.set_cons_succ, List.getElem_toArray, List.getElem_cons_succ, List.getElem_cons_zero]
        refine hK3.out _ _ hS5 (fun hS => ?_)
        clear hK3 hS5 hS2 hth hlw
        generalize W1.setCells b8 0 X.a.toList = W2 at r1 hS hlw3 ⊢
        refine wpAnyH_take (i := 13) (v := ?_) rfl (by kernel_rfl) (by kernel_rfl) (by kernel_rfl) (fun _ _ _ h => h) (Or.inl ⟨by rfl, ?_⟩) hS ?_
        rotate_left 1
        · intro W hW
          clear hW
          go_simp
          all_goals with_reducible rfl
        try simp only [Act.put, List.setIfInBounds_toArray, List.set_cons_zero, List.set_cons_succ, List.getElem_toArray, List.getElem_cons_succ, List.getElem_cons_zero]
        refine wpAnyH_done (by kernel_rfl) ?_ _
        have hI2 := Lib.hid hS
        have q1 := Lib.hid r1
        clear hS r1
        go_wp2_with (first
          | ((with_reducible refine is_loadT 48 rfl ?_); refine wpList_load_row rfl _ _ rfl _ _ rfl _ Try.underlying48 rfl X.a q1.out (info48c _) ?_)
          | ((with_reducible refine is_storeT 48 rfl ?_); refine wpList_store_rowT rfl _ _ _ rfl _ (8 * k) X.a rfl rfl (by rw [hX]; exact there_of (ct_at hI2.out.box.1 k hlt) (hI2.out.box.2.1.part _ _ (by omega) (by omega)) (Nat.le_refl _)) (info48c _) (ch_one _) ?_; intro W3 hW3 hT3; rw [hX] at hT3; have hct := ct_turn hI2.out.box k hlt hW3 hT3; have hJ := hI2.out.tick hct.1 hct.2; have ce2 := e4_cell hJ.out k hlt; have cf2 := (hJ.outf k hlt).2; rw [Nat.zero_add] at cf2; have hK := hJ.set k hlt Zb; have hK' := Lib.hid hK; clear hK hJ hct hW3 hT3))
        go_round
        case rel => exact ⟨k + 1, by omega, by simp, by rw [show M.stepC c e (k + 1) = C.set X k by rw [hXD.out, hCD.out]; rfl, show M.stepE c e (k + 1) = O.set Zb k by rw [hZD.out, hOD.out, hCD.out]; rfl]; exact hK'.out⟩
        case measure => simp [intOf]; omega
      · intro K1 hK1
        rw [if_pos (by rfl)]
        try simp only [Act.put, List.setIfInBounds_toArray, List.set_cons_zero, List.set_cons_succ, List.getElem_toArray, List.getElem_cons_succ, List.getElem_cons_zero]
        refine wp_alloc_row _ rfl Z8 hZ8.out ?_
        try simp only [Act.put, List.setIfInBounds_toArray, List.set_cons_zero, List.set_cons_succ, List.getElem_toArray, List.getElem_cons_succ, List.getElem_cons_zero]
        have hth := there_newA wr.drew Z8 48 8 (by omega)
        have hbk : w.heap.size + 5 ≤ wr.drew.heap.size := hS.size
        have hS2 := hS.alloc (.cells Z8 48)
        have hlw : wr.drew.heap.size < (wr.drew.alloc (.cells Z8 48)).heap.size := by simp
        refine hK1.out _ _ hS2 (fun hS3 => ?_)
        clear hK1 hS hS3
        generalize wr.drew.alloc (.cells Z8 48) = W1 at hth hS2 hlw ⊢
        generalize wr.drew.heap.size = b8 at hth hbk hlw ⊢
        refine wpAnyH_ready (rs := [7]) (by kernel_rfl) (by simp) (AllReadyH.cons rfl ?_ AllReadyH.nil)
        intro K2 hK2
        rw [if_pos (by rfl)]
        try simp only [Act.put, List.setIfInBounds_toArray, List.set_cons_zero, List.set_cons_succ, List.getElem_toArray, List.getElem_cons_succ, List.getElem_cons_zero]
        go_simp
        refine (HR.out _).mono ?_
        rintro e1 w2 ⟨rfl, hb2⟩
        have hS4 := hS2.belowX hb2
        have hth2 := there_belowA hth hb2 hlw
        have hlw2 := Nat.lt_of_lt_of_le hlw hb2.size
        refine hK2.out _ _ hS4 (fun hS => ?_)
        clear hK2 hS4 hS2 hth hlw hb2
        try simp only [Act.put, List.setIfInBounds_toArray, List.set_cons_zero, List.set_cons_succ, List.getElem_toArray, List.getElem_cons_succ, List.getElem_cons_zero]
        refine wpAnyH_take (i := 8) (v := ?_) rfl (by kernel_rfl) (by kernel_rfl) (by kernel_rfl) (fun _ _ _ h => h) (Or.inl ⟨by rfl, ?_⟩) hS ?_
        rotate_left 1
        · intro W hW
          clear hW
          go_simp
          all_goals with_reducible rfl
        try simp only [Act.put, List.setIfInBounds_toArray, List.set_cons_zero, List.set_cons_succ, List.getElem_toArray, List.getElem_cons_succ, List.getElem_cons_zero]
        refine wpAnyH_take (i := 9) (v := ?_) rfl (by kernel_rfl) (by kernel_rfl) (by kernel_rfl) (fun _ _ _ h => h) (Or.inl ⟨by rfl, ?_⟩) hS ?_
        rotate_left 1
        · intro W hW
          clear hW
          go_simp
          all_goals with_reducible rfl
        try simp only [Act.put, List.setIfInBounds_toArray, List.set_cons_zero, List.set_cons_succ, List.getElem_toArray, List.getElem_cons_succ, List.getElem_cons_zero]
        refine wpAnyH_take (i := 10) (v := ?_) rfl (by kernel_rfl) (by kernel_rfl) (by kernel_rfl) (fun _ _ _ h => h) (Or.inl ⟨by rfl, ?_⟩) hS ?_
        rotate_left 1
        · intro W hW
          clear hW
          go_simp
          all_goals with_reducible rfl
        try simp only [Act.put, List.setIfInBounds_toArray, List.set_cons_zero, List.set_cons_succ, List.getElem_toArray, List.getElem_cons_succ, List.getElem_cons_zero]
        have hS2 := hS
        have hth := hth2
        have hlw := hlw2
        clear hS hth2 hlw2
        generalize w2 = W1 at hth hS2 hlw ⊢
        refine wpAnyH_ready (rs := [12]) (by kernel_rfl) (by simp) (AllReadyH.cons rfl ?_ AllReadyH.nil)
        intro K3 hK3
        rw [if_pos (by rfl)]
        try simp only [Act.put, List.setIfInBounds_toArray, List.set_cons_zero, List.set_cons_succ, List.getElem_toArray, List.getElem_cons_succ, List.getElem_cons_zero]
        have r1 := World.rangeAt_setCells_same W1 b8 0 X.a.toList (by rw [Array.length_toList, hX]; exact hth)
        have hS5 := hS2.other hbk X.a.toList
        have hlw3 : b8 < (W1.setCells b8 0 X.a.toList).heap.size := Nat.lt_of_lt_of_le hlw (touch_setCells W1 b8 0 X.a.toList).size
        with_reducible refine wp_store_mid ?v01 ?v02 ?v03 ?v04 ?v05 ?v06 X.a ?v1 ?v2 ?v3 ?v4 ?v5 ?_
        case v04 => with_reducible rfl
        case v1 => rfl
        case v2 => rfl
        case v3 => (rw [hX]; exact hth)
        case v4 => exact info48c _
        case v5 => exact ch_one _
        try simp only [Act.put, List.setIfInBounds_toArray, List.set_cons_zero, List.set_cons_succ, List.getElem_toArray, List.getElem_cons_succ, List.getElem_cons_zero]
        refine hK3.out _ _ hS5 (fun hS => ?_)
        clear hK3 hS5 hS2 hth hlw
        generalize W1.setCells b8 0 X.a.toList = W2 at r1 hS hlw3 ⊢
        refine wpAnyH_take (i := 13) (v := ?_) rfl (by kernel_rfl) (by kernel_rfl) (by kernel_rfl) (fun _ _ _ h => h) (Or.inl ⟨by rfl, ?_⟩) hS ?_
        rotate_left 1
        · intro W hW
          clear hW
          go_simp
          all_goals with_reducible rfl
        try simp only [Act.put, List.setIfInBounds_toArray, List.set_cons_zero, List.set_cons_succ, List.getElem_toArray, List.getElem_cons_succ, List.getElem_cons_zero]
        refine wpAnyH_done (by kernel_rfl) ?_ _
        have hI2 := Lib.hid hS
        have q1 := Lib.hid r1
        clear hS r1
        go_wp2_with (first
          | ((with_reducible refine is_loadT 48 rfl ?_); refine wpList_load_row rfl _ _ rfl _ _ rfl _ Try.underlying48 rfl X.a q1.out (info48c _) ?_)
          | ((with_reducible refine is_storeT 48 rfl ?_); refine wpList_store_rowT rfl _ _ _ rfl _ (8 * k) X.a rfl rfl (by rw [hX]; exact there_of (ct_at hI2.out.box.1 k hlt) (hI2.out.box.2.1.part _ _ (by omega) (by omega)) (Nat.le_refl _)) (info48c _) (ch_one _) ?_; intro W3 hW3 hT3; rw [hX] at hT3; have hct := ct_turn hI2.out.box k hlt hW3 hT3; have hJ := hI2.out.tick hct.1 hct.2; have ce2 := e4_cell hJ.out k hlt; have cf2 := (hJ.outf k hlt).2; rw [Nat.zero_add] at cf2; have hK := hJ.set k hlt Zb; have hK' := Lib.hid hK; clear hK hJ hct hW3 hT3))
        go_round
        case rel => exact ⟨k + 1, by omega, by simp, by rw [show M.stepC c e (k + 1) = C.set X k by rw [hXD.out, hCD.out]; rfl, show M.stepE c e (k + 1) = O.set Zb k by rw [hZD.out, hOD.out, hCD.out]; rfl]; exact hK'.out⟩
        case measure => simp [intOf]; omega
    · have : k = 4 := by omega
      subst this
      rw [stepC_four, stepE_four] at hI
      obtain ⟨C, hC⟩ : ∃ C, C = M.tickC c e := ⟨_, rfl⟩
      obtain ⟨E, hE⟩ : ∃ E, E = M.tickE c e := ⟨_, rfl⟩
      rw [← hC, ← hE] at hI
      have hC' := Lib.hid hC
      have hE' := Lib.hid hE
      clear hC hE
      have hI' := Lib.hid hI
      have hB := hI.size
      clear hI
      go_wp2_with fail
      refine wp_region_held_drew (S := fun W => TI w W w.heap.size C e E) (by kernel_rfl) hI'.out.drew ?_
      intro hS
      refine wpAnyH_take (i := 0) rfl (by kernel_rfl) (by kernel_rfl) (by kernel_rfl) (fun _ _ _ h => h) (yieldsIf_load_mid (by rfl) _ _ rfl _ _ rfl _ _ (fun W hW => hW.box.1) Try.underlying51 rfl (info51c _)) hS ?_
      try simp only [Act.put, List.setIfInBounds_toArray, List.set_cons_zero, List.set_cons_succ, List.getElem_toArray, List.getElem_cons_succ, List.getElem_cons_zero]
      refine wpAnyH_take (i := 1) rfl (by kernel_rfl) (by kernel_rfl) (by kernel_rfl) (fun _ _ _ h => h) (yieldsIf_load_mid (by rfl) _ _ rfl _ _ rfl _ _ (fun W hW => hW.out) Try.underlying58 rfl (info58c _)) hS ?_
      try simp only [Act.put, List.setIfInBounds_toArray, List.set_cons_zero, List.set_cons_succ, List.getElem_toArray, List.getElem_cons_succ, List.getElem_cons_zero]
      refine wpAnyH_ready (rs := [2]) (by kernel_rfl) (by simp) (AllReadyH.cons rfl ?_ AllReadyH.nil)
      intro K1 hK1
      rw [if_pos (by rfl)]
      try simp only [Act.put, List.setIfInBounds_toArray, List.set_cons_zero, List.set_cons_succ, List.getElem_toArray, List.getElem_cons_succ, List.getElem_cons_zero]
      with_reducible refine wp_store_mid ?g01 ?g02 ?g03 ?g04 ?g05 ?g06 C.a ?g1 ?g2 ?g3 ?g4 ?g5 ?_
      case g04 => with_reducible rfl
      case g1 => rfl
      case g2 => rfl
      case g3 => (rw [ct_size]; exact hS.res1)
      case g4 => exact info51c _
      case g5 => exact ct_one _
      try simp only [Act.put, List.setIfInBounds_toArray, List.set_cons_zero, List.set_cons_succ, List.getElem_toArray, List.getElem_cons_succ, List.getElem_cons_zero]
      refine hK1.out _ _ (hS.store (.inl rfl) _) (fun hS1 => ?_)
      refine wpAnyH_ready (rs := [3]) (by kernel_rfl) (by simp) (AllReadyH.cons rfl ?_ AllReadyH.nil)
      intro K2 hK2
      rw [if_pos (by rfl)]
      try simp only [Act.put, List.setIfInBounds_toArray, List.set_cons_zero, List.set_cons_succ, List.getElem_toArray, List.getElem_cons_succ, List.getElem_cons_zero]
      generalize hWW : wr.drew.setCells (w.heap.size + 1 + 1) 0 C.a.toList = WW at hS1 ⊢
      with_reducible refine wp_store_mid ?e01 ?e02 ?e03 ?e04 ?e05 ?e06 E.a ?e1 ?e2 ?e3 ?e4 ?e5 ?_
      case e04 => with_reducible rfl
      case e1 => rfl
      case e2 => rfl
      case e3 => (rw [e4_size]; exact hS1.res2)
      case e4 => exact info58c _
      case e5 => exact e4_one _
      try simp only [Act.put, List.setIfInBounds_toArray, List.set_cons_zero, List.set_cons_succ, List.getElem_toArray, List.getElem_cons_succ, List.getElem_cons_zero]
      refine hK2.out _ _ (hS1.store (.inr rfl) _) (fun hS2 => ?_)
      refine wpAnyH_done (by kernel_rfl) ?_ _
      try simp only [Act.put, List.setIfInBounds_toArray, List.set_cons_zero, List.set_cons_succ, List.getElem_toArray, List.getElem_cons_succ, List.getElem_cons_zero]
      subst hWW
      have r1 := World.rangeAt_setCells_same _ _ _ C.a.toList (by rw [Array.length_toList, ct_size]; exact hS.res1)
      have r2 := World.rangeAt_setCells_apart r1 (w.heap.size + 1 + 1 + 1) 0 E.a.toList (.inl (by omega))
      have r3 := World.rangeAt_setCells_same _ _ _ E.a.toList (by rw [Array.length_toList, e4_size]; exact hS1.res2)
      have r4 := hS2.below
      clear hS hS1 hS2 r1 hK1 hK2 hI'
      generalize (wr.drew.setCells (w.heap.size + 1 + 1) 0 C.a.toList).setCells (w.heap.size + 1 + 1 + 1) 0 E.a.toList = W2 at r2 r3 r4 ⊢
      have q2 := Lib.hid r2
      have q3 := Lib.hid r3
      clear r2 r3
      go_wp2_with fail
      refine bodyPost_ret (results_row_row rfl _ _ _ _ C.a _ rfl q2.out Try.underlying51 rfl (info51c _) _ _ E.a _ rfl q3.out Try.underlying58 rfl (info58c _)) rfl ?_
      exact ⟨by rw [hC'.out, hE'.out], r4⟩
end Go.Proofs.Ytmoafjgogbcoeaa
