/- ctc.Ack and charabancref23.Ack, each by its contract. -/
import Derived.Test.YtmoafjgogbcoeaaCtcPend
import Derived.Deep.RegionHeld3
namespace Go.Proofs.Ytmoafjgogbcoeaa
open Go.RowKit
set_option linter.unusedVariables false
set_option linter.unusedSimpArgs false
set_option maxRecDepth 100000

theorem CtAt.belowX {X W : World} {B : Nat} {c : M.Ct} (h : CtAt X B c) (hb : Below X.heap.size X W) : CtAt W B c :=
  ⟨range_below h.1 hb h.2.2, fun j hj => by rw [hb.frozen (p := ⟨B, 0 + j, none⟩) h.2.2]; exact h.2.1 j hj, Nat.lt_of_lt_of_le h.2.2 hb.size⟩
theorem ct_unpend {W : World} {B : Nat} {c : M.Ct} (h : CtAt W B c) (k : Nat) (hk : k < 4) : CtAt (W.setCell ⟨B, 8 * k + 7, none⟩ (.bool false)) B (c.set { c.at k with pend := false } k) := by
  have ht := (Touch.refl B (8 * k) 8 W).setCell (8 * k + 7) (by omega) (by omega) (.bool false)
  refine (ct_turn h k hk ?_ ht).1
  obtain ⟨c0, c1, c2, c3, c4, c5, c6, c7⟩ := ch_cells (ct_at h.1 k hk)
  exact ch_range (by go_cell) (by go_cell) (by go_cell) (by go_cell) (by go_cell) (by go_cell) (by go_cell) (by go_cell)
/-- What stands when the last region of Ack begins. -/
structure AI (w W : World) (H : Nat) (c : M.Ct) : Prop where
  box : CtAt W H c
  vec : W.cell? ⟨H, 32, none⟩ = some (.int .u8 c.vec)
  res : W.there (H + 1) 0 33
  size : H + 2 ≤ W.heap.size
  below : Below H w W
theorem AI.mk' {w W : World} {H : Nat} {c : M.Ct} (h : CtAt W H c) (hr : W.there (H + 1) 0 33) (hs : H + 2 ≤ W.heap.size) (hb : Below H w W) : AI w W H c := ⟨h, h.pend.2.2.2.2, hr, hs, hb⟩
theorem AI.drew {w W : World} {H : Nat} {c : M.Ct} (h : AI w W H c) : AI w W.drew H c := AI.mk' h.box.drew (there_drewA h.res) h.size h.below.drew
theorem AI.store {w W : World} {H : Nat} {c : M.Ct} (h : AI w W H c) (vs : List Value) : AI w (W.setCells (H + 1) 0 vs) H c :=
  have hs := h.size
  have ht := touch_setCells W (H + 1) 0 vs
  AI.mk' (h.box.touch ht (by omega)) (World.there_setCells h.res _ _ _) (Nat.le_trans hs ht.size) (ht.below _ _ (by omega) (by omega) h.below)
theorem cack_none (c : M.Ct) (hp : M.pendC c = -1) (w : World) : Calls Try.prog 38 #[.agg c.a] w fun e w' => e = .returned (.tuple #[.agg c.a, .int .u8 255]) ∧ Below w.heap.size w w' := by
  have hs := ct_size c
  obtain ⟨Z, hZs, hZ'⟩ := zero47
  have hZ := Lib.hid hZ'
  clear hZ'
  have hC := fun W => cpend_any c W
  simp only [hp] at hC
  have HC := Lib.hid hC
  clear hC hp
  go_enter Try.func38, Try.ntmps38
  go_wp2_with (first
    | ((with_reducible refine is_allocT 47 rfl ?_); refine wpList_alloc_row rfl _ rfl Z hZ.out ?_)
    | ((with_reducible refine is_loadT 47 rfl ?_); refine wpList_load_row rfl _ _ rfl _ _ rfl _ Try.underlying47 rfl c.a (range_alloc (range_newA _ _ _) _) (info47c _) ?_))
  refine (HC.out _).mono ?_
  rintro e w1 ⟨rfl, hb1⟩
  have hz1 := hb1.size
  simp at hz1
  go_wp2_with (first
    | ((with_reducible refine is_loadT 47 rfl ?_); refine wpList_load_row rfl _ _ rfl _ _ rfl _ Try.underlying47 rfl c.a (range_below (range_alloc (range_newA _ _ _) _) hb1 (by go_size)) (info47c _) ?_)
    | ((with_reducible refine is_storeT 47 rfl ?_); refine wpList_store_rowT rfl _ _ _ rfl _ _ c.a rfl rfl (there_belowA (there_newB _ _ _ _ (by simp) (by rw [ct_size]; omega)) hb1 (by simp)) (info47c _) (ct_one _) ?_; intro W hW hT))
  refine bodyPost_ret (results_row_tmp rfl _ _ _ _ _ _ rfl hW Try.underlying47 rfl (info47c _)) rfl ?_
  exact ⟨rfl, hT.below _ _ (by omega) (by omega) (Below.trans (by go_grown) (hb1.mono (by simp; omega)))⟩
set_option maxHeartbeats 2000000 in
theorem cack_some (c : M.Ct) (hc : c.ok) (k : Nat) (hk : k < 4) (hp : M.pendC c = k) (w : World) : Calls Try.prog 38 #[.agg c.a] w fun e w' =>
    e = .returned (.tuple #[.agg (c.set { c.at k with pend := false } k).a, .int .u8 ((c.vec + 2 * k) % 256)]) ∧ Below w.heap.size w w' := by
  have hs := ct_size c
  have hvk : (c.set { c.at k with pend := false } k).vec = c.vec := by
    rcases (show k = 0 ∨ k = 1 ∨ k = 2 ∨ k = 3 by omega) with rfl | rfl | rfl | rfl <;> rfl
  obtain ⟨Z, hZs, hZ'⟩ := zero47
  have hZ := Lib.hid hZ'
  clear hZ'
  have hC := fun W => cpend_any c W
  simp only [hp] at hC
  have HC := Lib.hid hC
  clear hC hp
  obtain ⟨C, hCd⟩ : ∃ C, C = c.set { c.at k with pend := false } k := ⟨_, rfl⟩
  rw [← hCd] at hvk ⊢
  have hCD := Lib.hid hCd
  have hVK := Lib.hid hvk
  clear hCd hvk
  rcases (show k = 0 ∨ k = 1 ∨ k = 2 ∨ k = 3 by omega) with rfl | rfl | rfl | rfl
  all_goals
      go_enter Try.func38, Try.ntmps38
      go_wp2_with (first
        | ((with_reducible refine is_allocT 47 rfl ?_); refine wpList_alloc_row rfl _ rfl Z hZ.out ?_)
        | ((with_reducible refine is_loadT 47 rfl ?_); refine wpList_load_row rfl _ _ rfl _ _ rfl _ Try.underlying47 rfl c.a (range_alloc (range_newA _ _ _) _) (info47c _) ?_))
      refine (HC.out _).mono ?_
      rintro e w1 ⟨rfl, hb1⟩
      have hz1 := hb1.size
      simp at hz1
      have hct := CtAt.belowX ((ct_new w c 47).alloc _) hb1
      have hth := there_belowA (there_newB (b := w.heap.size + 1) _ _ _ 33 (by simp) (by omega)) hb1 (by simp)
      have hbb : Below w.heap.size w w1 := Below.trans (by go_grown) (hb1.mono (by simp; omega))
      obtain ⟨p0, p1, p2, p3, pv⟩ := hct.pend
      have hfr := ch_free (hct.2.1.part 0 8 (by omega) (by omega))
      have hfr1 := ch_free (hct.2.1.part 8 8 (by omega) (by omega))
      have hfr2 := ch_free (hct.2.1.part 16 8 (by omega) (by omega))
      have hfr3 := ch_free (hct.2.1.part 24 8 (by omega) (by omega))
      have f0 := hfr.2.2.2.2.2.2.2
      have f1 := hfr1.2.2.2.2.2.2.2
      have f2 := hfr2.2.2.2.2.2.2.2
      have f3 := hfr3.2.2.2.2.2.2.2
      have hcu := ct_unpend hct _ hk
      rw [← hCD.out] at hcu
      have hun := Lib.hid (AI.mk' hcu (there_set hth _ _) (by simp; omega) (hbb.setCell (p := ⟨w.heap.size, _, none⟩) (Nat.le_refl _) _))
      clear hfr hfr1 hfr2 hfr3 hct hth hb1 hbb hcu
      simp only [Nat.reduceAdd, Nat.reduceMul, Nat.zero_add, Nat.mul_zero] at f0 f1 f2 f3
      go_wp2_with fail
      clear p0 p1 p2 p3 pv f0 f1 f2 f3
      refine wp_region_held_drew (S := fun W => AI w W w.heap.size C) (by kernel_rfl) hun.out.drew ?_
      intro hS
      clear hun
      refine wpAnyH_take (i := 0) rfl (by kernel_rfl) (by kernel_rfl) (by kernel_rfl) (fun _ _ _ h => h) (yieldsIf_load_mid (by rfl) _ _ rfl _ _ rfl _ _ (fun W hW => hW.box.1) Try.underlying47 rfl (info47c _)) hS ?_
      try simp only [Act.put, List.setIfInBounds_toArray, List.set_cons_zero, List.set_cons_succ, List.getElem_toArray, List.getElem_cons_succ, List.getElem_cons_zero]
      refine wpAnyH_take (i := 1) (v := ?_) rfl (by kernel_rfl) (by kernel_rfl) (by kernel_rfl) (fun _ _ _ h => h) (Or.inl ⟨by rfl, ?_⟩) hS ?_
      rotate_left 1
      · intro W hW
        have hv := hW.vec
        clear hW
        go_simp
        all_goals with_reducible rfl
      try simp only [Act.put, List.setIfInBounds_toArray, List.set_cons_zero, List.set_cons_succ, List.getElem_toArray, List.getElem_cons_succ, List.getElem_cons_zero]
      refine wpAnyH_take (i := 2) (v := ?_) rfl (by kernel_rfl) (by kernel_rfl) (by kernel_rfl) (fun _ _ _ h => h) (Or.inl ⟨by rfl, ?_⟩) hS ?_
      rotate_left 1
      · intro W hW
        have hv := hW.vec
        clear hW
        go_simp
        all_goals with_reducible rfl
      try simp only [Act.put, List.setIfInBounds_toArray, List.set_cons_zero, List.set_cons_succ, List.getElem_toArray, List.getElem_cons_succ, List.getElem_cons_zero]
      refine wpAnyH_take (i := 3) (v := ?_) rfl (by kernel_rfl) (by kernel_rfl) (by kernel_rfl) (fun _ _ _ h => h) (Or.inl ⟨by rfl, ?_⟩) hS ?_
      rotate_left 1
      · intro W hW
        have hv := hW.vec
        clear hW
        go_simp
        all_goals with_reducible rfl
      try simp only [Act.put, List.setIfInBounds_toArray, List.set_cons_zero, List.set_cons_succ, List.getElem_toArray, List.getElem_cons_succ, List.getElem_cons_zero]
      refine wpAnyH_take (i := 4) (v := ?_) rfl (by kernel_rfl) (by kernel_rfl) (by kernel_rfl) (fun _ _ _ h => h) (Or.inl ⟨by rfl, ?_⟩) hS ?_
      rotate_left 1
      · intro W hW
        have hv := hW.vec
        clear hW
        go_simp
        all_goals with_reducible rfl
      try simp only [Act.put, List.setIfInBounds_toArray, List.set_cons_zero, List.set_cons_succ, List.getElem_toArray, List.getElem_cons_succ, List.getElem_cons_zero]
      refine wpAnyH_take (i := 5) (v := ?_) rfl (by kernel_rfl) (by kernel_rfl) (by kernel_rfl) (fun _ _ _ h => h) (Or.inl ⟨by rfl, ?_⟩) hS ?_
      rotate_left 1
      · intro W hW
        have hv := hW.vec
        clear hW
        go_simp
        all_goals with_reducible rfl
      try simp only [Act.put, List.setIfInBounds_toArray, List.set_cons_zero, List.set_cons_succ, List.getElem_toArray, List.getElem_cons_succ, List.getElem_cons_zero]
      refine wpAnyH_take (i := 6) (v := ?_) rfl (by kernel_rfl) (by kernel_rfl) (by kernel_rfl) (fun _ _ _ h => h) (Or.inl ⟨by rfl, ?_⟩) hS ?_
      rotate_left 1
      · intro W hW
        have hv := hW.vec
        clear hW
        go_simp
        all_goals with_reducible rfl
      try simp only [Act.put, List.setIfInBounds_toArray, List.set_cons_zero, List.set_cons_succ, List.getElem_toArray, List.getElem_cons_succ, List.getElem_cons_zero]
      refine wpAnyH_ready (rs := [7]) (by kernel_rfl) (by simp) (AllReadyH.cons rfl ?_ AllReadyH.nil)
      intro K1 hK1
      rw [if_pos (by rfl)]
      try simp only [Act.put, List.setIfInBounds_toArray, List.set_cons_zero, List.set_cons_succ, List.getElem_toArray, List.getElem_cons_succ, List.getElem_cons_zero]
      have hth := hS.res
      have hst := hS.store C.a.toList
      have r1 := World.rangeAt_setCells_same _ _ _ C.a.toList (by rw [Array.length_toList, ct_size]; exact hth)
      generalize (w1.setCell _ _).drew = W1 at hS hth hst r1 ⊢
      with_reducible refine wp_store_mid ?g01 ?g02 ?g03 ?g04 ?g05 ?g06 C.a ?g1 ?g2 ?g3 ?g4 ?g5 ?_
      case g04 => with_reducible rfl
      case g1 => rfl
      case g2 => rfl
      case g3 => (rw [ct_size]; exact hth)
      case g4 => exact info47c _
      case g5 => exact ct_one _
      try simp only [Act.put, List.setIfInBounds_toArray, List.set_cons_zero, List.set_cons_succ, List.getElem_toArray, List.getElem_cons_succ, List.getElem_cons_zero]
      refine hK1.out _ _ hst (fun hS => ?_)
      clear hst hth
      generalize W1.setCells (w.heap.size + 1) 0 C.a.toList = W2 at hS r1 ⊢
      refine wpAnyH_take (i := 8) (v := ?_) rfl (by kernel_rfl) (by kernel_rfl) (by kernel_rfl) (fun _ _ _ h => h) (Or.inl ⟨by rfl, ?_⟩) hS ?_
      rotate_left 1
      · intro W hW
        have hv := hW.vec
        clear hW
        go_simp
        all_goals with_reducible rfl
      try simp only [Act.put, List.setIfInBounds_toArray, List.set_cons_zero, List.set_cons_succ, List.getElem_toArray, List.getElem_cons_succ, List.getElem_cons_zero]
      refine wpAnyH_done (by kernel_rfl) ?_ _
      have r4 := hS.below
      have q1 := Lib.hid r1
      clear hS r1 hK1
      go_wp2_with fail
      refine bodyPost_ret (results_row_tmp rfl _ _ _ _ C.a _ rfl q1.out Try.underlying47 rfl (info47c _)) rfl ?_
      refine ⟨?_, r4⟩
      show Ending.returned (.tuple #[.agg C.a, .int .u8 _]) = _
      rw [hVK.out]
      rfl
theorem cack_any (c : M.Ct) (hc : c.ok) (w : World) : Calls Try.prog 38 #[.agg c.a] w fun e w' => e = .returned (.tuple #[.agg (M.ackC c).a, .int .u8 (M.ackV c)]) ∧ Below w.heap.size w w' := by
  have hp : M.pendC c = if c.c0.pend then 0 else if c.c1.pend then 1 else if c.c2.pend then 2 else if c.c3.pend then 3 else -1 := rfl
  unfold M.ackC M.ackV
  cases h0 : c.c0.pend with
  | true => simpa [M.Ct.set, M.Ct.at] using cack_some c hc 0 (by omega) (by simp [hp, h0]) w
  | false =>
    cases h1 : c.c1.pend with
    | true => simpa [M.Ct.set, M.Ct.at] using cack_some c hc 1 (by omega) (by simp [hp, h0, h1]) w
    | false =>
      cases h2 : c.c2.pend with
      | true => simpa [M.Ct.set, M.Ct.at] using cack_some c hc 2 (by omega) (by simp [hp, h0, h1, h2]) w
      | false =>
        cases h3 : c.c3.pend with
        | true => simpa [M.Ct.set, M.Ct.at] using cack_some c hc 3 (by omega) (by simp [hp, h0, h1, h2, h3]) w
        | false => simpa using cack_none c (by simp [hp, h0, h1, h2, h3]) w
end Go.Proofs.Ytmoafjgogbcoeaa
