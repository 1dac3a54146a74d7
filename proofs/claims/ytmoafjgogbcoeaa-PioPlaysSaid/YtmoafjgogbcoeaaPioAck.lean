/- pio.Ack and charabancref24.Ack, each by its contract. -/
import Derived.Test.YtmoafjgogbcoeaaPioPend
import Derived.Deep.RegionHeld3
namespace Go.Proofs.Ytmoafjgogbcoeaa
open Go.RowKit
set_option linter.unusedVariables false
set_option linter.unusedSimpArgs false
set_option maxRecDepth 100000

theorem PiAt.touch {w w' : World} {B b o n : Nat} {p : M.Pi2} (h : PiAt w B p) (ht : Touch b o n w w') (hd : B ≠ b) : PiAt w' B p :=
  ⟨ht.range h.2.2 h.1 (.inl hd), h.2.1.touch ht h.2.2, Nat.lt_of_lt_of_le h.2.2 ht.size⟩
theorem PiAt.turned {W : World} {B : Nat} {p : M.Pi2} (h : PiAt W B p) (k j : Nat) (hk : k < 2) (hj : j < 11) (v : Value) (x : M.Po) (hx : x.v = (p.at k).v.set j v) : PiAt (W.setCell ⟨B, 11 * k + j, none⟩ v) B (p.set x k) := by
  have ht := (Touch.refl B (11 * k) 11 W).setCell (11 * k + j) (by omega) (by omega) v
  refine (pi_turn h k hk ?_ ht).1
  have hr := pi_at h.1 k hk
  rw [hx]
  intro i u hu
  have hl : (p.at k).v.length = 11 := rfl
  by_cases e : i = j
  · subst e
    rw [List.getElem?_set_self (by omega)] at hu
    cases hu
    exact World.cell?_setCell_same _ _ _ (hr i _ (List.getElem?_eq_getElem (by omega)))
  · rw [List.getElem?_set_ne (fun h => e h.symm)] at hu
    rw [World.cell?_setCell_other _ _ _ _ (by intro h; simp at h; all_goals omega)]
    exact hr i u hu
/-- What stands when a last region of Ack, of Read begins. -/
structure PAI (w W : World) (H : Nat) (p : M.Pi2) : Prop where
  box : PiAt W H p
  res : W.there (H + 1) 0 22
  size : H + 2 ≤ W.heap.size
  below : Below H w W
theorem PAI.cells {w W : World} {H : Nat} {p : M.Pi2} (h : PAI w W H p) : (W.cell? ⟨H, 1, none⟩ = some (.int .u8 p.p0.out) ∧ W.cell? ⟨H, 2, none⟩ = some (.int .u8 p.p0.inn) ∧ W.cell? ⟨H, 3, none⟩ = some (.int .u8 p.p0.dir) ∧ W.cell? ⟨H, 4, none⟩ = some (.int .u8 p.p0.vec))
    ∧ (W.cell? ⟨H, 12, none⟩ = some (.int .u8 p.p1.out) ∧ W.cell? ⟨H, 13, none⟩ = some (.int .u8 p.p1.inn) ∧ W.cell? ⟨H, 14, none⟩ = some (.int .u8 p.p1.dir) ∧ W.cell? ⟨H, 15, none⟩ = some (.int .u8 p.p1.vec)) := by
  obtain ⟨h0, h1⟩ := pi_ranges h.box.1
  have k0 := fun j v hv => h0 j v hv
  simp only [Nat.zero_add] at k0
  exact ⟨⟨k0 1 _ rfl, k0 2 _ rfl, k0 3 _ rfl, k0 4 _ rfl⟩, ⟨h1 1 _ rfl, h1 2 _ rfl, h1 3 _ rfl, h1 4 _ rfl⟩⟩
theorem PAI.drew {w W : World} {H : Nat} {p : M.Pi2} (h : PAI w W H p) : PAI w W.drew H p := ⟨h.box.drew, there_drewA h.res, h.size, h.below.drew⟩
theorem PAI.store {w W : World} {H : Nat} {p : M.Pi2} (h : PAI w W H p) (vs : List Value) : PAI w (W.setCells (H + 1) 0 vs) H p :=
  have hs := h.size
  have ht := touch_setCells W (H + 1) 0 vs
  ⟨h.box.touch ht (by omega), World.there_setCells h.res _ _ _, Nat.le_trans hs ht.size, ht.below _ _ (by omega) (by omega) h.below⟩
theorem pack_none (p : M.Pi2) (hp : M.pPend p = -1) (w : World) : Calls Try.prog 51 #[.agg p.a] w fun e w' => e = .returned (.tuple #[.agg p.a, .int .u8 255]) ∧ Below w.heap.size w w' := by
  have hs := pi_size p
  obtain ⟨Z, hZs, hZ'⟩ := zero80
  have hZ := Lib.hid hZ'
  clear hZ'
  have hC := fun W => ppend_any p W
  simp only [hp] at hC
  have HC := Lib.hid hC
  clear hC hp
  go_enter Try.func51, Try.ntmps51
  go_wp2_with (first
    | ((with_reducible refine is_allocT 80 rfl ?_); refine wpList_alloc_row rfl _ rfl Z hZ.out ?_)
    | ((with_reducible refine is_loadT 80 rfl ?_); refine wpList_load_row rfl _ _ rfl _ _ rfl _ Try.underlying80 rfl p.a (range_alloc (range_newA _ _ _) _) (info80c _) ?_))
  refine (HC.out _).mono ?_
  rintro e w1 ⟨rfl, hb1⟩
  have hz1 := hb1.size
  simp at hz1
  go_wp2_with (first
    | ((with_reducible refine is_loadT 80 rfl ?_); refine wpList_load_row rfl _ _ rfl _ _ rfl _ Try.underlying80 rfl p.a (range_below (range_alloc (range_newA _ _ _) _) hb1 (by go_size)) (info80c _) ?_)
    | ((with_reducible refine is_storeT 80 rfl ?_); refine wpList_store_rowT rfl _ _ _ rfl _ _ p.a rfl rfl (there_belowA (there_newB _ _ _ _ (by simp) (by rw [pi_size]; omega)) hb1 (by simp)) (info80c _) (pi_one _) ?_; intro W hW hT))
  refine bodyPost_ret (results_row_tmp rfl _ _ _ _ _ _ rfl hW Try.underlying80 rfl (info80c _)) rfl ?_
  exact ⟨rfl, hT.below _ _ (by omega) (by omega) (Below.trans (by go_grown) (hb1.mono (by simp; omega)))⟩
set_option maxHeartbeats 2000000 in
theorem pack_some (p : M.Pi2) (k : Nat) (hk : k < 2) (hp : M.pPend p = k) (w : World) : Calls Try.prog 51 #[.agg p.a] w fun e w' =>
    e = .returned (.tuple #[.agg (p.set { p.at k with pend := false } k).a, .int .u8 (p.at k).vec]) ∧ Below w.heap.size w w' := by
  have hs := pi_size p
  obtain ⟨Z, hZs, hZ'⟩ := zero80
  have hZ := Lib.hid hZ'
  clear hZ'
  have hC := fun W => ppend_any p W
  simp only [hp] at hC
  have HC := Lib.hid hC
  clear hC hp
  obtain ⟨C, hCd⟩ : ∃ C, C = p.set { p.at k with pend := false } k := ⟨_, rfl⟩
  have hvk : (C.at k).vec = (p.at k).vec := by
    rcases (show k = 0 ∨ k = 1 by omega) with rfl | rfl <;> (rw [hCd]; rfl)
  rw [← hCd]
  have hCD := Lib.hid hCd
  have hVK := Lib.hid hvk
  clear hCd hvk
  rcases (show k = 0 ∨ k = 1 by omega) with rfl | rfl
  all_goals
      go_enter Try.func51, Try.ntmps51
      go_wp2_with (first
        | ((with_reducible refine is_allocT 80 rfl ?_); refine wpList_alloc_row rfl _ rfl Z hZ.out ?_)
        | ((with_reducible refine is_loadT 80 rfl ?_); refine wpList_load_row rfl _ _ rfl _ _ rfl _ Try.underlying80 rfl p.a (range_alloc (range_newA _ _ _) _) (info80c _) ?_))
      refine (HC.out _).mono ?_
      rintro e w1 ⟨rfl, hb1⟩
      have hz1 := hb1.size
      simp at hz1
      have hct := PiAt.belowX ((pi_new w p 80).alloc _) hb1
      have hth := there_belowA (there_newB (b := w.heap.size + 1) _ _ _ 22 (by simp) (by omega)) hb1 (by simp)
      have hbb : Below w.heap.size w w1 := Below.trans (by go_grown) (hb1.mono (by simp; omega))
      have p0 := pi_at hct.1 0 (by omega) 10 _ rfl
      have p1 := pi_at hct.1 1 (by omega) 10 _ rfl
      have f0 := hct.2.1 10 (by omega)
      have f1 := hct.2.1 21 (by omega)
      have hcu := hct.turned _ 10 hk (by omega) (.bool false) { p.at _ with pend := false } rfl
      rw [← hCD.out] at hcu
      have hun := Lib.hid (PAI.mk hcu (there_set hth _ _) (by simp; omega) (hbb.setCell (p := ⟨w.heap.size, _, none⟩) (Nat.le_refl _) _))
      clear hct hth hb1 hbb hcu
      simp only [Nat.reduceAdd, Nat.reduceMul, Nat.zero_add, Nat.mul_zero] at f0 f1 p0 p1
      go_wp2_with fail
      clear p0 p1 f0 f1
      refine wp_region_held_drew (S := fun W => PAI w W w.heap.size C) (by kernel_rfl) hun.out.drew ?_
      intro hS
      clear hun
      refine wpAnyH_take (i := 0) rfl (by kernel_rfl) (by kernel_rfl) (by kernel_rfl) (fun _ _ _ h => h) (yieldsIf_load_mid (by rfl) _ _ rfl _ _ rfl _ _ (fun W hW => hW.box.1) Try.underlying80 rfl (info80c _)) hS ?_
      try simp only [Act.put, List.setIfInBounds_toArray, List.set_cons_zero, List.set_cons_succ, List.getElem_toArray, List.getElem_cons_succ, List.getElem_cons_zero]
      refine wpAnyH_take (i := 1) (v := ?_) rfl (by kernel_rfl) (by kernel_rfl) (by kernel_rfl) (fun _ _ _ h => h) (Or.inl ⟨by rfl, ?_⟩) hS ?_
      rotate_left 1
      · intro W hW
        obtain ⟨⟨v1, v2, v3, v4⟩, ⟨v5, v6, v7, v8⟩⟩ := hW.cells
        clear hW
        go_simp
        all_goals with_reducible rfl
      try simp only [Act.put, List.setIfInBounds_toArray, List.set_cons_zero, List.set_cons_succ, List.getElem_toArray, List.getElem_cons_succ, List.getElem_cons_zero]
      refine wpAnyH_take (i := 2) (v := ?_) rfl (by kernel_rfl) (by kernel_rfl) (by kernel_rfl) (fun _ _ _ h => h) (Or.inl ⟨by rfl, ?_⟩) hS ?_
      rotate_left 1
      · intro W hW
        obtain ⟨⟨v1, v2, v3, v4⟩, ⟨v5, v6, v7, v8⟩⟩ := hW.cells
        clear hW
        go_simp
        all_goals with_reducible rfl
      try simp only [Act.put, List.setIfInBounds_toArray, List.set_cons_zero, List.set_cons_succ, List.getElem_toArray, List.getElem_cons_succ, List.getElem_cons_zero]
      refine wpAnyH_take (i := 3) (v := ?_) rfl (by kernel_rfl) (by kernel_rfl) (by kernel_rfl) (fun _ _ _ h => h) (Or.inl ⟨by rfl, ?_⟩) hS ?_
      rotate_left 1
      · intro W hW
        obtain ⟨⟨v1, v2, v3, v4⟩, ⟨v5, v6, v7, v8⟩⟩ := hW.cells
        clear hW
        go_simp
        all_goals with_reducible rfl
      try simp only [Act.put, List.setIfInBounds_toArray, List.set_cons_zero, List.set_cons_succ, List.getElem_toArray, List.getElem_cons_succ, List.getElem_cons_zero]
      refine wpAnyH_take (i := 4) (v := ?_) rfl (by kernel_rfl) (by kernel_rfl) (by kernel_rfl) (fun _ _ _ h => h) (Or.inl ⟨by rfl, ?_⟩) hS ?_
      rotate_left 1
      · intro W hW
        obtain ⟨⟨v1, v2, v3, v4⟩, ⟨v5, v6, v7, v8⟩⟩ := hW.cells
        clear hW
        go_simp
        all_goals with_reducible rfl
      try simp only [Act.put, List.setIfInBounds_toArray, List.set_cons_zero, List.set_cons_succ, List.getElem_toArray, List.getElem_cons_succ, List.getElem_cons_zero]
      refine wpAnyH_take (i := 5) (v := ?_) rfl (by kernel_rfl) (by kernel_rfl) (by kernel_rfl) (fun _ _ _ h => h) (Or.inl ⟨by rfl, ?_⟩) hS ?_
      rotate_left 1
      · intro W hW
        obtain ⟨⟨v1, v2, v3, v4⟩, ⟨v5, v6, v7, v8⟩⟩ := hW.cells
        clear hW
        go_simp
        all_goals with_reducible rfl
      try simp only [Act.put, List.setIfInBounds_toArray, List.set_cons_zero, List.set_cons_succ, List.getElem_toArray, List.getElem_cons_succ, List.getElem_cons_zero]
      refine wpAnyH_ready (rs := [6]) (by kernel_rfl) (by simp) (AllReadyH.cons rfl ?_ AllReadyH.nil)
      intro K1 hK1
      rw [if_pos (by rfl)]
      try simp only [Act.put, List.setIfInBounds_toArray, List.set_cons_zero, List.set_cons_succ, List.getElem_toArray, List.getElem_cons_succ, List.getElem_cons_zero]
      have hth := hS.res
      have hst := hS.store C.a.toList
      have r1 := World.rangeAt_setCells_same _ _ _ C.a.toList (by rw [Array.length_toList, pi_size]; exact hth)
      generalize (w1.setCell _ _).drew = W1 at hS hth hst r1 ⊢
      with_reducible refine wp_store_mid ?g01 ?g02 ?g03 ?g04 ?g05 ?g06 C.a ?g1 ?g2 ?g3 ?g4 ?g5 ?_
      case g04 => with_reducible rfl
      case g1 => rfl
      case g2 => rfl
      case g3 => (rw [pi_size]; exact hth)
      case g4 => exact info80c _
      case g5 => exact pi_one _
      try simp only [Act.put, List.setIfInBounds_toArray, List.set_cons_zero, List.set_cons_succ, List.getElem_toArray, List.getElem_cons_succ, List.getElem_cons_zero]
      refine hK1.out _ _ hst (fun hS => ?_)
      clear hst hth
      generalize W1.setCells (w.heap.size + 1) 0 C.a.toList = W2 at hS r1 ⊢
      refine wpAnyH_take (i := 7) (v := ?_) rfl (by kernel_rfl) (by kernel_rfl) (by kernel_rfl) (fun _ _ _ h => h) (Or.inl ⟨by rfl, ?_⟩) hS ?_
      rotate_left 1
      · intro W hW
        obtain ⟨⟨v1, v2, v3, v4⟩, ⟨v5, v6, v7, v8⟩⟩ := hW.cells
        clear hW
        go_simp
        all_goals with_reducible rfl
      try simp only [Act.put, List.setIfInBounds_toArray, List.set_cons_zero, List.set_cons_succ, List.getElem_toArray, List.getElem_cons_succ, List.getElem_cons_zero]
      refine wpAnyH_done (by kernel_rfl) ?_ _
      have r4 := hS.below
      have q1 := Lib.hid r1
      clear hS r1 hK1
      go_wp2_with fail
      refine bodyPost_ret (results_row_tmp rfl _ _ _ _ C.a _ rfl q1.out Try.underlying80 rfl (info80c _)) rfl ?_
      refine ⟨?_, r4⟩
      rw [← hVK.out]
      rfl
theorem pack_any (p : M.Pi2) (w : World) : Calls Try.prog 51 #[.agg p.a] w fun e w' => e = .returned (.tuple #[.agg (M.pAck p).a, .int .u8 (M.pAckV p)]) ∧ Below w.heap.size w w' := by
  have hp : M.pPend p = if p.p0.pend then 0 else if p.p1.pend then 1 else -1 := rfl
  unfold M.pAck M.pAckV
  cases h0 : p.p0.pend with
  | true => simpa [M.Pi2.set, M.Pi2.at] using pack_some p 0 (by omega) (by simp [hp, h0]) w
  | false =>
    cases h1 : p.p1.pend with
    | true => simpa [M.Pi2.set, M.Pi2.at] using pack_some p 1 (by omega) (by simp [hp, h0, h1]) w
    | false => simpa using pack_none p (by simp [hp, h0, h1]) w
theorem rpack_none (p : M.Pi2) (hp : M.pPend p = -1) (w : World) : Calls Try.prog 52 #[.agg p.a] w fun e w' => e = .returned (.tuple #[.agg p.a, .int .u8 255]) ∧ Below w.heap.size w w' := by
  have hs := pi_size p
  obtain ⟨Z, hZs, hZ'⟩ := zero86
  have hZ := Lib.hid hZ'
  clear hZ'
  have hC := fun W => rppend_any p W
  simp only [hp] at hC
  have HC := Lib.hid hC
  clear hC hp
  go_enter Try.func52, Try.ntmps52
  go_wp2_with (first
    | ((with_reducible refine is_allocT 86 rfl ?_); refine wpList_alloc_row rfl _ rfl Z hZ.out ?_)
    | ((with_reducible refine is_loadT 86 rfl ?_); refine wpList_load_row rfl _ _ rfl _ _ rfl _ Try.underlying86 rfl p.a (range_alloc (range_newA _ _ _) _) (info86c _) ?_))
  refine (HC.out _).mono ?_
  rintro e w1 ⟨rfl, hb1⟩
  have hz1 := hb1.size
  simp at hz1
  go_wp2_with (first
    | ((with_reducible refine is_loadT 86 rfl ?_); refine wpList_load_row rfl _ _ rfl _ _ rfl _ Try.underlying86 rfl p.a (range_below (range_alloc (range_newA _ _ _) _) hb1 (by go_size)) (info86c _) ?_)
    | ((with_reducible refine is_storeT 86 rfl ?_); refine wpList_store_rowT rfl _ _ _ rfl _ _ p.a rfl rfl (there_belowA (there_newB _ _ _ _ (by simp) (by rw [pi_size]; omega)) hb1 (by simp)) (info86c _) (pi_one _) ?_; intro W hW hT))
  refine bodyPost_ret (results_row_tmp rfl _ _ _ _ _ _ rfl hW Try.underlying86 rfl (info86c _)) rfl ?_
  exact ⟨rfl, hT.below _ _ (by omega) (by omega) (Below.trans (by go_grown) (hb1.mono (by simp; omega)))⟩
set_option maxHeartbeats 2000000 in
theorem rpack_some (p : M.Pi2) (k : Nat) (hk : k < 2) (hp : M.pPend p = k) (w : World) : Calls Try.prog 52 #[.agg p.a] w fun e w' =>
    e = .returned (.tuple #[.agg (p.set { p.at k with pend := false } k).a, .int .u8 (p.at k).vec]) ∧ Below w.heap.size w w' := by
  have hs := pi_size p
  obtain ⟨Z, hZs, hZ'⟩ := zero86
  have hZ := Lib.hid hZ'
  clear hZ'
  have hC := fun W => rppend_any p W
  simp only [hp] at hC
  have HC := Lib.hid hC
  clear hC hp
  obtain ⟨C, hCd⟩ : ∃ C, C = p.set { p.at k with pend := false } k := ⟨_, rfl⟩
  have hvk : (C.at k).vec = (p.at k).vec := by
    rcases (show k = 0 ∨ k = 1 by omega) with rfl | rfl <;> (rw [hCd]; rfl)
  rw [← hCd]
  have hCD := Lib.hid hCd
  have hVK := Lib.hid hvk
  clear hCd hvk
  rcases (show k = 0 ∨ k = 1 by omega) with rfl | rfl
  all_goals
      go_enter Try.func52, Try.ntmps52
      go_wp2_with (first
        | ((with_reducible refine is_allocT 86 rfl ?_); refine wpList_alloc_row rfl _ rfl Z hZ.out ?_)
        | ((with_reducible refine is_loadT 86 rfl ?_); refine wpList_load_row rfl _ _ rfl _ _ rfl _ Try.underlying86 rfl p.a (range_alloc (range_newA _ _ _) _) (info86c _) ?_))
      refine (HC.out _).mono ?_
      rintro e w1 ⟨rfl, hb1⟩
      have hz1 := hb1.size
      simp at hz1
      have hct := PiAt.belowX ((pi_new w p 86).alloc _) hb1
      have hth := there_belowA (there_newB (b := w.heap.size + 1) _ _ _ 22 (by simp) (by omega)) hb1 (by simp)
      have hbb : Below w.heap.size w w1 := Below.trans (by go_grown) (hb1.mono (by simp; omega))
      have p0 := pi_at hct.1 0 (by omega) 10 _ rfl
      have p1 := pi_at hct.1 1 (by omega) 10 _ rfl
      have f0 := hct.2.1 10 (by omega)
      have f1 := hct.2.1 21 (by omega)
      have hcu := hct.turned _ 10 hk (by omega) (.bool false) { p.at _ with pend := false } rfl
      rw [← hCD.out] at hcu
      have hun := Lib.hid (PAI.mk hcu (there_set hth _ _) (by simp; omega) (hbb.setCell (p := ⟨w.heap.size, _, none⟩) (Nat.le_refl _) _))
      clear hct hth hb1 hbb hcu
      simp only [Nat.reduceAdd, Nat.reduceMul, Nat.zero_add, Nat.mul_zero] at f0 f1 p0 p1
      go_wp2_with fail
      clear p0 p1 f0 f1
      refine wp_region_held_drew (S := fun W => PAI w W w.heap.size C) (by kernel_rfl) hun.out.drew ?_
      intro hS
      clear hun
      refine wpAnyH_take (i := 0) rfl (by kernel_rfl) (by kernel_rfl) (by kernel_rfl) (fun _ _ _ h => h) (yieldsIf_load_mid (by rfl) _ _ rfl _ _ rfl _ _ (fun W hW => hW.box.1) Try.underlying86 rfl (info86c _)) hS ?_
      try simp only [Act.put, List.setIfInBounds_toArray, List.set_cons_zero, List.set_cons_succ, List.getElem_toArray, List.getElem_cons_succ, List.getElem_cons_zero]
      refine wpAnyH_take (i := 1) (v := ?_) rfl (by kernel_rfl) (by kernel_rfl) (by kernel_rfl) (fun _ _ _ h => h) (Or.inl ⟨by rfl, ?_⟩) hS ?_
      rotate_left 1
      · intro W hW
        obtain ⟨⟨v1, v2, v3, v4⟩, ⟨v5, v6, v7, v8⟩⟩ := hW.cells
        clear hW
        go_simp
        all_goals with_reducible rfl
      try simp only [Act.put, List.setIfInBounds_toArray, List.set_cons_zero, List.set_cons_succ, List.getElem_toArray, List.getElem_cons_succ, List.getElem_cons_zero]
      refine wpAnyH_take (i := 2) (v := ?_) rfl (by kernel_rfl) (by kernel_rfl) (by kernel_rfl) (fun _ _ _ h => h) (Or.inl ⟨by rfl, ?_⟩) hS ?_
      rotate_left 1
      · intro W hW
        obtain ⟨⟨v1, v2, v3, v4⟩, ⟨v5, v6, v7, v8⟩⟩ := hW.cells
        clear hW
        go_simp
        all_goals with_reducible rfl
      try simp only [Act.put, List.setIfInBounds_toArray, List.set_cons_zero, List.set_cons_succ, List.getElem_toArray, List.getElem_cons_succ, List.getElem_cons_zero]
      refine wpAnyH_take (i := 3) (v := ?_) rfl (by kernel_rfl) (by kernel_rfl) (by kernel_rfl) (fun _ _ _ h => h) (Or.inl ⟨by rfl, ?_⟩) hS ?_
      rotate_left 1
      · intro W hW
        obtain ⟨⟨v1, v2, v3, v4⟩, ⟨v5, v6, v7, v8⟩⟩ := hW.cells
        clear hW
        go_simp
        all_goals with_reducible rfl
      try simp only [Act.put, List.setIfInBounds_toArray, List.set_cons_zero, List.set_cons_succ, List.getElem_toArray, List.getElem_cons_succ, List.getElem_cons_zero]
      refine wpAnyH_take (i := 4) (v := ?_) rfl (by kernel_rfl) (by kernel_rfl) (by kernel_rfl) (fun _ _ _ h => h) (Or.inl ⟨by rfl, ?_⟩) hS ?_
      rotate_left 1
      · intro W hW
        obtain ⟨⟨v1, v2, v3, v4⟩, ⟨v5, v6, v7, v8⟩⟩ := hW.cells
        clear hW
        go_simp
        all_goals with_reducible rfl
      try simp only [Act.put, List.setIfInBounds_toArray, List.set_cons_zero, List.set_cons_succ, List.getElem_toArray, List.getElem_cons_succ, List.getElem_cons_zero]
      refine wpAnyH_take (i := 5) (v := ?_) rfl (by kernel_rfl) (by kernel_rfl) (by kernel_rfl) (fun _ _ _ h => h) (Or.inl ⟨by rfl, ?_⟩) hS ?_
      rotate_left 1
      · intro W hW
        obtain ⟨⟨v1, v2, v3, v4⟩, ⟨v5, v6, v7, v8⟩⟩ := hW.cells
        clear hW
        go_simp
        all_goals with_reducible rfl
      try simp only [Act.put, List.setIfInBounds_toArray, List.set_cons_zero, List.set_cons_succ, List.getElem_toArray, List.getElem_cons_succ, List.getElem_cons_zero]
      refine wpAnyH_ready (rs := [6]) (by kernel_rfl) (by simp) (AllReadyH.cons rfl ?_ AllReadyH.nil)
      intro K1 hK1
      rw [if_pos (by rfl)]
      try simp only [Act.put, List.setIfInBounds_toArray, List.set_cons_zero, List.set_cons_succ, List.getElem_toArray, List.getElem_cons_succ, List.getElem_cons_zero]
      have hth := hS.res
      have hst := hS.store C.a.toList
      have r1 := World.rangeAt_setCells_same _ _ _ C.a.toList (by rw [Array.length_toList, pi_size]; exact hth)
      generalize (w1.setCell _ _).drew = W1 at hS hth hst r1 ⊢
      with_reducible refine wp_store_mid ?g01 ?g02 ?g03 ?g04 ?g05 ?g06 C.a ?g1 ?g2 ?g3 ?g4 ?g5 ?_
      case g04 => with_reducible rfl
      case g1 => rfl
      case g2 => rfl
      case g3 => (rw [pi_size]; exact hth)
      case g4 => exact info86c _
      case g5 => exact pi_one _
      try simp only [Act.put, List.setIfInBounds_toArray, List.set_cons_zero, List.set_cons_succ, List.getElem_toArray, List.getElem_cons_succ, List.getElem_cons_zero]
      refine hK1.out _ _ hst (fun hS => ?_)
      clear hst hth
      generalize W1.setCells (w.heap.size + 1) 0 C.a.toList = W2 at hS r1 ⊢
      refine wpAnyH_take (i := 7) (v := ?_) rfl (by kernel_rfl) (by kernel_rfl) (by kernel_rfl) (fun _ _ _ h => h) (Or.inl ⟨by rfl, ?_⟩) hS ?_
      rotate_left 1
      · intro W hW
        obtain ⟨⟨v1, v2, v3, v4⟩, ⟨v5, v6, v7, v8⟩⟩ := hW.cells
        clear hW
        go_simp
        all_goals with_reducible rfl
      try simp only [Act.put, List.setIfInBounds_toArray, List.set_cons_zero, List.set_cons_succ, List.getElem_toArray, List.getElem_cons_succ, List.getElem_cons_zero]
      refine wpAnyH_done (by kernel_rfl) ?_ _
      have r4 := hS.below
      have q1 := Lib.hid r1
      clear hS r1 hK1
      go_wp2_with fail
      refine bodyPost_ret (results_row_tmp rfl _ _ _ _ C.a _ rfl q1.out Try.underlying86 rfl (info86c _)) rfl ?_
      refine ⟨?_, r4⟩
      rw [← hVK.out]
      rfl
theorem rpack_any (p : M.Pi2) (w : World) : Calls Try.prog 52 #[.agg p.a] w fun e w' => e = .returned (.tuple #[.agg (M.pAck p).a, .int .u8 (M.pAckV p)]) ∧ Below w.heap.size w w' := by
  have hp : M.pPend p = if p.p0.pend then 0 else if p.p1.pend then 1 else -1 := rfl
  unfold M.pAck M.pAckV
  cases h0 : p.p0.pend with
  | true => simpa [M.Pi2.set, M.Pi2.at] using rpack_some p 0 (by omega) (by simp [hp, h0]) w
  | false =>
    cases h1 : p.p1.pend with
    | true => simpa [M.Pi2.set, M.Pi2.at] using rpack_some p 1 (by omega) (by simp [hp, h0, h1]) w
    | false => simpa using rpack_none p (by simp [hp, h0, h1]) w
end Go.Proofs.Ytmoafjgogbcoeaa
