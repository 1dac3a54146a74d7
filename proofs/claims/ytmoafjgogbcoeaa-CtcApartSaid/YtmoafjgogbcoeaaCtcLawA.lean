/- charabanclaw23.CtcApart is true at whatever counters, channel and edges. -/
import Derived.Test.YtmoafjgogbcoeaaCtcPer
import Derived.Test.YtmoafjgogbcoeaaCtcEq
import Derived.Test.YtmoafjgogbcoeaaCtcZeros
import Derived.Test.YtmoafjgogbcoeaaRowOpsG
import Derived.Deep.RegionHeld3
namespace Go.Proofs.Ytmoafjgogbcoeaa
open Go.RowKit
set_option linter.unusedVariables false
set_option linter.unusedSimpArgs false
set_option maxRecDepth 100000

theorem there_part {w : World} {b o n : Nat} (h : w.there b o n) (p m : Nat) (h1 : o ≤ p) (h2 : p + m ≤ o + n) : w.there b p m := fun j hj => by
  have := h (p - o + j) (by omega)
  rwa [show o + (p - o + j) = p + j by omega] at this
def M.one (x : M.Ch) (k : Nat) : M.Ct := M.ct0.set x k
def M.lone (b : Bool) (k : Nat) : M.E4 := M.e0.set b k
theorem one_ok {x : M.Ch} (hx : x.ok) (k : Nat) : (M.one x k).ok := M.set_ok ct0_ok hx k
theorem apart_ch (c : M.Ct) (e : M.E4) (k : Nat) (hk : k < 4) : (M.tickC c e).at k = (M.tickC (M.one (c.at k) k) (M.lone (e.at k) k)).at k ∧ (M.tickE c e).at k = (M.tickE (M.one (c.at k) k) (M.lone (e.at k) k)).at k := by
  rcases (show k = 0 ∨ k = 1 ∨ k = 2 ∨ k = 3 by omega) with rfl | rfl | rfl | rfl <;> exact ⟨rfl, rfl⟩
theorem ct_atA {W : World} {B : Nat} {c : M.Ct} (h : W.rangeAt B 0 c.a.toList) (k : Nat) (hk : k < 4) : W.rangeAt B (8 * k) (c.at k).a.toList := ct_at h k hk
theorem vec_cell {W : World} {B : Nat} {c : M.Ct} (h : CtAt W B c) : W.cell? ⟨B, 32, none⟩ = some (.int .u8 c.vec) := h.pend.2.2.2.2
set_option maxHeartbeats 4000000 in
theorem apart_true (c : M.Ct) (hc : c.ok) (a1 : Int) (e : M.E4) (w : World) : Calls Try.prog 10 #[.agg c.a, .int .i64 a1, .agg e.a] w fun e' w' => e' = .returned (.bool true) ∧ Below w.heap.size w w' := by
  obtain ⟨k, hk, hK⟩ := M.and3 a1
  obtain ⟨ap1, ap2⟩ := apart_ch c e k hk
  have hvD : (M.tickC c e).vec = c.vec := rfl
  have h1 := fun W => ctick_all c hc e W
  have h2 := fun W => ctick_all (M.one (c.at k) k) (one_ok (M.at_ok hc k) k) (M.lone (e.at k) k) W
  obtain ⟨O, hO⟩ : ∃ O, O = M.one (c.at k) k := ⟨_, rfl⟩
  obtain ⟨L, hL⟩ : ∃ L, L = M.lone (e.at k) k := ⟨_, rfl⟩
  rw [← hO, ← hL] at ap1 ap2
  simp only [← hO, ← hL] at h2
  generalize M.tickC c e = D at ap1 hvD h1
  generalize M.tickE c e = E at ap2 h1
  generalize M.tickC O L = D2 at ap1 h2
  generalize M.tickE O L = E2 at ap2 h2
  have heq := fun W => eql44 (D.at k) W
  have H1 := Lib.hid h1
  have H2 := Lib.hid h2
  have AP1 := Lib.hid ap1
  have AP2 := Lib.hid ap2
  have HO := Lib.hid hO
  have HL := Lib.hid hL
  have HVD := Lib.hid hvD
  clear h1 h2 ap1 ap2 hO hL hvD
  obtain ⟨Z, hZs, hZ'⟩ : ∃ Z : Array Value, Z = M.ct0.a ∧ ∀ w : World, (zeroValue 47).run Try.prog w = .ok (.agg Z) w := ⟨_, rfl, fun w => Try.zeroValue47 w⟩
  obtain ⟨Y, hYs, hY'⟩ := zero58
  have hZ := Lib.hid hZ'
  have hY := Lib.hid hY'
  have hZn : Z.size = 33 := by rw [hZs]; rfl
  have hYn : Y.size = 4 := by rw [hYs]; rfl
  have hZS := Lib.hid hZs
  have hYS : Hid (Y = M.e0.a) := Lib.hid hYs
  clear hZ' hY' hZs hYs
  have hk0 : (0 : Int) ≤ (k : Int) := by omega
  have hk4 : (k : Int) < 4 := by omega
  have hkk : k * 8 = 8 * k := Nat.mul_comm _ _
  have hs := ct_size c
  have hs4 := e4_size e
  go_enter Try.func10, Try.ntmps10
  go_wp2_with fail
  refine (awake_any _).mono ?_
  rintro e1 w1 ⟨rfl, hb1⟩
  have hz1 := hb1.size
  simp at hz1
  have hS0 : CtAt w1 w.heap.size c ∧ w1.rangeAt (w.heap.size + 1) 0 e.a.toList ∧ Below w.heap.size w w1 := ⟨((ct_new w c _).alloc _).belowX hb1, range_below (range_newB _ _ _ (by simp)) hb1 (by simp), Below.trans (by go_grown) (hb1.mono (by simp; omega))⟩
  have hS1 := Lib.hid hS0
  have hbl1 := hS0.2.2
  have hld : w1.rangeAt w.heap.size (8 * k) (c.at k).a.toList := ct_at hS0.1.1 k hk
  have HLD := Lib.hid hld
  clear hS0 hb1 hld
  go_wp2_with (first
    | ((with_reducible refine is_allocT 47 rfl ?_); refine wpList_alloc_row rfl _ rfl Z hZ.out ?_)
    | ((with_reducible refine is_allocT 58 rfl ?_); refine wpList_alloc_row rfl _ rfl Y hY.out ?_)
    | ((with_reducible refine is_loadT 44 rfl ?_); refine wpList_load_row rfl _ _ rfl _ _ rfl _ Try.underlying44 rfl (c.at k).a (range_alloc HLD.out _) (info44c _) ?_)
    | ((with_reducible refine is_storeT 44 rfl ?_); refine wpList_store_rowT rfl _ _ _ rfl _ (8 * k) (c.at k).a rfl rfl (by rw [ch_size]; exact there_part (there_newA w1 Z _ 33 (by omega)) _ _ (by omega) (by omega)) (info44c _) (ch_one _) ?_;
        intro W hW hT; rw [ch_size] at hT; have hC3 := Lib.hid ((hS1.out.1.alloc (.cells Z 47)).touch hT (by omega)); have hE3 := Lib.hid (hT.range (by simp; omega) (range_alloc hS1.out.2.1 (.cells Z 47)) (.inl (by omega))); have hO3 := Lib.hid (ct_turn (show CtAt (w1.alloc (.cells Z 47)) w1.heap.size M.ct0 from (by rw [hZS.out]; exact ct_new _ _ _)) k hk hW hT).1; have hbl3 := hT.below w.heap.size w (by omega) (by simp; omega) (by go_grown); have hsz3 : w1.heap.size + 1 ≤ W.heap.size := Nat.le_trans (by simp) hT.size; have hq1 : ¬ (w.heap.size + 1 = W.heap.size) := (by omega); have hq2 : ¬ (W.heap.size = w.heap.size + 1) := (by omega); have hq3 : w.heap.size + 1 < W.heap.size := (by omega); have ce := e4_cell hE3.out k hk; have hset : Hid (Y.setIfInBounds k (.bool (e.at k)) = L.a) := Lib.hid (by rw [hYS.out, e4_setIf _ k hk, HL.out]; rfl); clear hW hT)
    | ((with_reducible refine is_loadT 47 rfl ?_); refine wpList_load_row rfl _ _ rfl _ _ rfl _ Try.underlying47 rfl c.a (range_alloc hC3.out.1 _) (info47c _) ?_)
    | ((with_reducible refine is_loadT 58 rfl ?_); refine wpList_load_row rfl _ _ rfl _ _ rfl _ Try.underlying58 rfl e.a (range_alloc hE3.out _) (info58c _) ?_))
  refine (H1.out _).mono ?_
  rintro e1 w2 ⟨rfl, hb2⟩
  have hz2 := hb2.size
  simp at hz2
  have hA2 : CtAt w2 w.heap.size c ∧ CtAt w2 w1.heap.size O ∧ w2.rangeAt W.heap.size 0 L.a.toList ∧ Below w.heap.size w w2 := by
    refine ⟨(hC3.out.alloc _).belowX hb2, ?_, ?_, (hbl3.alloc (by omega) _).trans (hb2.mono (by simp; omega))⟩
    · have := hO3.out
      rw [show M.ct0.set (c.at k) k = O from HO.out.symm] at this
      exact (this.alloc _).belowX hb2
    · rw [← hset.out]
      exact range_below (range_newA _ _ _) hb2 (by simp)
  have HA2 := Lib.hid hA2
  have hbl2 := hA2.2.2.2
  clear hA2 hb2 hC3 hE3 hO3 hbl3 ce
  go_wp2_with (first
    | ((with_reducible refine is_allocT 47 rfl ?_); refine wpList_alloc_row rfl _ rfl Z hZ.out ?_)
    | ((with_reducible refine is_allocT 58 rfl ?_); refine wpList_alloc_row rfl _ rfl Y hY.out ?_)
    | ((with_reducible refine is_storeT 47 rfl ?_); refine wpList_store_rowT rfl _ _ _ rfl _ _ D.a rfl rfl (by rw [ct_size]; exact there_allocA (there_newA w2 Z _ 33 (by omega)) _) (info47c _) (ct_one _) ?_;
        intro V4 hW hT; have hw3 := Lib.hid hW; have hfr := Lib.hid (Free.touch ((free_new w2 Z 47 33).alloc (by simp) (.cells Y 58)) hT (by simp; omega)); have hth3 := Lib.hid (there_touch (there_newB (b := w2.heap.size + 1) (w2.alloc (.cells Z 47)) Y 58 4 (by simp) (by omega)) hT (by simp) (by omega)); have hX3 := Lib.hid (hT.below w2.heap.size w2 (Nat.le_refl _) (by simp; omega) (((Below.refl w2.heap.size w2).alloc (Nat.le_refl _) _).alloc (by simp) _)); have hsz0 : w2.heap.size + 1 + 1 ≤ V4.heap.size := Nat.le_trans (by simp) hT.size; clear hW hT)
    | ((with_reducible refine is_storeT 58 rfl ?_); refine wpList_store_rowT rfl _ _ _ rfl _ _ E.a rfl rfl (by rw [e4_size]; simp only [World.size_alloc]; exact hth3.out) (info58c _) (e4_one _) ?_;
        intro W4 hW hT; simp only [World.size_alloc] at hW hT; have hM4 := Lib.hid hW; have hX4 := hT.below w2.heap.size w2 (by omega) (by omega) hX3.out; have hN4 : Hid (CtAt W4 w2.heap.size D) := Lib.hid ⟨hT.range (by omega) hw3.out (.inl (by omega)), hfr.out.touch hT (by omega), Nat.lt_of_lt_of_le (by omega) hT.size⟩; have hsz4 : w2.heap.size + 1 + 1 ≤ W4.heap.size := Nat.le_trans hsz0 hT.size; clear hW hT hw3 hfr hth3 hX3)
    | ((with_reducible refine is_loadT 47 rfl ?_); refine wpList_load_row rfl _ _ rfl _ _ rfl _ Try.underlying47 rfl O.a (HA2.out.2.1.belowX hX4).1 (info47c _) ?_)
    | ((with_reducible refine is_loadT 58 rfl ?_); refine wpList_load_row rfl _ _ rfl _ _ rfl _ Try.underlying58 rfl L.a (range_below HA2.out.2.2.1 hX4 (by omega)) (info58c _) ?_))
  refine (H2.out _).mono ?_
  rintro e1 w5 ⟨rfl, hb5⟩
  have hz5 := hb5.size
  have hC5 := Lib.hid ((HA2.out.1.belowX hX4).belowX hb5)
  have hD5 := Lib.hid (hN4.out.belowX hb5)
  have hE5 := Lib.hid (range_below hM4.out hb5 (by omega))
  have hbl5 : Below w.heap.size w w5 := hbl2.trans ((hX4.mono (by omega)).trans (hb5.mono (by omega)))
  clear hb5 hX4 hN4 hM4 HA2
  go_wp2_with (first
    | ((with_reducible refine is_allocT 47 rfl ?_); refine wpList_alloc_row rfl _ rfl Z hZ.out ?_)
    | ((with_reducible refine is_allocT 58 rfl ?_); refine wpList_alloc_row rfl _ rfl Y hY.out ?_)
    | ((with_reducible refine is_storeT 47 rfl ?_); refine wpList_store_rowT rfl _ _ _ rfl _ _ D2.a rfl rfl (by rw [ct_size]; exact there_allocA (there_newA w5 Z _ 33 (by omega)) _) (info47c _) (ct_one _) ?_;
        intro V7 hW hT; have hw3 := Lib.hid hW; have hfr := Lib.hid (Free.touch ((free_new w5 Z 47 33).alloc (by simp) (.cells Y 58)) hT (by simp; omega)); have hth3 := Lib.hid (there_touch (there_newB (b := w5.heap.size + 1) (w5.alloc (.cells Z 47)) Y 58 4 (by simp) (by omega)) hT (by simp) (by omega)); have hX3 := Lib.hid (hT.below w5.heap.size w5 (Nat.le_refl _) (by simp; omega) (((Below.refl w5.heap.size w5).alloc (Nat.le_refl _) _).alloc (by simp) _)); have hsz0 : w5.heap.size + 1 + 1 ≤ V7.heap.size := Nat.le_trans (by simp) hT.size; clear hW hT)
    | ((with_reducible refine is_storeT 58 rfl ?_); refine wpList_store_rowT rfl _ _ _ rfl _ _ E2.a rfl rfl (by rw [e4_size]; simp only [World.size_alloc]; exact hth3.out) (info58c _) (e4_one _) ?_;
        intro W7 hW hT; simp only [World.size_alloc] at hW hT; have hM7 := Lib.hid hW; have hX7 := hT.below w5.heap.size w5 (by omega) (by omega) hX3.out; have hN7 : Hid (CtAt W7 w5.heap.size D2) := Lib.hid ⟨hT.range (by omega) hw3.out (.inl (by omega)), hfr.out.touch hT (by omega), Nat.lt_of_lt_of_le (by omega) hT.size⟩; have hsz7 : w5.heap.size + 1 + 1 ≤ W7.heap.size := Nat.le_trans hsz0 hT.size; clear hW hT hw3 hfr hth3 hX3))
  have hSS : CtAt W7 w2.heap.size D ∧ CtAt W7 w5.heap.size D2 ∧ W7.cell? ⟨w2.heap.size + 1, k, none⟩ = some (.bool (E.at k)) ∧ W7.cell? ⟨w5.heap.size + 1, k, none⟩ = some (.bool (E.at k)) ∧ W7.cell? ⟨w2.heap.size, 32, none⟩ = some (.int .u8 c.vec) ∧ W7.cell? ⟨w.heap.size, 32, none⟩ = some (.int .u8 c.vec) ∧ Below w.heap.size w W7 := by
    refine ⟨hD5.out.belowX hX7, hN7.out, e4_cell (range_below hE5.out hX7 (by omega)) k hk, ?_, ?_, vec_cell (hC5.out.belowX hX7), hbl5.trans (hX7.mono (by omega))⟩
    · rw [AP2.out]; exact e4_cell hM7.out k hk
    · rw [← HVD.out]; exact vec_cell (hD5.out.belowX hX7)
  have HS := Lib.hid hSS
  clear hSS hX7 hN7 hM7 hC5 hD5 hE5 hbl5
  go_wp2_with fail
  refine wp_region_held_drew (S := fun W => CtAt W w2.heap.size D ∧ CtAt W w5.heap.size D2 ∧ W.cell? ⟨w2.heap.size + 1, k, none⟩ = some (.bool (E.at k)) ∧ W.cell? ⟨w5.heap.size + 1, k, none⟩ = some (.bool (E.at k)) ∧ W.cell? ⟨w2.heap.size, 32, none⟩ = some (.int .u8 c.vec) ∧ W.cell? ⟨w.heap.size, 32, none⟩ = some (.int .u8 c.vec) ∧ Below w.heap.size w W) (by kernel_rfl)
    ⟨HS.out.1.drew, HS.out.2.1.drew, (by rw [World.cell?_drew]; exact HS.out.2.2.1), (by rw [World.cell?_drew]; exact HS.out.2.2.2.1), (by rw [World.cell?_drew]; exact HS.out.2.2.2.2.1), (by rw [World.cell?_drew]; exact HS.out.2.2.2.2.2.1), HS.out.2.2.2.2.2.2.drew⟩ ?_
  intro hS
  clear HS
  refine wpAnyH_take (i := 0) (v := ?_) rfl (by kernel_rfl) (by kernel_rfl) (by kernel_rfl) (fun _ _ _ h => h) (Or.inl ⟨by rfl, ?_⟩) hS ?_
  rotate_left 1
  · intro W hW
    obtain ⟨g1, g2, g3, g4, g5, g6, g7⟩ := hW
    clear g1 g2 g7
    go_simp
    all_goals with_reducible rfl
  try simp only [Act.put, List.setIfInBounds_toArray, List.set_cons_zero, List.set_cons_succ, List.getElem_toArray, List.getElem_cons_succ, List.getElem_cons_zero, Array.toArray_toList]
  refine wpAnyH_take (i := 1) (v := ?_) rfl (by kernel_rfl) (by kernel_rfl) (by kernel_rfl) (fun _ _ _ h => h) (Or.inl ⟨by rfl, ?_⟩) hS ?_
  rotate_left 1
  · intro W hW
    obtain ⟨g1, g2, g3, g4, g5, g6, g7⟩ := hW
    clear g1 g2 g7
    go_simp
    all_goals with_reducible rfl
  try simp only [Act.put, List.setIfInBounds_toArray, List.set_cons_zero, List.set_cons_succ, List.getElem_toArray, List.getElem_cons_succ, List.getElem_cons_zero, Array.toArray_toList]
  refine wpAnyH_take (i := 2) (v := ?_) rfl (by kernel_rfl) (by kernel_rfl) (by kernel_rfl) (fun _ _ _ h => h) (Or.inl ⟨by rfl, ?_⟩) hS ?_
  rotate_left 1
  · intro W hW
    obtain ⟨g1, g2, g3, g4, g5, g6, g7⟩ := hW
    clear g1 g2 g7
    go_simp
    all_goals with_reducible rfl
  try simp only [Act.put, List.setIfInBounds_toArray, List.set_cons_zero, List.set_cons_succ, List.getElem_toArray, List.getElem_cons_succ, List.getElem_cons_zero, Array.toArray_toList]
  refine wpAnyH_take (i := 3) rfl (by kernel_rfl) (by kernel_rfl) (by kernel_rfl) (fun _ _ _ h => h) (yieldsIf_load_mid (by rfl) _ _ rfl _ _ rfl _ _ (fun W hW => ct_atA hW.1.1 k hk) Try.underlying44 rfl (info44c _)) hS ?_
  try simp only [Act.put, List.setIfInBounds_toArray, List.set_cons_zero, List.set_cons_succ, List.getElem_toArray, List.getElem_cons_succ, List.getElem_cons_zero, Array.toArray_toList]
  refine wpAnyH_take (i := 4) (v := ?_) rfl (by kernel_rfl) (by kernel_rfl) (by kernel_rfl) (fun _ _ _ h => h) (Or.inl ⟨by rfl, ?_⟩) hS ?_
  rotate_left 1
  · intro W hW
    obtain ⟨g1, g2, g3, g4, g5, g6, g7⟩ := hW
    clear g1 g2 g7
    go_simp
    all_goals with_reducible rfl
  try simp only [Act.put, List.setIfInBounds_toArray, List.set_cons_zero, List.set_cons_succ, List.getElem_toArray, List.getElem_cons_succ, List.getElem_cons_zero, Array.toArray_toList]
  refine wpAnyH_take (i := 5) (v := ?_) rfl (by kernel_rfl) (by kernel_rfl) (by kernel_rfl) (fun _ _ _ h => h) (Or.inl ⟨by rfl, ?_⟩) hS ?_
  rotate_left 1
  · intro W hW
    obtain ⟨g1, g2, g3, g4, g5, g6, g7⟩ := hW
    clear g1 g2 g7
    go_simp
    all_goals with_reducible rfl
  try simp only [Act.put, List.setIfInBounds_toArray, List.set_cons_zero, List.set_cons_succ, List.getElem_toArray, List.getElem_cons_succ, List.getElem_cons_zero, Array.toArray_toList]
  refine wpAnyH_take (i := 6) (v := ?_) rfl (by kernel_rfl) (by kernel_rfl) (by kernel_rfl) (fun _ _ _ h => h) (Or.inl ⟨by rfl, ?_⟩) hS ?_
  rotate_left 1
  · intro W hW
    obtain ⟨g1, g2, g3, g4, g5, g6, g7⟩ := hW
    clear g1 g2 g7
    go_simp
    all_goals with_reducible rfl
  try simp only [Act.put, List.setIfInBounds_toArray, List.set_cons_zero, List.set_cons_succ, List.getElem_toArray, List.getElem_cons_succ, List.getElem_cons_zero, Array.toArray_toList]
  refine wpAnyH_take (i := 7) rfl (by kernel_rfl) (by kernel_rfl) (by kernel_rfl) (fun _ _ _ h => h) (yieldsIf_load_mid (by rfl) _ _ rfl _ _ rfl _ _ (fun W hW => ct_atA hW.2.1.1 k hk) Try.underlying44 rfl (info44c _)) hS ?_
  try simp only [Act.put, List.setIfInBounds_toArray, List.set_cons_zero, List.set_cons_succ, List.getElem_toArray, List.getElem_cons_succ, List.getElem_cons_zero, Array.toArray_toList]
  change wpAnyH _ _ _ _ _ _ _ _ _
  rw [← AP1.out]
  refine wpAnyH_take (i := 8) (v := ?_) rfl (by kernel_rfl) (by kernel_rfl) (by kernel_rfl) (fun _ _ _ h => h) (Or.inl ⟨by rfl, ?_⟩) hS ?_
  rotate_left 1
  · intro W hW
    obtain ⟨g1, g2, g3, g4, g5, g6, g7⟩ := hW
    clear g1 g2 g7
    go_simp
    all_goals with_reducible rfl
  try simp only [Act.put, List.setIfInBounds_toArray, List.set_cons_zero, List.set_cons_succ, List.getElem_toArray, List.getElem_cons_succ, List.getElem_cons_zero, Array.toArray_toList]
  refine wpAnyH_take (i := 9) (v := ?_) rfl (by kernel_rfl) (by kernel_rfl) (by kernel_rfl) (fun _ _ _ h => h) (Or.inl ⟨by rfl, ?_⟩) hS ?_
  rotate_left 1
  · intro W hW
    obtain ⟨g1, g2, g3, g4, g5, g6, g7⟩ := hW
    clear g1 g2 g7
    go_simp
    all_goals with_reducible rfl
  try simp only [Act.put, List.setIfInBounds_toArray, List.set_cons_zero, List.set_cons_succ, List.getElem_toArray, List.getElem_cons_succ, List.getElem_cons_zero, Array.toArray_toList]
  refine wpAnyH_take (i := 10) (v := ?_) rfl (by kernel_rfl) (by kernel_rfl) (by kernel_rfl) (fun _ _ _ h => h) (Or.inl ⟨by rfl, ?_⟩) hS ?_
  rotate_left 1
  · intro W hW
    obtain ⟨g1, g2, g3, g4, g5, g6, g7⟩ := hW
    clear g1 g2 g7
    go_simp
    all_goals with_reducible rfl
  try simp only [Act.put, List.setIfInBounds_toArray, List.set_cons_zero, List.set_cons_succ, List.getElem_toArray, List.getElem_cons_succ, List.getElem_cons_zero, Array.toArray_toList]
  refine wpAnyH_take (i := 11) (v := ?_) rfl (by kernel_rfl) (by kernel_rfl) (by kernel_rfl) (fun _ _ _ h => h) (Or.inl ⟨by rfl, ?_⟩) hS ?_
  rotate_left 1
  · intro W hW
    obtain ⟨g1, g2, g3, g4, g5, g6, g7⟩ := hW
    clear g1 g2 g7
    go_simp
    all_goals with_reducible rfl
  try simp only [Act.put, List.setIfInBounds_toArray, List.set_cons_zero, List.set_cons_succ, List.getElem_toArray, List.getElem_cons_succ, List.getElem_cons_zero, Array.toArray_toList]
  refine wpAnyH_take (i := 12) (v := ?_) rfl (by kernel_rfl) (by kernel_rfl) (by kernel_rfl) (fun _ _ _ h => h) (Or.inl ⟨by rfl, ?_⟩) hS ?_
  rotate_left 1
  · intro W hW
    obtain ⟨g1, g2, g3, g4, g5, g6, g7⟩ := hW
    clear g1 g2 g7
    go_simp
    all_goals with_reducible rfl
  try simp only [Act.put, List.setIfInBounds_toArray, List.set_cons_zero, List.set_cons_succ, List.getElem_toArray, List.getElem_cons_succ, List.getElem_cons_zero, Array.toArray_toList]
  refine wpAnyH_take (i := 13) (v := ?_) rfl (by kernel_rfl) (by kernel_rfl) (by kernel_rfl) (fun _ _ _ h => h) (Or.inl ⟨by rfl, ?_⟩) hS ?_
  rotate_left 1
  · intro W hW
    obtain ⟨g1, g2, g3, g4, g5, g6, g7⟩ := hW
    clear g1 g2 g7
    go_simp
    all_goals with_reducible rfl
  try simp only [Act.put, List.setIfInBounds_toArray, List.set_cons_zero, List.set_cons_succ, List.getElem_toArray, List.getElem_cons_succ, List.getElem_cons_zero, Array.toArray_toList]
  refine wpAnyH_take (i := 14) (v := ?_) rfl (by kernel_rfl) (by kernel_rfl) (by kernel_rfl) (fun _ _ _ h => h) (Or.inl ⟨by rfl, ?_⟩) hS ?_
  rotate_left 1
  · intro W hW
    obtain ⟨g1, g2, g3, g4, g5, g6, g7⟩ := hW
    clear g1 g2 g7
    go_simp
    all_goals with_reducible rfl
  try simp only [Act.put, List.setIfInBounds_toArray, List.set_cons_zero, List.set_cons_succ, List.getElem_toArray, List.getElem_cons_succ, List.getElem_cons_zero, Array.toArray_toList]
  refine wpAnyH_take (i := 15) (v := ?_) rfl (by kernel_rfl) (by kernel_rfl) (by kernel_rfl) (fun _ _ _ h => h) (Or.inl ⟨by rfl, ?_⟩) hS ?_
  rotate_left 1
  · intro W hW
    obtain ⟨g1, g2, g3, g4, g5, g6, g7⟩ := hW
    clear g1 g2 g7
    go_simp
    all_goals with_reducible rfl
  try simp only [Act.put, List.setIfInBounds_toArray, List.set_cons_zero, List.set_cons_succ, List.getElem_toArray, List.getElem_cons_succ, List.getElem_cons_zero, Array.toArray_toList]
  refine wpAnyH_take (i := 16) (v := ?_) rfl (by kernel_rfl) (by kernel_rfl) (by kernel_rfl) (fun _ _ _ h => h) (Or.inl ⟨by rfl, ?_⟩) hS ?_
  rotate_left 1
  · intro W hW
    obtain ⟨g1, g2, g3, g4, g5, g6, g7⟩ := hW
    clear g1 g2 g7
    go_simp
    all_goals with_reducible rfl
  try simp only [Act.put, List.setIfInBounds_toArray, List.set_cons_zero, List.set_cons_succ, List.getElem_toArray, List.getElem_cons_succ, List.getElem_cons_zero, Array.toArray_toList]
  refine wpAnyH_take (i := 17) (v := ?_) rfl (by kernel_rfl) (by kernel_rfl) (by kernel_rfl) (fun _ _ _ h => h) (Or.inl ⟨by rfl, ?_⟩) hS ?_
  rotate_left 1
  · intro W hW
    obtain ⟨g1, g2, g3, g4, g5, g6, g7⟩ := hW
    clear g1 g2 g7
    go_simp
    all_goals with_reducible rfl
  try simp only [Act.put, List.setIfInBounds_toArray, List.set_cons_zero, List.set_cons_succ, List.getElem_toArray, List.getElem_cons_succ, List.getElem_cons_zero, Array.toArray_toList]
  refine wpAnyH_take (i := 18) (v := ?_) rfl (by kernel_rfl) (by kernel_rfl) (by kernel_rfl) (fun _ _ _ h => h) (Or.inl ⟨by rfl, ?_⟩) hS ?_
  rotate_left 1
  · intro W hW
    obtain ⟨g1, g2, g3, g4, g5, g6, g7⟩ := hW
    clear g1 g2 g7
    go_simp
    all_goals with_reducible rfl
  try simp only [Act.put, List.setIfInBounds_toArray, List.set_cons_zero, List.set_cons_succ, List.getElem_toArray, List.getElem_cons_succ, List.getElem_cons_zero, Array.toArray_toList]
  refine wpAnyH_take (i := 19) (v := ?_) rfl (by kernel_rfl) (by kernel_rfl) (by kernel_rfl) (fun _ _ _ h => h) (Or.inl ⟨by rfl, ?_⟩) hS ?_
  rotate_left 1
  · intro W hW
    obtain ⟨g1, g2, g3, g4, g5, g6, g7⟩ := hW
    clear g1 g2 g7
    go_simp
    all_goals with_reducible rfl
  try simp only [Act.put, List.setIfInBounds_toArray, List.set_cons_zero, List.set_cons_succ, List.getElem_toArray, List.getElem_cons_succ, List.getElem_cons_zero, Array.toArray_toList]
  refine wpAnyH_take (i := 20) (v := ?_) rfl (by kernel_rfl) (by kernel_rfl) (by kernel_rfl) (fun _ _ _ h => h) (Or.inl ⟨by rfl, ?_⟩) hS ?_
  rotate_left 1
  · intro W hW
    obtain ⟨g1, g2, g3, g4, g5, g6, g7⟩ := hW
    clear g1 g2 g7
    go_simp
    all_goals with_reducible rfl
  try simp only [Act.put, List.setIfInBounds_toArray, List.set_cons_zero, List.set_cons_succ, List.getElem_toArray, List.getElem_cons_succ, List.getElem_cons_zero, Array.toArray_toList]
  refine wpAnyH_take (i := 21) (v := ?_) rfl (by kernel_rfl) (by kernel_rfl) (by kernel_rfl) (fun _ _ _ h => h) (Or.inl ⟨by rfl, ?_⟩) hS ?_
  rotate_left 1
  · intro W hW
    obtain ⟨g1, g2, g3, g4, g5, g6, g7⟩ := hW
    clear g1 g2 g7
    go_simp
    all_goals with_reducible rfl
  try simp only [Act.put, List.setIfInBounds_toArray, List.set_cons_zero, List.set_cons_succ, List.getElem_toArray, List.getElem_cons_succ, List.getElem_cons_zero, Array.toArray_toList]
  refine wpAnyH_take (i := 22) (v := ?_) rfl (by kernel_rfl) (by kernel_rfl) (by kernel_rfl) (fun _ _ _ h => h) (Or.inl ⟨by rfl, ?_⟩) hS ?_
  rotate_left 1
  · intro W hW
    obtain ⟨g1, g2, g3, g4, g5, g6, g7⟩ := hW
    clear g1 g2 g7
    go_simp
    all_goals with_reducible rfl
  try simp only [Act.put, List.setIfInBounds_toArray, List.set_cons_zero, List.set_cons_succ, List.getElem_toArray, List.getElem_cons_succ, List.getElem_cons_zero, Array.toArray_toList]
  refine wpAnyH_take (i := 23) (v := ?_) rfl (by kernel_rfl) (by kernel_rfl) (by kernel_rfl) (fun _ _ _ h => h) (Or.inl ⟨by rfl, ?_⟩) hS ?_
  rotate_left 1
  · intro W hW
    obtain ⟨g1, g2, g3, g4, g5, g6, g7⟩ := hW
    clear g1 g2 g7
    go_simp
    all_goals with_reducible rfl
  try simp only [Act.put, List.setIfInBounds_toArray, List.set_cons_zero, List.set_cons_succ, List.getElem_toArray, List.getElem_cons_succ, List.getElem_cons_zero, Array.toArray_toList]
  refine wpAnyH_take (i := 24) (v := ?_) rfl (by kernel_rfl) (by kernel_rfl) (by kernel_rfl) (fun _ _ _ h => h) (Or.inl ⟨by rfl, ?_⟩) hS ?_
  rotate_left 1
  · intro W hW
    obtain ⟨g1, g2, g3, g4, g5, g6, g7⟩ := hW
    clear g1 g2 g7
    go_simp
    all_goals with_reducible rfl
  try simp only [Act.put, List.setIfInBounds_toArray, List.set_cons_zero, List.set_cons_succ, List.getElem_toArray, List.getElem_cons_succ, List.getElem_cons_zero, Array.toArray_toList]
  refine wpAnyH_take (i := 25) (v := ?_) rfl (by kernel_rfl) (by kernel_rfl) (by kernel_rfl) (fun _ _ _ h => h) (Or.inl ⟨by rfl, ?_⟩) hS ?_
  rotate_left 1
  · intro W hW
    obtain ⟨g1, g2, g3, g4, g5, g6, g7⟩ := hW
    clear g1 g2 g7
    go_simp
    all_goals with_reducible rfl
  try simp only [Act.put, List.setIfInBounds_toArray, List.set_cons_zero, List.set_cons_succ, List.getElem_toArray, List.getElem_cons_succ, List.getElem_cons_zero, Array.toArray_toList]
  refine wpAnyH_done (by kernel_rfl) ?_ _
  have hbl := hS.2.2.2.2.2.2
  clear hS
  go_wp2_with fail
  go_returns
  exact ⟨rfl, hbl⟩
end Go.Proofs.Ytmoafjgogbcoeaa
