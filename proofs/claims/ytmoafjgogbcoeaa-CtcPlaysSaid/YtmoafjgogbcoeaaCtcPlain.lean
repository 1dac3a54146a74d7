/- charabanclaw23.plain by its contract: the cells are the same. -/
import Derived.Test.YtmoafjgogbcoeaaCtcPend
namespace Go.Proofs.Ytmoafjgogbcoeaa
open Go.RowKit
set_option linter.unusedVariables false
set_option linter.unusedSimpArgs false
set_option maxRecDepth 100000

theorem ch_cells0 {w : World} {B : Nat} {x : M.Ch} (h : w.rangeAt B 0 x.a.toList) : w.cell? ⟨B, 0, none⟩ = some (.int .u8 x.con) ∧ w.cell? ⟨B, 1, none⟩ = some (.int .u8 x.cst) ∧ w.cell? ⟨B, 2, none⟩ = some (.int .i64 x.cnt) ∧ w.cell? ⟨B, 3, none⟩ = some (.int .i64 x.pre)
    ∧ w.cell? ⟨B, 4, none⟩ = some (.bool x.runs) ∧ w.cell? ⟨B, 5, none⟩ = some (.bool x.waits) ∧ w.cell? ⟨B, 6, none⟩ = some (.bool x.wants) ∧ w.cell? ⟨B, 7, none⟩ = some (.bool x.pend) :=
  ⟨h 0 _ rfl, h 1 _ rfl, h 2 _ rfl, h 3 _ rfl, h 4 _ rfl, h 5 _ rfl, h 6 _ rfl, h 7 _ rfl⟩
/-- What stands at the head of the loop: the counters' box, the result's zero, and the copy whose first k channels are done. -/
structure PI (w W : World) (H : Nat) (c d : M.Ct) : Prop where
  box : CtAt W H c
  res : W.there (H + 1) 0 33
  out : CtAt W (H + 1 + 1) d
  size : H + 3 ≤ W.heap.size
  below : Below H w W
def M.copyC (c : M.Ct) : Nat → M.Ct
  | 0 => { M.ct0 with vec := c.vec }
  | k + 1 => (M.copyC c k).set (c.at k) k
theorem copy_four (c : M.Ct) : M.copyC c 4 = c := by cases c; rfl
theorem PI.touch {w W W' : World} {H b o n : Nat} {c d : M.Ct} (h : PI w W H c d) (ht : Touch b o n W W') (hb : H + 3 ≤ b) : PI w W' H c d :=
  have hs := h.size
  ⟨h.box.touch ht (by omega), there_touch h.res ht (by omega) (by omega), h.out.touch ht (by omega), Nat.le_trans hs ht.size, ht.below _ _ (by omega) (by omega) h.below⟩
theorem PI.alloc {w W : World} {H : Nat} {c d : M.Ct} (h : PI w W H c d) (ob : Obj) : PI w (W.alloc ob) H c d :=
  have hs := h.size
  ⟨h.box.alloc ob, there_allocA h.res ob, h.out.alloc ob, by simp; omega, h.below.alloc (by omega) ob⟩
theorem PI.set {w W W' : World} {H : Nat} {c d : M.Ct} {x : M.Ch} (h : PI w W H c d) (k : Nat) (hk : k < 4) (hr : W'.rangeAt (H + 1 + 1) (8 * k) x.v) (ht : Touch (H + 1 + 1) (8 * k) 8 W W') : PI w W' H c (d.set x k) :=
  have hs := h.size
  ⟨h.box.touch ht (by omega), there_touch h.res ht (by omega) (by omega), (ct_turn h.out k hk hr ht).1, Nat.le_trans hs ht.size, ht.below _ _ (by omega) (by omega) h.below⟩
set_option maxHeartbeats 2000000 in
theorem plain_any (c : M.Ct) (w : World) : Calls Try.prog 31 #[.agg c.a] w fun e w' => e = .returned (.agg c.a) ∧ Below w.heap.size w w' := by
  have hs := ct_size c
  have g32 : c.a[32]'(by rw [hs]; decide) = .int .u8 c.vec := rfl
  obtain ⟨Z, hZs, hZ'⟩ := zero51
  have hZ := Lib.hid hZ'
  obtain ⟨Z8, hZ8s, hZ8'⟩ := zero44
  have hZ8 := Lib.hid hZ8'
  clear hZ' hZ8'
  have h0 : M.copyC c 0 = { M.ct0 with vec := c.vec } := rfl
  have hz0 : ({ M.ct0 with vec := c.vec } : M.Ct).a = #[.int .u8 0, .int .u8 0, .int .i64 0, .int .i64 0, .bool false, .bool false, .bool false, .bool false, .int .u8 0, .int .u8 0, .int .i64 0, .int .i64 0, .bool false, .bool false, .bool false, .bool false, .int .u8 0, .int .u8 0, .int .i64 0, .int .i64 0, .bool false, .bool false, .bool false, .bool false, .int .u8 0, .int .u8 0, .int .i64 0, .int .i64 0, .bool false, .bool false, .bool false, .bool false, .int .u8 c.vec] := rfl
  have hZ0 := Lib.hid hz0
  clear hz0
  go_enter Try.func31, Try.ntmps31
  go_wp2_with (first
    | ((with_reducible refine is_allocT 51 rfl ?_); refine wpList_alloc_row rfl _ rfl Z hZ.out ?_)
    | ((with_reducible refine is_storeT 51 rfl ?_); refine wpList_store_rowT rfl _ _ _ rfl _ _ ({ M.ct0 with vec := c.vec } : M.Ct).a rfl (by rw [hZ0.out]; rfl) (there_newB _ _ _ _ (by simp) (by rw [ct_size]; omega)) (info51c _) (ct_one _) ?_; intro W hW hT))
  have hszX : ((w.alloc (.cells c.a 47)).alloc (.cells Z 51)).heap.size = w.heap.size + 1 + 1 := by simp
  rw [hszX] at hW hT
  have hI : PI w W w.heap.size c (M.copyC c 0) :=
    ⟨(((ct_new _ _ _).alloc _).alloc _).touch hT (by omega), there_touch (there_allocA (there_newB _ _ _ _ (by simp) (by omega)) _) hT (by simp) (by omega),
     ⟨hW, (free_new _ Z _ 33 : Free (((w.alloc (.cells c.a 47)).alloc (.cells Z 51)).alloc (.cells Z 51)) _ 0 33) |> fun h => (hszX ▸ h).touch hT (by simp), Nat.lt_of_lt_of_le (by simp) hT.size⟩,
     Nat.le_trans (by simp) hT.size, hT.below _ _ (by omega) (by simp; omega) (by go_grown)⟩
  clear hW hT hZ0 h0 hszX
  go_loopw [4] (fun i wr => ∃ k : Nat, k ≤ 4 ∧ i = .int .i64 k ∧ PI w wr w.heap.size c (M.copyC c k)) (fun i _ => 4 - (intOf i).toNat)
  case atStart => exact ⟨0, Nat.zero_le _, rfl, hI⟩
  case round =>
    clear hI
    obtain ⟨k, hk, rfl, hI⟩ := hrel
    by_cases hlt : k < 4
    · have hlt' : (k : Int) < 4 := by omega
      have hlt0 : (0 : Int) ≤ (k : Int) := by omega
      have hB := hI.size
      have hkk : k * 8 = 8 * k := Nat.mul_comm _ _
      obtain ⟨D, hDd⟩ : ∃ D, D = M.copyC c k := ⟨_, rfl⟩
      obtain ⟨X, hXd⟩ : ∃ X, X = c.at k := ⟨_, rfl⟩
      rw [← hDd] at hI
      have hDD := Lib.hid hDd
      have hXD := Lib.hid hXd
      have hld : wr.rangeAt w.heap.size (8 * k) X.a.toList := by rw [hXd]; exact ct_at hI.box.1 k hlt
      have hLD := Lib.hid hld
      have hI0 := Lib.hid (hI.alloc (.cells Z8 44))
      clear hDd hXd hld hI
      go_wp2_with (first
        | ((with_reducible refine is_allocT 44 rfl ?_); refine wpList_alloc_row rfl _ rfl Z8 hZ8.out ?_)
        | ((with_reducible refine is_loadT 44 rfl ?_); refine wpList_load_row rfl _ _ rfl _ _ rfl _ Try.underlying44 rfl X.a hLD.out (info44c _) ?_)
        | ((with_reducible refine is_storeT 44 rfl ?_); refine wpList_store_rowT rfl _ _ _ rfl _ _ X.a rfl rfl (there_newB _ _ _ _ rfl (by rw [ch_size]; omega)) (info44c _) (ch_one _) ?_; intro W hW hT; obtain ⟨c0, c1, c2, c3, c4, c5, c6, c7⟩ := ch_cells0 hW; have hI1 := Lib.hid (hI0.out.touch hT (by omega)); clear hW hT)
        | ((with_reducible refine is_storeT 48 rfl ?_); refine wpList_store_rowT rfl _ _ _ rfl _ (8 * k) X.a rfl rfl (by rw [ch_size]; exact there_of (ct_at hI1.out.out.1 k hlt) (hI1.out.out.2.1.part _ _ (by omega) (by omega)) (Nat.le_refl _)) (info48c _) (ch_one _) ?_; intro W3 hW3 hT3; rw [ch_size] at hT3; have hK := Lib.hid (hI1.out.set k hlt hW3 hT3); clear hW3 hT3))
      go_round
      case rel => exact ⟨k + 1, by omega, by simp, by rw [show M.copyC c (k + 1) = D.set X k by rw [hXD.out, hDD.out]; rfl]; exact hK.out⟩
      case measure => simp [intOf]; omega
    · have : k = 4 := by omega
      subst this
      rw [copy_four] at hI
      have hB := hI.size
      have hI0 := Lib.hid hI
      clear hI
      go_wp2_with (first
        | ((with_reducible refine is_loadT 51 rfl ?_); refine wpList_load_row rfl _ _ rfl _ _ rfl _ Try.underlying51 rfl c.a hI0.out.out.1 (info51c _) ?_)
        | ((with_reducible refine is_storeT 51 rfl ?_); refine wpList_store_rowT rfl _ _ _ rfl _ _ c.a rfl rfl (by rw [ct_size]; exact hI0.out.res) (info51c _) (ct_one _) ?_; intro W hW hT))
      refine bodyPost_ret (results_row rfl _ _ _ _ c.a _ rfl hW Try.underlying51 rfl (info51c _)) rfl ?_
      exact ⟨rfl, hT.below _ _ (by omega) (by omega) hI0.out.below⟩
end Go.Proofs.Ytmoafjgogbcoeaa
