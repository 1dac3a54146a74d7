/- The program's Write (dmareg), by its contract. -/
import Derived.Test.YtkkkjdbcckaedaaRgTake
import Derived.Test.YtkkkjdbcckaedaaRgBas2
namespace Go.Proofs.Ytkkkjdbcckaedaa
open Go.RowKit
set_option linter.unusedVariables false
set_option linter.unusedSimpArgs false
set_option maxRecDepth 100000
set_option maxHeartbeats 16000000 in
theorem dwrite_any (r : M.Rg) (hr : r.ok) (hL : r.want.length ≤ 9000) (A : Option Addr) (c : Nat) (b : Int) (h0 : 0 ≤ b) (h1 : b ≤ 255) (w : World) (r1 : Ls 0 w (.slice A r.want.length c) (ints .i64 r.want)) :
    Calls Try.prog 45 #[.agg (r.c (.slice A r.want.length c)), .int .u8 b] w fun e w' => ∃ A' c', e = .returned (.tuple #[.agg ((M.rWrite r b).c (.slice A' (M.rWrite r b).want.length c')), .int .u8 (M.rWriteC r b)]) ∧ Ls w.heap.size w' (.slice A' (M.rWrite r b).want.length c') (ints .i64 (M.rWrite r b).want) ∧ Below w.heap.size w w' := by
  have hS := St.start w.heap.size 0 0 w
  cases hw : r.want with
  | cons k rest =>
    have e1 : M.rWrite r b = M.rTake r b k rest := by simp only [M.rWrite, hw]
    have e2 : M.rWriteC r b = 0 := by simp [M.rWriteC, hw]
    rw [e1, e2]
    clear e1 e2
    rw [hw] at r1 hL
    simp only [List.length_cons] at r1 hL ⊢
    obtain ⟨bq, q, c', hs, _, _, hcl⟩ := r1.at_ (i := 0) (by simp)
    simp only [Value.slice.injEq] at hs
    obtain ⟨rfl, -, rfl⟩ := hs
    have hbq : bq < w.heap.size := World.block_lt_of_cell? w _ hcl
    have ht := fun B W hat hW (hne : B ≠ bq) => dtake_any B r hr k rest (by omega) bq q c b h0 h1 W hat (r1.below hW) hne
    generalize M.rTake r b k rest = R at ht ⊢
    have HT := Lib.hid ht
    clear ht hw hL r1 hcl
    have hc1 : (0 : Int) < ((rest.length : Nat) : Int) + 1 := by omega
    go_enter Try.func45, Try.ntmps45
    go_wp2_with (first
  | ((with_reducible refine to_boxT 27 rfl ?_); refine Wl_box hS (fun _ => by rfl) _ rfl ?_; clear hS; intro b2 wW hS; simp only [nA])
  | ((with_reducible refine to_alloc 27 rfl ?_); refine Wl_alloc hS (fun _ => by rfl) _ rgZ ?_; clear hS; intro b4 wW hS; simp only [nA])
  | ((with_reducible first | refine to_load 25 rfl ?_); refine Wl_load1 hS (fun _ => by rfl) _ _ rfl (scT _ rfl) ?_; (repeat (first | refine Look.here (of_decide_eq_true rfl) rfl ?_ | refine Look.next ?_)); (with_reducible show wpList _ _ _ _ _ _); simp only [nA])
  )
    refine (HT.out b2 _ (hS.rgAt (.tail _ (.head _))) hS.below (by
      have := (hS.good _ (.tail _ (.head _))).own rfl
      have h2 : w.heap.size ≤ b2 := by rcases this with h | ⟨h, _⟩; exact h; exact Nat.le_of_eq h.symm
      omega)).mono ?_
    rintro e w1 ⟨A1, c1, rfl, hr1, hl, ht⟩
    have hfA1 := fun e he => Nat.le_trans hS.size (hl.ent e he).1
    have hshA1 := hl.shp
    replace hS := hS.callTN (.tail _ (.head _ _ _ _ _)) hr1 ht rfl hl
    simp only [List.cons_append, List.nil_append] at hS
    clear hr1 hl ht
    go_wp2_with (first
  | ((with_reducible refine to_load 27 rfl ?_); refine Wl_load hS (fun _ => by rfl) _ _ rfl _ Try.underlying27 rfl ?_; (repeat (first | (refine Row.here ⟨rgI.trans rfl, ?_⟩) | refine Row.next ?_)); (with_reducible show wpList _ _ _ _ _ _); simp only [nA])
  | ((with_reducible refine to_store 27 rfl ?_); refine Wl_store hS (fun _ => by rfl) _ _ _ rfl rfl (rgI.trans rfl) (rg_one _ _ _ _) ?_; (repeat (first | refine Turn.here rfl ?_)); clear hS; intro wW hS; try simp only [nA]))
    refine ret_tmp_st hS rfl _ _ rfl _ rfl rfl _ Try.underlying27 rfl ?_
    repeat (first | (refine Row.here ⟨rgI.trans rfl, ?_⟩))
    exact ⟨A1, c1, rfl, hS.lsF hshA1 hfA1 (fun e he => by repeat (first | exact he | refine List.Mem.tail _ ?_)), hS.below⟩
  | nil =>
    have e1 : M.rWrite r b = M.rBase r b := by simp only [M.rWrite, hw]
    have e2 : M.rWriteC r b = M.rBaseC b := by simp [M.rWriteC, hw]
    rw [e1, e2]
    clear e1 e2
    rw [hw] at r1
    simp only [List.length_nil] at r1 ⊢
    have hcm : c ≤ maxLen := by
      obtain ⟨A', c', hs, g1, g2, _⟩ := r1.shp
      simp only [Value.slice.injEq] at hs
      obtain ⟨-, -, rfl⟩ := hs
      exact g2
    clear r1 hL
    have ht := fun B W hat => dbase_any B r hw A c hcm b h0 h1 W hat
    generalize M.rBase r b = R at ht ⊢
    generalize M.rBaseC b = C at ht ⊢
    have HT := Lib.hid ht
    clear ht
    go_enter Try.func45, Try.ntmps45
    go_wp2_with (first
  | ((with_reducible refine to_boxT 27 rfl ?_); refine Wl_box hS (fun _ => by rfl) _ rfl ?_; clear hS; intro b2 wW hS; simp only [nA])
  | ((with_reducible refine to_alloc 27 rfl ?_); refine Wl_alloc hS (fun _ => by rfl) _ rgZ ?_; clear hS; intro b4 wW hS; simp only [nA])
  | ((with_reducible first | refine to_load 25 rfl ?_); refine Wl_load1 hS (fun _ => by rfl) _ _ rfl (scT _ rfl) ?_; (repeat (first | refine Look.here (of_decide_eq_true rfl) rfl ?_ | refine Look.next ?_)); (with_reducible show wpList _ _ _ _ _ _); simp only [nA])
  )
    refine (HT.out b2 _ (hS.rgAt (.tail _ (.head _)))).mono ?_
    rintro e w1 ⟨A1, c1, rfl, hr1, hl, ht⟩
    have hfA1 := fun e he => Nat.le_trans hS.size (hl.ent e he).1
    have hshA1 := hl.shp
    replace hS := hS.callTN (.tail _ (.head _ _ _ _ _)) hr1 ht rfl hl
    simp only [List.cons_append, List.nil_append] at hS
    clear hr1 hl ht
    go_wp2_with (first
  | ((with_reducible refine to_load 27 rfl ?_); refine Wl_load hS (fun _ => by rfl) _ _ rfl _ Try.underlying27 rfl ?_; (repeat (first | (refine Row.here ⟨rgI.trans rfl, ?_⟩) | refine Row.next ?_)); (with_reducible show wpList _ _ _ _ _ _); simp only [nA])
  | ((with_reducible refine to_store 27 rfl ?_); refine Wl_store hS (fun _ => by rfl) _ _ _ rfl rfl (rgI.trans rfl) (rg_one _ _ _ _) ?_; (repeat (first | refine Turn.here rfl ?_)); clear hS; intro wW hS; try simp only [nA]))
    refine ret_tmp_st hS rfl _ _ rfl _ rfl rfl _ Try.underlying27 rfl ?_
    repeat (first | (refine Row.here ⟨rgI.trans rfl, ?_⟩))
    exact ⟨A1, c1, rfl, hS.lsF hshA1 hfA1 (fun e he => by repeat (first | exact he | refine List.Mem.tail _ ?_)), hS.below⟩
end Go.Proofs.Ytkkkjdbcckaedaa
