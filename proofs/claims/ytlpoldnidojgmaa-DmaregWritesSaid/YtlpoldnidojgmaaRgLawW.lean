/- charabanclaw21.DmaregWrites is true at whatever was told, and whatever byte. -/
import Derived.Test.YtlpoldnidojgmaaRgAwake
namespace Go.Proofs.Ytlpoldnidojgmaa
open Go.RowKit
set_option linter.unusedVariables false
set_option linter.unusedSimpArgs false
set_option maxRecDepth 100000
set_option maxHeartbeats 16000000 in
theorem dwrites_true (r : M.Rg) (hr : r.ok) (A : Option Addr) (c : Nat) (b : Int) (h0 : 0 ≤ b) (h1 : b ≤ 255) (w : World) (r1 : Ls 0 w (.slice A r.want.length c) (ints .i64 r.want)) :
    Calls Try.prog 7 #[.agg (r.c (.slice A r.want.length c)), .int .u8 b] w fun e w' => e = .returned (.bool true) ∧ Below w.heap.size w w' := by
  have hsh := r1.shp
  have hS := (St.start w.heap.size 0 0 w).came r1
  simp only [List.nil_append] at hS
  by_cases g1 : 20 < r.want.length
  · clear r1
    go_enter Try.func7, Try.ntmps7
    go_wp2_with (first
  | ((with_reducible refine to_boxT 59 rfl ?_); refine Wl_box hS (fun _ => by rfl) _ rfl ?_; clear hS; intro b2 wW hS; simp only [Act.put, List.setIfInBounds_toArray, List.set_cons_zero, List.set_cons_succ])
  | ((with_reducible refine to_alloc 59 rfl ?_); refine Wl_alloc hS (fun _ => by rfl) _ rgZ ?_; clear hS; intro b6 wW hS; simp only [Act.put, List.setIfInBounds_toArray, List.set_cons_zero, List.set_cons_succ])
  | ((with_reducible refine to_alloc 62 rfl ?_); refine Wl_alloc hS (fun _ => by rfl) _ rrgZ ?_; clear hS; intro b8 wW hS; simp only [Act.put, List.setIfInBounds_toArray, List.set_cons_zero, List.set_cons_succ])
  | ((with_reducible first | refine to_load 3 rfl ?_ | refine to_load 4 rfl ?_ | refine to_load 5 rfl ?_ | refine to_load 56 rfl ?_ | refine to_load 57 rfl ?_); refine Wl_load1 hS (fun _ => by rfl) _ _ rfl (scT _ rfl) ?_; (repeat (first | refine Look.here (of_decide_eq_true rfl) rfl ?_ | refine Look.next ?_)); (with_reducible show wpList _ _ _ _ _ _); simp only [Act.put, List.setIfInBounds_toArray, List.set_cons_zero, List.set_cons_succ])
  | ((with_reducible refine to_load 59 rfl ?_); refine Wl_load hS (fun _ => by rfl) _ _ rfl _ Try.underlying59 rfl ?_; (repeat (first | (refine Row.here ⟨rgI.trans rfl, ?_⟩) | refine Row.next ?_)); (with_reducible show wpList _ _ _ _ _ _); simp only [Act.put, List.setIfInBounds_toArray, List.set_cons_zero, List.set_cons_succ])
  | ((with_reducible refine to_store 59 rfl ?_); refine Wl_store hS (fun _ => by rfl) _ _ _ rfl rfl (rgI.trans rfl) (rg_one _ _ _ _) ?_; (repeat (first | refine Turn.here rfl ?_ | refine Turn.next ?_)); clear hS; intro wW hS; try simp only [Act.put, List.setIfInBounds_toArray, List.set_cons_zero, List.set_cons_succ])
  | ((with_reducible refine to_store 62 rfl ?_); refine Wl_store hS (fun _ => by rfl) _ _ _ rfl rfl (rrgI.trans rfl) (rg_one _ _ _ _) ?_; (repeat (first | refine Turn.here rfl ?_ | refine Turn.next ?_)); clear hS; intro wW hS; try simp only [Act.put, List.setIfInBounds_toArray, List.set_cons_zero, List.set_cons_succ]))
    refine (dawake_any _).mono ?_
    rintro e w1 ⟨rfl, hb⟩
    replace hS := hS.call hb
    clear hb
    go_wp2_with (first
  | ((with_reducible refine to_boxT 59 rfl ?_); refine Wl_box hS (fun _ => by rfl) _ rfl ?_; clear hS; intro b2 wW hS; simp only [Act.put, List.setIfInBounds_toArray, List.set_cons_zero, List.set_cons_succ])
  | ((with_reducible refine to_alloc 59 rfl ?_); refine Wl_alloc hS (fun _ => by rfl) _ rgZ ?_; clear hS; intro b6 wW hS; simp only [Act.put, List.setIfInBounds_toArray, List.set_cons_zero, List.set_cons_succ])
  | ((with_reducible refine to_alloc 62 rfl ?_); refine Wl_alloc hS (fun _ => by rfl) _ rrgZ ?_; clear hS; intro b8 wW hS; simp only [Act.put, List.setIfInBounds_toArray, List.set_cons_zero, List.set_cons_succ])
  | ((with_reducible first | refine to_load 3 rfl ?_ | refine to_load 4 rfl ?_ | refine to_load 5 rfl ?_ | refine to_load 56 rfl ?_ | refine to_load 57 rfl ?_); refine Wl_load1 hS (fun _ => by rfl) _ _ rfl (scT _ rfl) ?_; (repeat (first | refine Look.here (of_decide_eq_true rfl) rfl ?_ | refine Look.next ?_)); (with_reducible show wpList _ _ _ _ _ _); simp only [Act.put, List.setIfInBounds_toArray, List.set_cons_zero, List.set_cons_succ])
  | ((with_reducible refine to_load 59 rfl ?_); refine Wl_load hS (fun _ => by rfl) _ _ rfl _ Try.underlying59 rfl ?_; (repeat (first | (refine Row.here ⟨rgI.trans rfl, ?_⟩) | refine Row.next ?_)); (with_reducible show wpList _ _ _ _ _ _); simp only [Act.put, List.setIfInBounds_toArray, List.set_cons_zero, List.set_cons_succ])
  | ((with_reducible refine to_store 59 rfl ?_); refine Wl_store hS (fun _ => by rfl) _ _ _ rfl rfl (rgI.trans rfl) (rg_one _ _ _ _) ?_; (repeat (first | refine Turn.here rfl ?_ | refine Turn.next ?_)); clear hS; intro wW hS; try simp only [Act.put, List.setIfInBounds_toArray, List.set_cons_zero, List.set_cons_succ])
  | ((with_reducible refine to_store 62 rfl ?_); refine Wl_store hS (fun _ => by rfl) _ _ _ rfl rfl (rrgI.trans rfl) (rg_one _ _ _ _) ?_; (repeat (first | refine Turn.here rfl ?_ | refine Turn.next ?_)); clear hS; intro wW hS; try simp only [Act.put, List.setIfInBounds_toArray, List.set_cons_zero, List.set_cons_succ]))
    go_returns
    exact ⟨rfl, hS.below⟩
  · have hw := fun W hW => dwrite_any r hr (by omega) A c b h0 h1 W hW
    have hv := fun W hW => rwrite_any r hr (by omega) A c b h0 h1 W hW
    have hp := fun W => plain_any r A r.want.length c W
    have hRl := M.rWrite_len r b
    have hml : (M.rWrite r b).want.length ≤ maxLen := by simp only [maxLen]; omega
    have hs := fun A1 c1 A2 c2 W g1 g2 => rsame_any (M.rWrite r b) A1 c1 A2 c2 hml W g1 g2
    generalize M.rWrite r b = R at hw hv hs
    generalize M.rWriteC r b = C at hw hv
    have HW := Lib.hid hw
    have HV := Lib.hid hv
    have HP := Lib.hid hp
    have HS := Lib.hid hs
    clear hw hv hp hs r1 hr hRl hml
    go_enter Try.func7, Try.ntmps7
    go_wp2_with (first
  | ((with_reducible refine to_boxT 59 rfl ?_); refine Wl_box hS (fun _ => by rfl) _ rfl ?_; clear hS; intro b2 wW hS; simp only [Act.put, List.setIfInBounds_toArray, List.set_cons_zero, List.set_cons_succ])
  | ((with_reducible refine to_alloc 59 rfl ?_); refine Wl_alloc hS (fun _ => by rfl) _ rgZ ?_; clear hS; intro b6 wW hS; simp only [Act.put, List.setIfInBounds_toArray, List.set_cons_zero, List.set_cons_succ])
  | ((with_reducible refine to_alloc 62 rfl ?_); refine Wl_alloc hS (fun _ => by rfl) _ rrgZ ?_; clear hS; intro b8 wW hS; simp only [Act.put, List.setIfInBounds_toArray, List.set_cons_zero, List.set_cons_succ])
  | ((with_reducible first | refine to_load 3 rfl ?_ | refine to_load 4 rfl ?_ | refine to_load 5 rfl ?_ | refine to_load 56 rfl ?_ | refine to_load 57 rfl ?_); refine Wl_load1 hS (fun _ => by rfl) _ _ rfl (scT _ rfl) ?_; (repeat (first | refine Look.here (of_decide_eq_true rfl) rfl ?_ | refine Look.next ?_)); (with_reducible show wpList _ _ _ _ _ _); simp only [Act.put, List.setIfInBounds_toArray, List.set_cons_zero, List.set_cons_succ])
  | ((with_reducible refine to_load 59 rfl ?_); refine Wl_load hS (fun _ => by rfl) _ _ rfl _ Try.underlying59 rfl ?_; (repeat (first | (refine Row.here ⟨rgI.trans rfl, ?_⟩) | refine Row.next ?_)); (with_reducible show wpList _ _ _ _ _ _); simp only [Act.put, List.setIfInBounds_toArray, List.set_cons_zero, List.set_cons_succ])
  | ((with_reducible refine to_store 59 rfl ?_); refine Wl_store hS (fun _ => by rfl) _ _ _ rfl rfl (rgI.trans rfl) (rg_one _ _ _ _) ?_; (repeat (first | refine Turn.here rfl ?_ | refine Turn.next ?_)); clear hS; intro wW hS; try simp only [Act.put, List.setIfInBounds_toArray, List.set_cons_zero, List.set_cons_succ])
  | ((with_reducible refine to_store 62 rfl ?_); refine Wl_store hS (fun _ => by rfl) _ _ _ rfl rfl (rrgI.trans rfl) (rg_one _ _ _ _) ?_; (repeat (first | refine Turn.here rfl ?_ | refine Turn.next ?_)); clear hS; intro wW hS; try simp only [Act.put, List.setIfInBounds_toArray, List.set_cons_zero, List.set_cons_succ]))
    refine (dawake_any _).mono ?_
    rintro e w1 ⟨rfl, hb⟩
    replace hS := hS.call hb
    clear hb
    go_wp2_with (first
  | ((with_reducible refine to_boxT 59 rfl ?_); refine Wl_box hS (fun _ => by rfl) _ rfl ?_; clear hS; intro b2 wW hS; simp only [Act.put, List.setIfInBounds_toArray, List.set_cons_zero, List.set_cons_succ])
  | ((with_reducible refine to_alloc 59 rfl ?_); refine Wl_alloc hS (fun _ => by rfl) _ rgZ ?_; clear hS; intro b6 wW hS; simp only [Act.put, List.setIfInBounds_toArray, List.set_cons_zero, List.set_cons_succ])
  | ((with_reducible refine to_alloc 62 rfl ?_); refine Wl_alloc hS (fun _ => by rfl) _ rrgZ ?_; clear hS; intro b8 wW hS; simp only [Act.put, List.setIfInBounds_toArray, List.set_cons_zero, List.set_cons_succ])
  | ((with_reducible first | refine to_load 3 rfl ?_ | refine to_load 4 rfl ?_ | refine to_load 5 rfl ?_ | refine to_load 56 rfl ?_ | refine to_load 57 rfl ?_); refine Wl_load1 hS (fun _ => by rfl) _ _ rfl (scT _ rfl) ?_; (repeat (first | refine Look.here (of_decide_eq_true rfl) rfl ?_ | refine Look.next ?_)); (with_reducible show wpList _ _ _ _ _ _); simp only [Act.put, List.setIfInBounds_toArray, List.set_cons_zero, List.set_cons_succ])
  | ((with_reducible refine to_load 59 rfl ?_); refine Wl_load hS (fun _ => by rfl) _ _ rfl _ Try.underlying59 rfl ?_; (repeat (first | (refine Row.here ⟨rgI.trans rfl, ?_⟩) | refine Row.next ?_)); (with_reducible show wpList _ _ _ _ _ _); simp only [Act.put, List.setIfInBounds_toArray, List.set_cons_zero, List.set_cons_succ])
  | ((with_reducible refine to_store 59 rfl ?_); refine Wl_store hS (fun _ => by rfl) _ _ _ rfl rfl (rgI.trans rfl) (rg_one _ _ _ _) ?_; (repeat (first | refine Turn.here rfl ?_ | refine Turn.next ?_)); clear hS; intro wW hS; try simp only [Act.put, List.setIfInBounds_toArray, List.set_cons_zero, List.set_cons_succ])
  | ((with_reducible refine to_store 62 rfl ?_); refine Wl_store hS (fun _ => by rfl) _ _ _ rfl rfl (rrgI.trans rfl) (rg_one _ _ _ _) ?_; (repeat (first | refine Turn.here rfl ?_ | refine Turn.next ?_)); clear hS; intro wW hS; try simp only [Act.put, List.setIfInBounds_toArray, List.set_cons_zero, List.set_cons_succ]))
    refine (HW.out _ (hS.ls hsh (fun e he => by repeat (first | exact he | exact List.mem_append_right _ he | exact List.mem_append_left _ he | exact List.mem_append_left _ (List.mem_append_right _ he) | exact List.mem_append_left _ (List.mem_append_left _ he) | refine List.Mem.tail _ ?_)))).mono ?_
    rintro e w1 ⟨A1, c1, rfl, hl, hbl⟩
    have hsh1 := hl.shp
    replace hS := hS.callN hbl hl
    simp only [List.cons_append, List.nil_append] at hS
    clear hl hbl
    go_wp2_with (first
  | ((with_reducible refine to_boxT 59 rfl ?_); refine Wl_box hS (fun _ => by rfl) _ rfl ?_; clear hS; intro b2 wW hS; simp only [Act.put, List.setIfInBounds_toArray, List.set_cons_zero, List.set_cons_succ])
  | ((with_reducible refine to_alloc 59 rfl ?_); refine Wl_alloc hS (fun _ => by rfl) _ rgZ ?_; clear hS; intro b6 wW hS; simp only [Act.put, List.setIfInBounds_toArray, List.set_cons_zero, List.set_cons_succ])
  | ((with_reducible refine to_alloc 62 rfl ?_); refine Wl_alloc hS (fun _ => by rfl) _ rrgZ ?_; clear hS; intro b8 wW hS; simp only [Act.put, List.setIfInBounds_toArray, List.set_cons_zero, List.set_cons_succ])
  | ((with_reducible first | refine to_load 3 rfl ?_ | refine to_load 4 rfl ?_ | refine to_load 5 rfl ?_ | refine to_load 56 rfl ?_ | refine to_load 57 rfl ?_); refine Wl_load1 hS (fun _ => by rfl) _ _ rfl (scT _ rfl) ?_; (repeat (first | refine Look.here (of_decide_eq_true rfl) rfl ?_ | refine Look.next ?_)); (with_reducible show wpList _ _ _ _ _ _); simp only [Act.put, List.setIfInBounds_toArray, List.set_cons_zero, List.set_cons_succ])
  | ((with_reducible refine to_load 59 rfl ?_); refine Wl_load hS (fun _ => by rfl) _ _ rfl _ Try.underlying59 rfl ?_; (repeat (first | (refine Row.here ⟨rgI.trans rfl, ?_⟩) | refine Row.next ?_)); (with_reducible show wpList _ _ _ _ _ _); simp only [Act.put, List.setIfInBounds_toArray, List.set_cons_zero, List.set_cons_succ])
  | ((with_reducible refine to_store 59 rfl ?_); refine Wl_store hS (fun _ => by rfl) _ _ _ rfl rfl (rgI.trans rfl) (rg_one _ _ _ _) ?_; (repeat (first | refine Turn.here rfl ?_ | refine Turn.next ?_)); clear hS; intro wW hS; try simp only [Act.put, List.setIfInBounds_toArray, List.set_cons_zero, List.set_cons_succ])
  | ((with_reducible refine to_store 62 rfl ?_); refine Wl_store hS (fun _ => by rfl) _ _ _ rfl rfl (rrgI.trans rfl) (rg_one _ _ _ _) ?_; (repeat (first | refine Turn.here rfl ?_ | refine Turn.next ?_)); clear hS; intro wW hS; try simp only [Act.put, List.setIfInBounds_toArray, List.set_cons_zero, List.set_cons_succ]))
    refine (HP.out _).mono ?_
    rintro e w1 ⟨rfl, hb⟩
    replace hS := hS.call hb
    clear hb
    go_wp2_with (first
  | ((with_reducible refine to_boxT 59 rfl ?_); refine Wl_box hS (fun _ => by rfl) _ rfl ?_; clear hS; intro b2 wW hS; simp only [Act.put, List.setIfInBounds_toArray, List.set_cons_zero, List.set_cons_succ])
  | ((with_reducible refine to_alloc 59 rfl ?_); refine Wl_alloc hS (fun _ => by rfl) _ rgZ ?_; clear hS; intro b6 wW hS; simp only [Act.put, List.setIfInBounds_toArray, List.set_cons_zero, List.set_cons_succ])
  | ((with_reducible refine to_alloc 62 rfl ?_); refine Wl_alloc hS (fun _ => by rfl) _ rrgZ ?_; clear hS; intro b8 wW hS; simp only [Act.put, List.setIfInBounds_toArray, List.set_cons_zero, List.set_cons_succ])
  | ((with_reducible first | refine to_load 3 rfl ?_ | refine to_load 4 rfl ?_ | refine to_load 5 rfl ?_ | refine to_load 56 rfl ?_ | refine to_load 57 rfl ?_); refine Wl_load1 hS (fun _ => by rfl) _ _ rfl (scT _ rfl) ?_; (repeat (first | refine Look.here (of_decide_eq_true rfl) rfl ?_ | refine Look.next ?_)); (with_reducible show wpList _ _ _ _ _ _); simp only [Act.put, List.setIfInBounds_toArray, List.set_cons_zero, List.set_cons_succ])
  | ((with_reducible refine to_load 59 rfl ?_); refine Wl_load hS (fun _ => by rfl) _ _ rfl _ Try.underlying59 rfl ?_; (repeat (first | (refine Row.here ⟨rgI.trans rfl, ?_⟩) | refine Row.next ?_)); (with_reducible show wpList _ _ _ _ _ _); simp only [Act.put, List.setIfInBounds_toArray, List.set_cons_zero, List.set_cons_succ])
  | ((with_reducible refine to_store 59 rfl ?_); refine Wl_store hS (fun _ => by rfl) _ _ _ rfl rfl (rgI.trans rfl) (rg_one _ _ _ _) ?_; (repeat (first | refine Turn.here rfl ?_ | refine Turn.next ?_)); clear hS; intro wW hS; try simp only [Act.put, List.setIfInBounds_toArray, List.set_cons_zero, List.set_cons_succ])
  | ((with_reducible refine to_store 62 rfl ?_); refine Wl_store hS (fun _ => by rfl) _ _ _ rfl rfl (rrgI.trans rfl) (rg_one _ _ _ _) ?_; (repeat (first | refine Turn.here rfl ?_ | refine Turn.next ?_)); clear hS; intro wW hS; try simp only [Act.put, List.setIfInBounds_toArray, List.set_cons_zero, List.set_cons_succ]))
    refine (HV.out _ (hS.ls hsh (fun e he => by repeat (first | exact he | exact List.mem_append_right _ he | exact List.mem_append_left _ he | exact List.mem_append_left _ (List.mem_append_right _ he) | exact List.mem_append_left _ (List.mem_append_left _ he) | refine List.Mem.tail _ ?_)))).mono ?_
    rintro e w1 ⟨A2, c2, rfl, hl, hbl⟩
    have hsh2 := hl.shp
    replace hS := hS.callN hbl hl
    simp only [List.cons_append, List.nil_append] at hS
    clear hl hbl
    go_wp2_with (first
  | ((with_reducible refine to_boxT 59 rfl ?_); refine Wl_box hS (fun _ => by rfl) _ rfl ?_; clear hS; intro b2 wW hS; simp only [Act.put, List.setIfInBounds_toArray, List.set_cons_zero, List.set_cons_succ])
  | ((with_reducible refine to_alloc 59 rfl ?_); refine Wl_alloc hS (fun _ => by rfl) _ rgZ ?_; clear hS; intro b6 wW hS; simp only [Act.put, List.setIfInBounds_toArray, List.set_cons_zero, List.set_cons_succ])
  | ((with_reducible refine to_alloc 62 rfl ?_); refine Wl_alloc hS (fun _ => by rfl) _ rrgZ ?_; clear hS; intro b8 wW hS; simp only [Act.put, List.setIfInBounds_toArray, List.set_cons_zero, List.set_cons_succ])
  | ((with_reducible first | refine to_load 3 rfl ?_ | refine to_load 4 rfl ?_ | refine to_load 5 rfl ?_ | refine to_load 56 rfl ?_ | refine to_load 57 rfl ?_); refine Wl_load1 hS (fun _ => by rfl) _ _ rfl (scT _ rfl) ?_; (repeat (first | refine Look.here (of_decide_eq_true rfl) rfl ?_ | refine Look.next ?_)); (with_reducible show wpList _ _ _ _ _ _); simp only [Act.put, List.setIfInBounds_toArray, List.set_cons_zero, List.set_cons_succ])
  | ((with_reducible refine to_load 59 rfl ?_); refine Wl_load hS (fun _ => by rfl) _ _ rfl _ Try.underlying59 rfl ?_; (repeat (first | (refine Row.here ⟨rgI.trans rfl, ?_⟩) | refine Row.next ?_)); (with_reducible show wpList _ _ _ _ _ _); simp only [Act.put, List.setIfInBounds_toArray, List.set_cons_zero, List.set_cons_succ])
  | ((with_reducible refine to_store 59 rfl ?_); refine Wl_store hS (fun _ => by rfl) _ _ _ rfl rfl (rgI.trans rfl) (rg_one _ _ _ _) ?_; (repeat (first | refine Turn.here rfl ?_ | refine Turn.next ?_)); clear hS; intro wW hS; try simp only [Act.put, List.setIfInBounds_toArray, List.set_cons_zero, List.set_cons_succ])
  | ((with_reducible refine to_store 62 rfl ?_); refine Wl_store hS (fun _ => by rfl) _ _ _ rfl rfl (rrgI.trans rfl) (rg_one _ _ _ _) ?_; (repeat (first | refine Turn.here rfl ?_ | refine Turn.next ?_)); clear hS; intro wW hS; try simp only [Act.put, List.setIfInBounds_toArray, List.set_cons_zero, List.set_cons_succ]))
    refine wp_region_held_drew (S := fun W => St w.heap.size 0 0 w [⟨b8, 0, true, R.c (.slice A2 R.want.length c2)⟩, ⟨b6, 0, true, R.c (.slice A1 R.want.length c1)⟩] W) (by kernel_rfl) (hS.drew.sub (by repeat (first | exact List.Sublist.slnil | exact List.nil_sublist _ | apply List.Sublist.cons_cons | apply List.Sublist.cons))) ?_
    intro _
    replace hS := hS.drew
    generalize World.drew _ = wX at hS ⊢
    first
      | refine wpAnyH_take (i := 0) rfl (by kernel_rfl) (by kernel_rfl) (by kernel_rfl) (fun _ _ _ h => h) (yields_row (by rfl) _ _ rfl _ _ rfl _ Try.underlying59 rfl _ (fun W hW => hW.range (.head _)) (rgI.trans rfl)) (hS.sub (by repeat (first | exact List.Sublist.slnil | exact List.nil_sublist _ | apply List.Sublist.cons_cons | apply List.Sublist.cons))) ?_
      | refine wpAnyH_take (i := 0) rfl (by kernel_rfl) (by kernel_rfl) (by kernel_rfl) (fun _ _ _ h => h) (yields_row (by rfl) _ _ rfl _ _ rfl _ Try.underlying59 rfl _ (fun W hW => hW.range (.tail _ (.head _))) (rgI.trans rfl)) (hS.sub (by repeat (first | exact List.Sublist.slnil | exact List.nil_sublist _ | apply List.Sublist.cons_cons | apply List.Sublist.cons))) ?_
      | refine wpAnyH_take (i := 0) rfl (by kernel_rfl) (by kernel_rfl) (by kernel_rfl) (fun _ _ _ h => h) (yields_row (by rfl) _ _ rfl _ _ rfl _ Try.underlying59 rfl _ (fun W hW => hW.range (.tail _ (.tail _ (.head _)))) (rgI.trans rfl)) (hS.sub (by repeat (first | exact List.Sublist.slnil | exact List.nil_sublist _ | apply List.Sublist.cons_cons | apply List.Sublist.cons))) ?_
      | refine wpAnyH_take (i := 0) rfl (by kernel_rfl) (by kernel_rfl) (by kernel_rfl) (fun _ _ _ h => h) (yields_row (by rfl) _ _ rfl _ _ rfl _ Try.underlying59 rfl _ (fun W hW => hW.range (.tail _ (.tail _ (.tail _ (.head _))))) (rgI.trans rfl)) (hS.sub (by repeat (first | exact List.Sublist.slnil | exact List.nil_sublist _ | apply List.Sublist.cons_cons | apply List.Sublist.cons))) ?_
      | refine wpAnyH_take (i := 0) rfl (by kernel_rfl) (by kernel_rfl) (by kernel_rfl) (fun _ _ _ h => h) (yields_row (by rfl) _ _ rfl _ _ rfl _ Try.underlying59 rfl _ (fun W hW => hW.range (.tail _ (.tail _ (.tail _ (.tail _ (.head _)))))) (rgI.trans rfl)) (hS.sub (by repeat (first | exact List.Sublist.slnil | exact List.nil_sublist _ | apply List.Sublist.cons_cons | apply List.Sublist.cons))) ?_
      | refine wpAnyH_take (i := 0) rfl (by kernel_rfl) (by kernel_rfl) (by kernel_rfl) (fun _ _ _ h => h) (yields_row (by rfl) _ _ rfl _ _ rfl _ Try.underlying59 rfl _ (fun W hW => hW.range (.tail _ (.tail _ (.tail _ (.tail _ (.tail _ (.head _))))))) (rgI.trans rfl)) (hS.sub (by repeat (first | exact List.Sublist.slnil | exact List.nil_sublist _ | apply List.Sublist.cons_cons | apply List.Sublist.cons))) ?_
    try simp only [Act.put, List.setIfInBounds_toArray, List.set_cons_zero, List.set_cons_succ, List.getElem_toArray, List.getElem_cons_succ, List.getElem_cons_zero]
    first
      | refine wpAnyH_take (i := 2) rfl (by kernel_rfl) (by kernel_rfl) (by kernel_rfl) (fun _ _ _ h => h) (yields_row (by rfl) _ _ rfl _ _ rfl _ Try.underlying62 rfl _ (fun W hW => hW.range (.head _)) (rrgI.trans rfl)) (hS.sub (by repeat (first | exact List.Sublist.slnil | exact List.nil_sublist _ | apply List.Sublist.cons_cons | apply List.Sublist.cons))) ?_
      | refine wpAnyH_take (i := 2) rfl (by kernel_rfl) (by kernel_rfl) (by kernel_rfl) (fun _ _ _ h => h) (yields_row (by rfl) _ _ rfl _ _ rfl _ Try.underlying62 rfl _ (fun W hW => hW.range (.tail _ (.head _))) (rrgI.trans rfl)) (hS.sub (by repeat (first | exact List.Sublist.slnil | exact List.nil_sublist _ | apply List.Sublist.cons_cons | apply List.Sublist.cons))) ?_
      | refine wpAnyH_take (i := 2) rfl (by kernel_rfl) (by kernel_rfl) (by kernel_rfl) (fun _ _ _ h => h) (yields_row (by rfl) _ _ rfl _ _ rfl _ Try.underlying62 rfl _ (fun W hW => hW.range (.tail _ (.tail _ (.head _)))) (rrgI.trans rfl)) (hS.sub (by repeat (first | exact List.Sublist.slnil | exact List.nil_sublist _ | apply List.Sublist.cons_cons | apply List.Sublist.cons))) ?_
      | refine wpAnyH_take (i := 2) rfl (by kernel_rfl) (by kernel_rfl) (by kernel_rfl) (fun _ _ _ h => h) (yields_row (by rfl) _ _ rfl _ _ rfl _ Try.underlying62 rfl _ (fun W hW => hW.range (.tail _ (.tail _ (.tail _ (.head _))))) (rrgI.trans rfl)) (hS.sub (by repeat (first | exact List.Sublist.slnil | exact List.nil_sublist _ | apply List.Sublist.cons_cons | apply List.Sublist.cons))) ?_
      | refine wpAnyH_take (i := 2) rfl (by kernel_rfl) (by kernel_rfl) (by kernel_rfl) (fun _ _ _ h => h) (yields_row (by rfl) _ _ rfl _ _ rfl _ Try.underlying62 rfl _ (fun W hW => hW.range (.tail _ (.tail _ (.tail _ (.tail _ (.head _)))))) (rrgI.trans rfl)) (hS.sub (by repeat (first | exact List.Sublist.slnil | exact List.nil_sublist _ | apply List.Sublist.cons_cons | apply List.Sublist.cons))) ?_
      | refine wpAnyH_take (i := 2) rfl (by kernel_rfl) (by kernel_rfl) (by kernel_rfl) (fun _ _ _ h => h) (yields_row (by rfl) _ _ rfl _ _ rfl _ Try.underlying62 rfl _ (fun W hW => hW.range (.tail _ (.tail _ (.tail _ (.tail _ (.tail _ (.head _))))))) (rrgI.trans rfl)) (hS.sub (by repeat (first | exact List.Sublist.slnil | exact List.nil_sublist _ | apply List.Sublist.cons_cons | apply List.Sublist.cons))) ?_
    try simp only [Act.put, List.setIfInBounds_toArray, List.set_cons_zero, List.set_cons_succ, List.getElem_toArray, List.getElem_cons_succ, List.getElem_cons_zero]
    refine wpAnyH_ready (rs := [1]) (by kernel_rfl) (by simp) (AllReadyH.cons rfl ?_ AllReadyH.nil)
    intro K1 hK1
    rw [if_pos (by rfl)]
    try simp only [Act.put, List.setIfInBounds_toArray, List.set_cons_zero, List.set_cons_succ, List.getElem_toArray, List.getElem_cons_succ, List.getElem_cons_zero]
    go_simp
    refine (plain_any R A1 _ c1 _).mono ?_
    rintro e1 v2 ⟨rfl, hb⟩
    replace hS := hS.call hb
    clear hb
    refine hK1.out _ _ (hS.sub (by repeat (first | exact List.Sublist.slnil | exact List.nil_sublist _ | apply List.Sublist.cons_cons | apply List.Sublist.cons))) (fun _ => ?_)
    clear hK1
    try simp only [Act.put, List.setIfInBounds_toArray, List.set_cons_zero, List.set_cons_succ, List.getElem_toArray, List.getElem_cons_succ, List.getElem_cons_zero]
    refine wpAnyH_ready (rs := [3]) (by kernel_rfl) (by simp) (AllReadyH.cons rfl ?_ AllReadyH.nil)
    intro K1 hK1
    rw [if_pos (by rfl)]
    try simp only [Act.put, List.setIfInBounds_toArray, List.set_cons_zero, List.set_cons_succ, List.getElem_toArray, List.getElem_cons_succ, List.getElem_cons_zero]
    go_simp
    refine (HS.out A1 c1 A2 c2 _ (hS.ls hsh1 (fun e he => by repeat (first | exact he | exact List.mem_append_right _ he | exact List.mem_append_left _ he | exact List.mem_append_left _ (List.mem_append_right _ he) | exact List.mem_append_left _ (List.mem_append_left _ he) | refine List.Mem.tail _ ?_))) (hS.ls hsh2 (fun e he => by repeat (first | exact he | exact List.mem_append_right _ he | exact List.mem_append_left _ he | exact List.mem_append_left _ (List.mem_append_right _ he) | exact List.mem_append_left _ (List.mem_append_left _ he) | refine List.Mem.tail _ ?_)))).mono ?_
    rintro e1 v2 ⟨rfl, hb⟩
    replace hS := hS.call hb
    clear hb
    refine hK1.out _ _ (hS.sub (by repeat (first | exact List.Sublist.slnil | exact List.nil_sublist _ | apply List.Sublist.cons_cons | apply List.Sublist.cons))) (fun _ => ?_)
    clear hK1
    try simp only [Act.put, List.setIfInBounds_toArray, List.set_cons_zero, List.set_cons_succ, List.getElem_toArray, List.getElem_cons_succ, List.getElem_cons_zero]
    refine wpAnyH_take (i := 4) (v := ?_) rfl (by kernel_rfl) (by kernel_rfl) (by kernel_rfl) (fun _ _ _ h => h) (Or.inl ⟨by rfl, ?_⟩) (hS.sub (by repeat (first | exact List.Sublist.slnil | exact List.nil_sublist _ | apply List.Sublist.cons_cons | apply List.Sublist.cons))) ?_
    rotate_left 1
    · intro W hW
      clear hW
      go_simp
      all_goals with_reducible rfl
    try simp only [Act.put, List.setIfInBounds_toArray, List.set_cons_zero, List.set_cons_succ, List.getElem_toArray, List.getElem_cons_succ, List.getElem_cons_zero]
    refine wpAnyH_take (i := 5) (v := ?_) rfl (by kernel_rfl) (by kernel_rfl) (by kernel_rfl) (fun _ _ _ h => h) (Or.inl ⟨by rfl, ?_⟩) (hS.sub (by repeat (first | exact List.Sublist.slnil | exact List.nil_sublist _ | apply List.Sublist.cons_cons | apply List.Sublist.cons))) ?_
    rotate_left 1
    · intro W hW
      clear hW
      go_simp
      all_goals with_reducible rfl
    try simp only [Act.put, List.setIfInBounds_toArray, List.set_cons_zero, List.set_cons_succ, List.getElem_toArray, List.getElem_cons_succ, List.getElem_cons_zero]
    refine wpAnyH_take (i := 6) (v := ?_) rfl (by kernel_rfl) (by kernel_rfl) (by kernel_rfl) (fun _ _ _ h => h) (Or.inl ⟨by rfl, ?_⟩) (hS.sub (by repeat (first | exact List.Sublist.slnil | exact List.nil_sublist _ | apply List.Sublist.cons_cons | apply List.Sublist.cons))) ?_
    rotate_left 1
    · intro W hW
      clear hW
      go_simp
      all_goals with_reducible rfl
    try simp only [Act.put, List.setIfInBounds_toArray, List.set_cons_zero, List.set_cons_succ, List.getElem_toArray, List.getElem_cons_succ, List.getElem_cons_zero]
    refine wpAnyH_take (i := 7) (v := ?_) rfl (by kernel_rfl) (by kernel_rfl) (by kernel_rfl) (fun _ _ _ h => h) (Or.inl ⟨by rfl, ?_⟩) (hS.sub (by repeat (first | exact List.Sublist.slnil | exact List.nil_sublist _ | apply List.Sublist.cons_cons | apply List.Sublist.cons))) ?_
    rotate_left 1
    · intro W hW
      clear hW
      go_simp
      all_goals with_reducible rfl
    try simp only [Act.put, List.setIfInBounds_toArray, List.set_cons_zero, List.set_cons_succ, List.getElem_toArray, List.getElem_cons_succ, List.getElem_cons_zero]
    refine wpAnyH_take (i := 8) (v := ?_) rfl (by kernel_rfl) (by kernel_rfl) (by kernel_rfl) (fun _ _ _ h => h) (Or.inl ⟨by rfl, ?_⟩) (hS.sub (by repeat (first | exact List.Sublist.slnil | exact List.nil_sublist _ | apply List.Sublist.cons_cons | apply List.Sublist.cons))) ?_
    rotate_left 1
    · intro W hW
      clear hW
      go_simp
      all_goals with_reducible rfl
    try simp only [Act.put, List.setIfInBounds_toArray, List.set_cons_zero, List.set_cons_succ, List.getElem_toArray, List.getElem_cons_succ, List.getElem_cons_zero]
    refine wpAnyH_take (i := 9) (v := ?_) rfl (by kernel_rfl) (by kernel_rfl) (by kernel_rfl) (fun _ _ _ h => h) (Or.inl ⟨by rfl, ?_⟩) (hS.sub (by repeat (first | exact List.Sublist.slnil | exact List.nil_sublist _ | apply List.Sublist.cons_cons | apply List.Sublist.cons))) ?_
    rotate_left 1
    · intro W hW
      clear hW
      go_simp
      all_goals with_reducible rfl
    try simp only [Act.put, List.setIfInBounds_toArray, List.set_cons_zero, List.set_cons_succ, List.getElem_toArray, List.getElem_cons_succ, List.getElem_cons_zero]
    refine wpAnyH_done (by kernel_rfl) ?_ _
    go_wp2_with fail
    go_returns
    exact ⟨rfl, hS.below⟩
end Go.Proofs.Ytlpoldnidojgmaa
