/- Read of a DMA (dma). -/
import Derived.Test.YtkkkjdbcckaedaaDmStat
import Derived.Test.YtkkkjdbcckaedaaZDm
import Derived.Test.YtkkkjdbcckaedaaZRg
namespace Go.Proofs.Ytkkkjdbcckaedaa
open Go.RowKit
set_option linter.unusedVariables false
set_option linter.unusedSimpArgs false
set_option maxRecDepth 100000
theorem w3Z (w : World) : (zeroValue 72).run Try.prog w = .ok (.agg #[.int .u16 0, .int .u16 0, .int .u16 0]) w := Try.zeroValue72 w
theorem w3I : (Try.prog.info? 72).map (·.size) = some 3 := by kernel_rfl
theorem M.first_cases (b : Int) : M.firstB b = -1 ∨ M.firstB b = 0 ∨ M.firstB b = 1 ∨ M.firstB b = 2 ∨ M.firstB b = 3 ∨ M.firstB b = 4 ∨ M.firstB b = 5 ∨ M.firstB b = 6 ∨ M.firstB b = 7 := by
  unfold M.firstB
  cases h : M.upto b 8 with
  | nil => exact .inl rfl
  | cons x l =>
    have hx : x ∈ M.upto b 8 := by rw [h]; exact .head _
    unfold M.upto at hx
    obtain ⟨i, hi, rfl⟩ := List.mem_map.1 hx
    have h8 := List.mem_range.1 (List.mem_filter.1 hi).1
    show ((i : Int) = -1 ∨ (i : Int) = 0 ∨ (i : Int) = 1 ∨ (i : Int) = 2 ∨ (i : Int) = 3 ∨ (i : Int) = 4 ∨ (i : Int) = 5 ∨ (i : Int) = 6 ∨ (i : Int) = 7)
    omega
set_option maxHeartbeats 8000000 in
theorem dread_any (d : M.Dm) (hd : d.ok) (A : Option Addr) (n c : Nat) (w : World) : Calls Try.prog 15 #[.agg (d.c (.slice A n c))] w fun e w' => e = .returned (.tuple #[.agg ((M.dReadP d).c (.slice A n c)), .int .u8 (M.dReadV d)]) ∧ Below w.heap.size w w' := by
  have hS := St.start w.heap.size 0 0 w
  have hf := fun W => first_any d.ask hd.ask.1 hd.ask.2 W
  have hc := M.first_cases d.ask
  have hw := fun n W => with_any d.ask n false hd.ask.1 hd.ask.2 W
  obtain ⟨K, hK⟩ : ∃ K, K = M.firstB d.ask := ⟨_, rfl⟩
  have e1 : M.dReadP d = { d with ask := M.withB d.ask K false } := by rw [hK]; rfl
  rw [e1]
  rw [← hK] at hf hc
  replace hw := hw K
  generalize M.withB d.ask K false = q at hw ⊢
  have HF := Lib.hid hf
  have HW := Lib.hid hw
  replace hK := Lib.hid hK
  obtain ⟨x, hx⟩ : ∃ x, x = ({ d with ask := q } : M.Dm) := ⟨_, rfl⟩
  have hxs : M.dStatus x = M.dStatus d := by rw [hx]; rfl
  replace hxs := Lib.hid hxs
  rw [← hx]
  replace hx := Lib.hid hx
  have a0 := hd.a
  have b0 := hd.b
  clear hf hw e1
  go_enter Try.func15, Try.ntmps15
  go_wp2_with (first
  | ((with_reducible first | refine to_load 5 rfl ?_ ); refine Wl_load1 hS (fun _ => by rfl) _ _ rfl (scT _ rfl) ?_; (repeat (first | refine Look.here (of_decide_eq_true rfl) rfl ?_ | refine Look.next ?_)); (with_reducible show wpList _ _ _ _ _ _); simp only [nA])
  | ((with_reducible refine to_boxT 29 rfl ?_); refine Wl_box hS (fun _ => by rfl) _ rfl ?_; clear hS; intro b1 wW hS; simp only [nA])
  | ((with_reducible refine to_alloc 29 rfl ?_); refine Wl_alloc hS (fun _ => by rfl) _ dmZ ?_; clear hS; intro b2 wW hS; simp only [nA])
  )
  refine (HF.out _).mono ?_
  rintro e w1 ⟨rfl, hb⟩
  replace hS := hS.call hb
  clear hb
  go_wp2_with (first
  | ((with_reducible first | refine to_load 5 rfl ?_ ); refine Wl_load1 hS (fun _ => by rfl) _ _ rfl (scT _ rfl) ?_; (repeat (first | refine Look.here (of_decide_eq_true rfl) rfl ?_ | refine Look.next ?_)); (with_reducible show wpList _ _ _ _ _ _); simp only [nA])
  )
  refine (HW.out _).mono ?_
  rintro e w1 ⟨rfl, rfl⟩
  clear HF HW
  rcases hc with rfl | rfl | rfl | rfl | rfl | rfl | rfl | rfl | rfl
  · go_wp2_with (first
  | ((with_reducible first | refine to_load 3 rfl ?_ | refine to_load 24 rfl ?_); refine Wl_load1 hS (fun _ => by rfl) _ _ rfl (scT _ rfl) ?_; (repeat (first | refine Look.here (of_decide_eq_true rfl) rfl ?_ | refine Look.next ?_)); (with_reducible show wpList _ _ _ _ _ _); simp only [nA])
  | ((with_reducible first | refine to_store 5 rfl ?_); (first | refine Wl_store1 hS (fun _ => by rfl) _ _ (.int _ _) rfl rfl (scT _ rfl) rfl rfl ?_); (repeat (first | refine Turn1.here (of_decide_eq_true rfl) (of_decide_eq_true rfl) ?_ | refine Turn1.next ?_)); clear hS; intro wW hS; (try simp only [nA]); try simp only [Nat.sub_zero, Nat.add_zero, Nat.zero_add, Nat.reduceSub, Nat.add_sub_cancel_left, dm_ss] at hS)
  | ((with_reducible refine to_alloc 72 rfl ?_); refine Wl_alloc hS (fun _ => by rfl) _ w3Z ?_; clear hS; intro b3 wW hS; simp only [nA])
  | ((with_reducible refine to_store 72 rfl ?_); refine Wl_store hS (fun _ => by rfl) _ _ _ rfl rfl (w3I.trans rfl) (by simp [Value.oneCell']) ?_; (repeat (first | refine Turn.here rfl ?_)); clear hS; intro wW hS; try simp only [nA]))
    rw [← hx.out] at hS
    refine wp_region_held_drew (S := fun W => St w.heap.size 0 0 w [⟨b1, 0, true, x.c (.slice A n c)⟩] W) (by kernel_rfl) (hS.drew.sub (by repeat (first | exact List.Sublist.slnil | apply List.Sublist.cons_cons | apply List.Sublist.cons))) ?_
    intro _
    replace hS := hS.drew
    generalize World.drew _ = wX at hS ⊢
    first
      | refine wpAnyH_take (i := 0) rfl (by kernel_rfl) (by kernel_rfl) (by kernel_rfl) (fun _ _ _ h => h) (yields_row (by rfl) _ _ rfl _ _ rfl _ Try.underlying29 rfl _ (fun W hW => hW.range (.head _)) (dmI.trans rfl)) (hS.sub (by repeat (first | exact List.Sublist.slnil | apply List.Sublist.cons_cons | apply List.Sublist.cons))) ?_
      
    try simp only [nR]
    first
      | refine wpAnyH_take (i := 1) rfl (by kernel_rfl) (by kernel_rfl) (by kernel_rfl) (fun _ _ _ h => h) (yields_row (by rfl) _ _ rfl _ _ rfl _ Try.underlying29 rfl _ (fun W hW => hW.range (.head _)) (dmI.trans rfl)) (hS.sub (by repeat (first | exact List.Sublist.slnil | apply List.Sublist.cons_cons | apply List.Sublist.cons))) ?_
      
    try simp only [nR]
    refine wpAnyH_ready (rs := [2]) (by kernel_rfl) (by simp) (AllReadyH.cons rfl ?_ AllReadyH.nil)
    intro K1 hK1
    rw [if_pos (by rfl)]
    try simp only [nR]
    go_simp
    refine (dstatus_any x A n c _).mono ?_
    rintro e1 v2 ⟨rfl, hb⟩
    replace hS := hS.call hb
    clear hb
    refine hK1.out _ _ (hS.sub (by repeat (first | exact List.Sublist.slnil | apply List.Sublist.cons_cons | apply List.Sublist.cons))) (fun _ => ?_)
    clear hK1
    try simp only [nR]
    refine wpAnyH_ready (rs := [3]) (by kernel_rfl) (by simp) (AllReadyH.cons rfl ?_ AllReadyH.nil)
    intro K1 hK1
    rw [if_pos (by rfl)]
    try simp only [nR]
    refine wp_store_st hS _ _ _ rfl _ _ _ rfl rfl (dmI.trans rfl) (dm_one _ _ _ _) ?_
    repeat (first | refine Turn.here rfl ?_ | refine Turn.next ?_)
    clear hS
    intro wW hS
    refine hK1.out _ _ (hS.sub (by repeat (first | exact List.Sublist.slnil | apply List.Sublist.cons_cons | apply List.Sublist.cons))) (fun _ => ?_)
    clear hK1
    try simp only [nR]
    refine wpAnyH_take (i := 4) (v := ?_) rfl (by kernel_rfl) (by kernel_rfl) (by kernel_rfl) (fun _ _ _ h => h) (Or.inl ⟨by rfl, ?_⟩) (hS.sub (by repeat (first | exact List.Sublist.slnil | apply List.Sublist.cons_cons | apply List.Sublist.cons))) ?_
    rotate_left 1
    · intro W hW
      clear hW
      go_simp
      all_goals with_reducible rfl
    try simp only [nR]
    refine wpAnyH_done (by kernel_rfl) ?_ _
    go_wp2_with fail
    refine ret_tmp_st hS rfl _ _ rfl _ rfl rfl _ Try.underlying29 rfl ?_
    repeat (first | (refine Row.here ⟨dmI.trans rfl, ?_⟩) | refine Row.next ?_)
    have eV : M.dReadV d = M.dStatus x := by rw [hxs.out]; simp [M.dReadV, ← hK.out]
    exact ⟨by rw [eV]; try rfl, hS.below⟩
  · go_wp2_with (first
  | ((with_reducible first | refine to_load 3 rfl ?_ | refine to_load 24 rfl ?_); refine Wl_load1 hS (fun _ => by rfl) _ _ rfl (scT _ rfl) ?_; (repeat (first | refine Look.here (of_decide_eq_true rfl) rfl ?_ | refine Look.next ?_)); (with_reducible show wpList _ _ _ _ _ _); simp only [nA])
  | ((with_reducible first | refine to_store 5 rfl ?_); (first | refine Wl_store1 hS (fun _ => by rfl) _ _ (.int _ _) rfl rfl (scT _ rfl) rfl rfl ?_); (repeat (first | refine Turn1.here (of_decide_eq_true rfl) (of_decide_eq_true rfl) ?_ | refine Turn1.next ?_)); clear hS; intro wW hS; (try simp only [nA]); try simp only [Nat.sub_zero, Nat.add_zero, Nat.zero_add, Nat.reduceSub, Nat.add_sub_cancel_left, dm_ss] at hS)
  | ((with_reducible refine to_alloc 72 rfl ?_); refine Wl_alloc hS (fun _ => by rfl) _ w3Z ?_; clear hS; intro b3 wW hS; simp only [nA])
  | ((with_reducible refine to_store 72 rfl ?_); refine Wl_store hS (fun _ => by rfl) _ _ _ rfl rfl (w3I.trans rfl) (by simp [Value.oneCell']) ?_; (repeat (first | refine Turn.here rfl ?_)); clear hS; intro wW hS; try simp only [nA]))
    rw [← hx.out] at hS
    refine wp_region_held_drew (S := fun W => St w.heap.size 0 0 w [⟨b1, 0, true, x.c (.slice A n c)⟩] W) (by kernel_rfl) (hS.drew.sub (by repeat (first | exact List.Sublist.slnil | apply List.Sublist.cons_cons | apply List.Sublist.cons))) ?_
    intro _
    replace hS := hS.drew
    generalize World.drew _ = wX at hS ⊢
    first
      | refine wpAnyH_take (i := 0) rfl (by kernel_rfl) (by kernel_rfl) (by kernel_rfl) (fun _ _ _ h => h) (yields_row (by rfl) _ _ rfl _ _ rfl _ Try.underlying29 rfl _ (fun W hW => hW.range (.head _)) (dmI.trans rfl)) (hS.sub (by repeat (first | exact List.Sublist.slnil | apply List.Sublist.cons_cons | apply List.Sublist.cons))) ?_
      
    try simp only [nR]
    first
      | refine wpAnyH_take (i := 1) rfl (by kernel_rfl) (by kernel_rfl) (by kernel_rfl) (fun _ _ _ h => h) (yields_row (by rfl) _ _ rfl _ _ rfl _ Try.underlying29 rfl _ (fun W hW => hW.range (.head _)) (dmI.trans rfl)) (hS.sub (by repeat (first | exact List.Sublist.slnil | apply List.Sublist.cons_cons | apply List.Sublist.cons))) ?_
      
    try simp only [nR]
    refine wpAnyH_ready (rs := [2]) (by kernel_rfl) (by simp) (AllReadyH.cons rfl ?_ AllReadyH.nil)
    intro K1 hK1
    rw [if_pos (by rfl)]
    try simp only [nR]
    go_simp
    refine (dstatus_any x A n c _).mono ?_
    rintro e1 v2 ⟨rfl, hb⟩
    replace hS := hS.call hb
    clear hb
    refine hK1.out _ _ (hS.sub (by repeat (first | exact List.Sublist.slnil | apply List.Sublist.cons_cons | apply List.Sublist.cons))) (fun _ => ?_)
    clear hK1
    try simp only [nR]
    refine wpAnyH_ready (rs := [3]) (by kernel_rfl) (by simp) (AllReadyH.cons rfl ?_ AllReadyH.nil)
    intro K1 hK1
    rw [if_pos (by rfl)]
    try simp only [nR]
    refine wp_store_st hS _ _ _ rfl _ _ _ rfl rfl (dmI.trans rfl) (dm_one _ _ _ _) ?_
    repeat (first | refine Turn.here rfl ?_ | refine Turn.next ?_)
    clear hS
    intro wW hS
    refine hK1.out _ _ (hS.sub (by repeat (first | exact List.Sublist.slnil | apply List.Sublist.cons_cons | apply List.Sublist.cons))) (fun _ => ?_)
    clear hK1
    try simp only [nR]
    refine wpAnyH_take (i := 4) (v := ?_) rfl (by kernel_rfl) (by kernel_rfl) (by kernel_rfl) (fun _ _ _ h => h) (Or.inl ⟨by rfl, ?_⟩) (hS.sub (by repeat (first | exact List.Sublist.slnil | apply List.Sublist.cons_cons | apply List.Sublist.cons))) ?_
    rotate_left 1
    · intro W hW
      clear hW
      go_simp
      all_goals with_reducible rfl
    try simp only [nR]
    refine wpAnyH_done (by kernel_rfl) ?_ _
    go_wp2_with fail
    refine ret_tmp_st hS rfl _ _ rfl _ rfl rfl _ Try.underlying29 rfl ?_
    repeat (first | (refine Row.here ⟨dmI.trans rfl, ?_⟩) | refine Row.next ?_)
    have eV : M.dReadV d = M.dStatus x := by rw [hxs.out]; simp [M.dReadV, ← hK.out]
    exact ⟨by rw [eV]; try rfl, hS.below⟩
  · go_wp2_with (first
  | ((with_reducible first | refine to_load 3 rfl ?_ | refine to_load 24 rfl ?_); refine Wl_load1 hS (fun _ => by rfl) _ _ rfl (scT _ rfl) ?_; (repeat (first | refine Look.here (of_decide_eq_true rfl) rfl ?_ | refine Look.next ?_)); (with_reducible show wpList _ _ _ _ _ _); simp only [nA])
  | ((with_reducible first | refine to_store 5 rfl ?_); (first | refine Wl_store1 hS (fun _ => by rfl) _ _ (.int _ _) rfl rfl (scT _ rfl) rfl rfl ?_); (repeat (first | refine Turn1.here (of_decide_eq_true rfl) (of_decide_eq_true rfl) ?_ | refine Turn1.next ?_)); clear hS; intro wW hS; (try simp only [nA]); try simp only [Nat.sub_zero, Nat.add_zero, Nat.zero_add, Nat.reduceSub, Nat.add_sub_cancel_left, dm_ss] at hS)
  | ((with_reducible refine to_alloc 72 rfl ?_); refine Wl_alloc hS (fun _ => by rfl) _ w3Z ?_; clear hS; intro b3 wW hS; simp only [nA])
  | ((with_reducible refine to_store 72 rfl ?_); refine Wl_store hS (fun _ => by rfl) _ _ _ rfl rfl (w3I.trans rfl) (by simp [Value.oneCell']) ?_; (repeat (first | refine Turn.here rfl ?_)); clear hS; intro wW hS; try simp only [nA]))
    rw [← hx.out] at hS
    refine wp_region_held_drew (S := fun W => St w.heap.size 0 0 w [⟨b1, 0, true, x.c (.slice A n c)⟩] W) (by kernel_rfl) (hS.drew.sub (by repeat (first | exact List.Sublist.slnil | apply List.Sublist.cons_cons | apply List.Sublist.cons))) ?_
    intro _
    replace hS := hS.drew
    generalize World.drew _ = wX at hS ⊢
    first
      | refine wpAnyH_take (i := 0) rfl (by kernel_rfl) (by kernel_rfl) (by kernel_rfl) (fun _ _ _ h => h) (yields_row (by rfl) _ _ rfl _ _ rfl _ Try.underlying29 rfl _ (fun W hW => hW.range (.head _)) (dmI.trans rfl)) (hS.sub (by repeat (first | exact List.Sublist.slnil | apply List.Sublist.cons_cons | apply List.Sublist.cons))) ?_
      
    try simp only [nR]
    refine wpAnyH_take (i := 1) (v := ?_) rfl (by kernel_rfl) (by kernel_rfl) (by kernel_rfl) (fun _ _ _ h => h) (Or.inl ⟨by rfl, ?_⟩) (hS.sub (by repeat (first | exact List.Sublist.slnil | apply List.Sublist.cons_cons | apply List.Sublist.cons))) ?_
    rotate_left 1
    · intro W hW
      clear hW
      go_simp
      all_goals with_reducible rfl
    try simp only [nR]
    refine wpAnyH_ready (rs := [2]) (by kernel_rfl) (by simp) (AllReadyH.cons rfl ?_ AllReadyH.nil)
    intro K1 hK1
    rw [if_pos (by rfl)]
    try simp only [nR]
    go_simp
    refine (lo_any (d.left % 65536) (by omega) (by omega) _).mono ?_
    rintro e1 v2 ⟨rfl, rfl⟩
    refine hK1.out _ _ (hS.sub (by repeat (first | exact List.Sublist.slnil | apply List.Sublist.cons_cons | apply List.Sublist.cons))) (fun _ => ?_)
    clear hK1
    try simp only [nR]
    refine wpAnyH_ready (rs := [3]) (by kernel_rfl) (by simp) (AllReadyH.cons rfl ?_ AllReadyH.nil)
    intro K1 hK1
    rw [if_pos (by rfl)]
    try simp only [nR]
    refine wp_store_st hS _ _ _ rfl _ _ _ rfl rfl (dmI.trans rfl) (dm_one _ _ _ _) ?_
    repeat (first | refine Turn.here rfl ?_ | refine Turn.next ?_)
    clear hS
    intro wW hS
    refine hK1.out _ _ (hS.sub (by repeat (first | exact List.Sublist.slnil | apply List.Sublist.cons_cons | apply List.Sublist.cons))) (fun _ => ?_)
    clear hK1
    try simp only [nR]
    refine wpAnyH_take (i := 4) (v := ?_) rfl (by kernel_rfl) (by kernel_rfl) (by kernel_rfl) (fun _ _ _ h => h) (Or.inl ⟨by rfl, ?_⟩) (hS.sub (by repeat (first | exact List.Sublist.slnil | apply List.Sublist.cons_cons | apply List.Sublist.cons))) ?_
    rotate_left 1
    · intro W hW
      clear hW
      go_simp
      all_goals with_reducible rfl
    try simp only [nR]
    refine wpAnyH_done (by kernel_rfl) ?_ _
    go_wp2_with fail
    refine ret_tmp_st hS rfl _ _ rfl _ rfl rfl _ Try.underlying29 rfl ?_
    repeat (first | (refine Row.here ⟨dmI.trans rfl, ?_⟩) | refine Row.next ?_)
    have eV : M.dReadV d = d.left % 256 := by simp [M.dReadV, ← hK.out]
    exact ⟨by rw [eV]; try rfl, hS.below⟩
  · go_wp2_with (first
  | ((with_reducible first | refine to_load 3 rfl ?_ | refine to_load 24 rfl ?_); refine Wl_load1 hS (fun _ => by rfl) _ _ rfl (scT _ rfl) ?_; (repeat (first | refine Look.here (of_decide_eq_true rfl) rfl ?_ | refine Look.next ?_)); (with_reducible show wpList _ _ _ _ _ _); simp only [nA])
  | ((with_reducible first | refine to_store 5 rfl ?_); (first | refine Wl_store1 hS (fun _ => by rfl) _ _ (.int _ _) rfl rfl (scT _ rfl) rfl rfl ?_); (repeat (first | refine Turn1.here (of_decide_eq_true rfl) (of_decide_eq_true rfl) ?_ | refine Turn1.next ?_)); clear hS; intro wW hS; (try simp only [nA]); try simp only [Nat.sub_zero, Nat.add_zero, Nat.zero_add, Nat.reduceSub, Nat.add_sub_cancel_left, dm_ss] at hS)
  | ((with_reducible refine to_alloc 72 rfl ?_); refine Wl_alloc hS (fun _ => by rfl) _ w3Z ?_; clear hS; intro b3 wW hS; simp only [nA])
  | ((with_reducible refine to_store 72 rfl ?_); refine Wl_store hS (fun _ => by rfl) _ _ _ rfl rfl (w3I.trans rfl) (by simp [Value.oneCell']) ?_; (repeat (first | refine Turn.here rfl ?_)); clear hS; intro wW hS; try simp only [nA]))
    rw [← hx.out] at hS
    refine wp_region_held_drew (S := fun W => St w.heap.size 0 0 w [⟨b1, 0, true, x.c (.slice A n c)⟩] W) (by kernel_rfl) (hS.drew.sub (by repeat (first | exact List.Sublist.slnil | apply List.Sublist.cons_cons | apply List.Sublist.cons))) ?_
    intro _
    replace hS := hS.drew
    generalize World.drew _ = wX at hS ⊢
    first
      | refine wpAnyH_take (i := 0) rfl (by kernel_rfl) (by kernel_rfl) (by kernel_rfl) (fun _ _ _ h => h) (yields_row (by rfl) _ _ rfl _ _ rfl _ Try.underlying29 rfl _ (fun W hW => hW.range (.head _)) (dmI.trans rfl)) (hS.sub (by repeat (first | exact List.Sublist.slnil | apply List.Sublist.cons_cons | apply List.Sublist.cons))) ?_
      
    try simp only [nR]
    refine wpAnyH_take (i := 1) (v := ?_) rfl (by kernel_rfl) (by kernel_rfl) (by kernel_rfl) (fun _ _ _ h => h) (Or.inl ⟨by rfl, ?_⟩) (hS.sub (by repeat (first | exact List.Sublist.slnil | apply List.Sublist.cons_cons | apply List.Sublist.cons))) ?_
    rotate_left 1
    · intro W hW
      clear hW
      go_simp
      all_goals with_reducible rfl
    try simp only [nR]
    refine wpAnyH_ready (rs := [2]) (by kernel_rfl) (by simp) (AllReadyH.cons rfl ?_ AllReadyH.nil)
    intro K1 hK1
    rw [if_pos (by rfl)]
    try simp only [nR]
    go_simp
    refine (hi_any (d.left % 65536) (by omega) (by omega) _).mono ?_
    rintro e1 v2 ⟨rfl, rfl⟩
    refine hK1.out _ _ (hS.sub (by repeat (first | exact List.Sublist.slnil | apply List.Sublist.cons_cons | apply List.Sublist.cons))) (fun _ => ?_)
    clear hK1
    try simp only [nR]
    refine wpAnyH_ready (rs := [3]) (by kernel_rfl) (by simp) (AllReadyH.cons rfl ?_ AllReadyH.nil)
    intro K1 hK1
    rw [if_pos (by rfl)]
    try simp only [nR]
    refine wp_store_st hS _ _ _ rfl _ _ _ rfl rfl (dmI.trans rfl) (dm_one _ _ _ _) ?_
    repeat (first | refine Turn.here rfl ?_ | refine Turn.next ?_)
    clear hS
    intro wW hS
    refine hK1.out _ _ (hS.sub (by repeat (first | exact List.Sublist.slnil | apply List.Sublist.cons_cons | apply List.Sublist.cons))) (fun _ => ?_)
    clear hK1
    try simp only [nR]
    refine wpAnyH_take (i := 4) (v := ?_) rfl (by kernel_rfl) (by kernel_rfl) (by kernel_rfl) (fun _ _ _ h => h) (Or.inl ⟨by rfl, ?_⟩) (hS.sub (by repeat (first | exact List.Sublist.slnil | apply List.Sublist.cons_cons | apply List.Sublist.cons))) ?_
    rotate_left 1
    · intro W hW
      clear hW
      go_simp
      all_goals with_reducible rfl
    try simp only [nR]
    refine wpAnyH_done (by kernel_rfl) ?_ _
    go_wp2_with fail
    refine ret_tmp_st hS rfl _ _ rfl _ rfl rfl _ Try.underlying29 rfl ?_
    repeat (first | (refine Row.here ⟨dmI.trans rfl, ?_⟩) | refine Row.next ?_)
    have eV : M.dReadV d = d.left % 65536 / 256 := by simp [M.dReadV, ← hK.out]
    exact ⟨by rw [eV]; try rfl, hS.below⟩
  · go_wp2_with (first
  | ((with_reducible first | refine to_load 3 rfl ?_ | refine to_load 24 rfl ?_); refine Wl_load1 hS (fun _ => by rfl) _ _ rfl (scT _ rfl) ?_; (repeat (first | refine Look.here (of_decide_eq_true rfl) rfl ?_ | refine Look.next ?_)); (with_reducible show wpList _ _ _ _ _ _); simp only [nA])
  | ((with_reducible first | refine to_store 5 rfl ?_); (first | refine Wl_store1 hS (fun _ => by rfl) _ _ (.int _ _) rfl rfl (scT _ rfl) rfl rfl ?_); (repeat (first | refine Turn1.here (of_decide_eq_true rfl) (of_decide_eq_true rfl) ?_ | refine Turn1.next ?_)); clear hS; intro wW hS; (try simp only [nA]); try simp only [Nat.sub_zero, Nat.add_zero, Nat.zero_add, Nat.reduceSub, Nat.add_sub_cancel_left, dm_ss] at hS)
  | ((with_reducible refine to_alloc 72 rfl ?_); refine Wl_alloc hS (fun _ => by rfl) _ w3Z ?_; clear hS; intro b3 wW hS; simp only [nA])
  | ((with_reducible refine to_store 72 rfl ?_); refine Wl_store hS (fun _ => by rfl) _ _ _ rfl rfl (w3I.trans rfl) (by simp [Value.oneCell']) ?_; (repeat (first | refine Turn.here rfl ?_)); clear hS; intro wW hS; try simp only [nA]))
    rw [← hx.out] at hS
    refine wp_region_held_drew (S := fun W => St w.heap.size 0 0 w [⟨b1, 0, true, x.c (.slice A n c)⟩] W) (by kernel_rfl) (hS.drew.sub (by repeat (first | exact List.Sublist.slnil | apply List.Sublist.cons_cons | apply List.Sublist.cons))) ?_
    intro _
    replace hS := hS.drew
    generalize World.drew _ = wX at hS ⊢
    first
      | refine wpAnyH_take (i := 0) rfl (by kernel_rfl) (by kernel_rfl) (by kernel_rfl) (fun _ _ _ h => h) (yields_row (by rfl) _ _ rfl _ _ rfl _ Try.underlying29 rfl _ (fun W hW => hW.range (.head _)) (dmI.trans rfl)) (hS.sub (by repeat (first | exact List.Sublist.slnil | apply List.Sublist.cons_cons | apply List.Sublist.cons))) ?_
      
    try simp only [nR]
    refine wpAnyH_take (i := 1) (v := ?_) rfl (by kernel_rfl) (by kernel_rfl) (by kernel_rfl) (fun _ _ _ h => h) (Or.inl ⟨by rfl, ?_⟩) (hS.sub (by repeat (first | exact List.Sublist.slnil | apply List.Sublist.cons_cons | apply List.Sublist.cons))) ?_
    rotate_left 1
    · intro W hW
      clear hW
      go_simp
      all_goals with_reducible rfl
    try simp only [nR]
    refine wpAnyH_ready (rs := [2]) (by kernel_rfl) (by simp) (AllReadyH.cons rfl ?_ AllReadyH.nil)
    intro K1 hK1
    rw [if_pos (by rfl)]
    try simp only [nR]
    go_simp
    refine (lo_any d.a a0.1 a0.2 _).mono ?_
    rintro e1 v2 ⟨rfl, rfl⟩
    refine hK1.out _ _ (hS.sub (by repeat (first | exact List.Sublist.slnil | apply List.Sublist.cons_cons | apply List.Sublist.cons))) (fun _ => ?_)
    clear hK1
    try simp only [nR]
    refine wpAnyH_ready (rs := [3]) (by kernel_rfl) (by simp) (AllReadyH.cons rfl ?_ AllReadyH.nil)
    intro K1 hK1
    rw [if_pos (by rfl)]
    try simp only [nR]
    refine wp_store_st hS _ _ _ rfl _ _ _ rfl rfl (dmI.trans rfl) (dm_one _ _ _ _) ?_
    repeat (first | refine Turn.here rfl ?_ | refine Turn.next ?_)
    clear hS
    intro wW hS
    refine hK1.out _ _ (hS.sub (by repeat (first | exact List.Sublist.slnil | apply List.Sublist.cons_cons | apply List.Sublist.cons))) (fun _ => ?_)
    clear hK1
    try simp only [nR]
    refine wpAnyH_take (i := 4) (v := ?_) rfl (by kernel_rfl) (by kernel_rfl) (by kernel_rfl) (fun _ _ _ h => h) (Or.inl ⟨by rfl, ?_⟩) (hS.sub (by repeat (first | exact List.Sublist.slnil | apply List.Sublist.cons_cons | apply List.Sublist.cons))) ?_
    rotate_left 1
    · intro W hW
      clear hW
      go_simp
      all_goals with_reducible rfl
    try simp only [nR]
    refine wpAnyH_done (by kernel_rfl) ?_ _
    go_wp2_with fail
    refine ret_tmp_st hS rfl _ _ rfl _ rfl rfl _ Try.underlying29 rfl ?_
    repeat (first | (refine Row.here ⟨dmI.trans rfl, ?_⟩) | refine Row.next ?_)
    have eV : M.dReadV d = d.a % 256 := by simp [M.dReadV, ← hK.out]
    exact ⟨by rw [eV]; try rfl, hS.below⟩
  · go_wp2_with (first
  | ((with_reducible first | refine to_load 3 rfl ?_ | refine to_load 24 rfl ?_); refine Wl_load1 hS (fun _ => by rfl) _ _ rfl (scT _ rfl) ?_; (repeat (first | refine Look.here (of_decide_eq_true rfl) rfl ?_ | refine Look.next ?_)); (with_reducible show wpList _ _ _ _ _ _); simp only [nA])
  | ((with_reducible first | refine to_store 5 rfl ?_); (first | refine Wl_store1 hS (fun _ => by rfl) _ _ (.int _ _) rfl rfl (scT _ rfl) rfl rfl ?_); (repeat (first | refine Turn1.here (of_decide_eq_true rfl) (of_decide_eq_true rfl) ?_ | refine Turn1.next ?_)); clear hS; intro wW hS; (try simp only [nA]); try simp only [Nat.sub_zero, Nat.add_zero, Nat.zero_add, Nat.reduceSub, Nat.add_sub_cancel_left, dm_ss] at hS)
  | ((with_reducible refine to_alloc 72 rfl ?_); refine Wl_alloc hS (fun _ => by rfl) _ w3Z ?_; clear hS; intro b3 wW hS; simp only [nA])
  | ((with_reducible refine to_store 72 rfl ?_); refine Wl_store hS (fun _ => by rfl) _ _ _ rfl rfl (w3I.trans rfl) (by simp [Value.oneCell']) ?_; (repeat (first | refine Turn.here rfl ?_)); clear hS; intro wW hS; try simp only [nA]))
    rw [← hx.out] at hS
    refine wp_region_held_drew (S := fun W => St w.heap.size 0 0 w [⟨b1, 0, true, x.c (.slice A n c)⟩] W) (by kernel_rfl) (hS.drew.sub (by repeat (first | exact List.Sublist.slnil | apply List.Sublist.cons_cons | apply List.Sublist.cons))) ?_
    intro _
    replace hS := hS.drew
    generalize World.drew _ = wX at hS ⊢
    first
      | refine wpAnyH_take (i := 0) rfl (by kernel_rfl) (by kernel_rfl) (by kernel_rfl) (fun _ _ _ h => h) (yields_row (by rfl) _ _ rfl _ _ rfl _ Try.underlying29 rfl _ (fun W hW => hW.range (.head _)) (dmI.trans rfl)) (hS.sub (by repeat (first | exact List.Sublist.slnil | apply List.Sublist.cons_cons | apply List.Sublist.cons))) ?_
      
    try simp only [nR]
    refine wpAnyH_take (i := 1) (v := ?_) rfl (by kernel_rfl) (by kernel_rfl) (by kernel_rfl) (fun _ _ _ h => h) (Or.inl ⟨by rfl, ?_⟩) (hS.sub (by repeat (first | exact List.Sublist.slnil | apply List.Sublist.cons_cons | apply List.Sublist.cons))) ?_
    rotate_left 1
    · intro W hW
      clear hW
      go_simp
      all_goals with_reducible rfl
    try simp only [nR]
    refine wpAnyH_ready (rs := [2]) (by kernel_rfl) (by simp) (AllReadyH.cons rfl ?_ AllReadyH.nil)
    intro K1 hK1
    rw [if_pos (by rfl)]
    try simp only [nR]
    go_simp
    refine (hi_any d.a a0.1 a0.2 _).mono ?_
    rintro e1 v2 ⟨rfl, rfl⟩
    refine hK1.out _ _ (hS.sub (by repeat (first | exact List.Sublist.slnil | apply List.Sublist.cons_cons | apply List.Sublist.cons))) (fun _ => ?_)
    clear hK1
    try simp only [nR]
    refine wpAnyH_ready (rs := [3]) (by kernel_rfl) (by simp) (AllReadyH.cons rfl ?_ AllReadyH.nil)
    intro K1 hK1
    rw [if_pos (by rfl)]
    try simp only [nR]
    refine wp_store_st hS _ _ _ rfl _ _ _ rfl rfl (dmI.trans rfl) (dm_one _ _ _ _) ?_
    repeat (first | refine Turn.here rfl ?_ | refine Turn.next ?_)
    clear hS
    intro wW hS
    refine hK1.out _ _ (hS.sub (by repeat (first | exact List.Sublist.slnil | apply List.Sublist.cons_cons | apply List.Sublist.cons))) (fun _ => ?_)
    clear hK1
    try simp only [nR]
    refine wpAnyH_take (i := 4) (v := ?_) rfl (by kernel_rfl) (by kernel_rfl) (by kernel_rfl) (fun _ _ _ h => h) (Or.inl ⟨by rfl, ?_⟩) (hS.sub (by repeat (first | exact List.Sublist.slnil | apply List.Sublist.cons_cons | apply List.Sublist.cons))) ?_
    rotate_left 1
    · intro W hW
      clear hW
      go_simp
      all_goals with_reducible rfl
    try simp only [nR]
    refine wpAnyH_done (by kernel_rfl) ?_ _
    go_wp2_with fail
    refine ret_tmp_st hS rfl _ _ rfl _ rfl rfl _ Try.underlying29 rfl ?_
    repeat (first | (refine Row.here ⟨dmI.trans rfl, ?_⟩) | refine Row.next ?_)
    have eV : M.dReadV d = d.a / 256 := by simp [M.dReadV, ← hK.out]
    exact ⟨by rw [eV]; try rfl, hS.below⟩
  · go_wp2_with (first
  | ((with_reducible first | refine to_load 3 rfl ?_ | refine to_load 24 rfl ?_); refine Wl_load1 hS (fun _ => by rfl) _ _ rfl (scT _ rfl) ?_; (repeat (first | refine Look.here (of_decide_eq_true rfl) rfl ?_ | refine Look.next ?_)); (with_reducible show wpList _ _ _ _ _ _); simp only [nA])
  | ((with_reducible first | refine to_store 5 rfl ?_); (first | refine Wl_store1 hS (fun _ => by rfl) _ _ (.int _ _) rfl rfl (scT _ rfl) rfl rfl ?_); (repeat (first | refine Turn1.here (of_decide_eq_true rfl) (of_decide_eq_true rfl) ?_ | refine Turn1.next ?_)); clear hS; intro wW hS; (try simp only [nA]); try simp only [Nat.sub_zero, Nat.add_zero, Nat.zero_add, Nat.reduceSub, Nat.add_sub_cancel_left, dm_ss] at hS)
  | ((with_reducible refine to_alloc 72 rfl ?_); refine Wl_alloc hS (fun _ => by rfl) _ w3Z ?_; clear hS; intro b3 wW hS; simp only [nA])
  | ((with_reducible refine to_store 72 rfl ?_); refine Wl_store hS (fun _ => by rfl) _ _ _ rfl rfl (w3I.trans rfl) (by simp [Value.oneCell']) ?_; (repeat (first | refine Turn.here rfl ?_)); clear hS; intro wW hS; try simp only [nA]))
    rw [← hx.out] at hS
    refine wp_region_held_drew (S := fun W => St w.heap.size 0 0 w [⟨b1, 0, true, x.c (.slice A n c)⟩] W) (by kernel_rfl) (hS.drew.sub (by repeat (first | exact List.Sublist.slnil | apply List.Sublist.cons_cons | apply List.Sublist.cons))) ?_
    intro _
    replace hS := hS.drew
    generalize World.drew _ = wX at hS ⊢
    first
      | refine wpAnyH_take (i := 0) rfl (by kernel_rfl) (by kernel_rfl) (by kernel_rfl) (fun _ _ _ h => h) (yields_row (by rfl) _ _ rfl _ _ rfl _ Try.underlying29 rfl _ (fun W hW => hW.range (.head _)) (dmI.trans rfl)) (hS.sub (by repeat (first | exact List.Sublist.slnil | apply List.Sublist.cons_cons | apply List.Sublist.cons))) ?_
      
    try simp only [nR]
    refine wpAnyH_take (i := 1) (v := ?_) rfl (by kernel_rfl) (by kernel_rfl) (by kernel_rfl) (fun _ _ _ h => h) (Or.inl ⟨by rfl, ?_⟩) (hS.sub (by repeat (first | exact List.Sublist.slnil | apply List.Sublist.cons_cons | apply List.Sublist.cons))) ?_
    rotate_left 1
    · intro W hW
      clear hW
      go_simp
      all_goals with_reducible rfl
    try simp only [nR]
    refine wpAnyH_ready (rs := [2]) (by kernel_rfl) (by simp) (AllReadyH.cons rfl ?_ AllReadyH.nil)
    intro K1 hK1
    rw [if_pos (by rfl)]
    try simp only [nR]
    go_simp
    refine (lo_any d.b b0.1 b0.2 _).mono ?_
    rintro e1 v2 ⟨rfl, rfl⟩
    refine hK1.out _ _ (hS.sub (by repeat (first | exact List.Sublist.slnil | apply List.Sublist.cons_cons | apply List.Sublist.cons))) (fun _ => ?_)
    clear hK1
    try simp only [nR]
    refine wpAnyH_ready (rs := [3]) (by kernel_rfl) (by simp) (AllReadyH.cons rfl ?_ AllReadyH.nil)
    intro K1 hK1
    rw [if_pos (by rfl)]
    try simp only [nR]
    refine wp_store_st hS _ _ _ rfl _ _ _ rfl rfl (dmI.trans rfl) (dm_one _ _ _ _) ?_
    repeat (first | refine Turn.here rfl ?_ | refine Turn.next ?_)
    clear hS
    intro wW hS
    refine hK1.out _ _ (hS.sub (by repeat (first | exact List.Sublist.slnil | apply List.Sublist.cons_cons | apply List.Sublist.cons))) (fun _ => ?_)
    clear hK1
    try simp only [nR]
    refine wpAnyH_take (i := 4) (v := ?_) rfl (by kernel_rfl) (by kernel_rfl) (by kernel_rfl) (fun _ _ _ h => h) (Or.inl ⟨by rfl, ?_⟩) (hS.sub (by repeat (first | exact List.Sublist.slnil | apply List.Sublist.cons_cons | apply List.Sublist.cons))) ?_
    rotate_left 1
    · intro W hW
      clear hW
      go_simp
      all_goals with_reducible rfl
    try simp only [nR]
    refine wpAnyH_done (by kernel_rfl) ?_ _
    go_wp2_with fail
    refine ret_tmp_st hS rfl _ _ rfl _ rfl rfl _ Try.underlying29 rfl ?_
    repeat (first | (refine Row.here ⟨dmI.trans rfl, ?_⟩) | refine Row.next ?_)
    have eV : M.dReadV d = d.b % 256 := by simp [M.dReadV, ← hK.out]
    exact ⟨by rw [eV]; try rfl, hS.below⟩
  · go_wp2_with (first
  | ((with_reducible first | refine to_load 3 rfl ?_ | refine to_load 24 rfl ?_); refine Wl_load1 hS (fun _ => by rfl) _ _ rfl (scT _ rfl) ?_; (repeat (first | refine Look.here (of_decide_eq_true rfl) rfl ?_ | refine Look.next ?_)); (with_reducible show wpList _ _ _ _ _ _); simp only [nA])
  | ((with_reducible first | refine to_store 5 rfl ?_); (first | refine Wl_store1 hS (fun _ => by rfl) _ _ (.int _ _) rfl rfl (scT _ rfl) rfl rfl ?_); (repeat (first | refine Turn1.here (of_decide_eq_true rfl) (of_decide_eq_true rfl) ?_ | refine Turn1.next ?_)); clear hS; intro wW hS; (try simp only [nA]); try simp only [Nat.sub_zero, Nat.add_zero, Nat.zero_add, Nat.reduceSub, Nat.add_sub_cancel_left, dm_ss] at hS)
  | ((with_reducible refine to_alloc 72 rfl ?_); refine Wl_alloc hS (fun _ => by rfl) _ w3Z ?_; clear hS; intro b3 wW hS; simp only [nA])
  | ((with_reducible refine to_store 72 rfl ?_); refine Wl_store hS (fun _ => by rfl) _ _ _ rfl rfl (w3I.trans rfl) (by simp [Value.oneCell']) ?_; (repeat (first | refine Turn.here rfl ?_)); clear hS; intro wW hS; try simp only [nA]))
    rw [← hx.out] at hS
    refine wp_region_held_drew (S := fun W => St w.heap.size 0 0 w [⟨b1, 0, true, x.c (.slice A n c)⟩] W) (by kernel_rfl) (hS.drew.sub (by repeat (first | exact List.Sublist.slnil | apply List.Sublist.cons_cons | apply List.Sublist.cons))) ?_
    intro _
    replace hS := hS.drew
    generalize World.drew _ = wX at hS ⊢
    first
      | refine wpAnyH_take (i := 0) rfl (by kernel_rfl) (by kernel_rfl) (by kernel_rfl) (fun _ _ _ h => h) (yields_row (by rfl) _ _ rfl _ _ rfl _ Try.underlying29 rfl _ (fun W hW => hW.range (.head _)) (dmI.trans rfl)) (hS.sub (by repeat (first | exact List.Sublist.slnil | apply List.Sublist.cons_cons | apply List.Sublist.cons))) ?_
      
    try simp only [nR]
    refine wpAnyH_take (i := 1) (v := ?_) rfl (by kernel_rfl) (by kernel_rfl) (by kernel_rfl) (fun _ _ _ h => h) (Or.inl ⟨by rfl, ?_⟩) (hS.sub (by repeat (first | exact List.Sublist.slnil | apply List.Sublist.cons_cons | apply List.Sublist.cons))) ?_
    rotate_left 1
    · intro W hW
      clear hW
      go_simp
      all_goals with_reducible rfl
    try simp only [nR]
    refine wpAnyH_ready (rs := [2]) (by kernel_rfl) (by simp) (AllReadyH.cons rfl ?_ AllReadyH.nil)
    intro K1 hK1
    rw [if_pos (by rfl)]
    try simp only [nR]
    go_simp
    refine (hi_any d.b b0.1 b0.2 _).mono ?_
    rintro e1 v2 ⟨rfl, rfl⟩
    refine hK1.out _ _ (hS.sub (by repeat (first | exact List.Sublist.slnil | apply List.Sublist.cons_cons | apply List.Sublist.cons))) (fun _ => ?_)
    clear hK1
    try simp only [nR]
    refine wpAnyH_ready (rs := [3]) (by kernel_rfl) (by simp) (AllReadyH.cons rfl ?_ AllReadyH.nil)
    intro K1 hK1
    rw [if_pos (by rfl)]
    try simp only [nR]
    refine wp_store_st hS _ _ _ rfl _ _ _ rfl rfl (dmI.trans rfl) (dm_one _ _ _ _) ?_
    repeat (first | refine Turn.here rfl ?_ | refine Turn.next ?_)
    clear hS
    intro wW hS
    refine hK1.out _ _ (hS.sub (by repeat (first | exact List.Sublist.slnil | apply List.Sublist.cons_cons | apply List.Sublist.cons))) (fun _ => ?_)
    clear hK1
    try simp only [nR]
    refine wpAnyH_take (i := 4) (v := ?_) rfl (by kernel_rfl) (by kernel_rfl) (by kernel_rfl) (fun _ _ _ h => h) (Or.inl ⟨by rfl, ?_⟩) (hS.sub (by repeat (first | exact List.Sublist.slnil | apply List.Sublist.cons_cons | apply List.Sublist.cons))) ?_
    rotate_left 1
    · intro W hW
      clear hW
      go_simp
      all_goals with_reducible rfl
    try simp only [nR]
    refine wpAnyH_done (by kernel_rfl) ?_ _
    go_wp2_with fail
    refine ret_tmp_st hS rfl _ _ rfl _ rfl rfl _ Try.underlying29 rfl ?_
    repeat (first | (refine Row.here ⟨dmI.trans rfl, ?_⟩) | refine Row.next ?_)
    have eV : M.dReadV d = d.b / 256 := by simp [M.dReadV, ← hK.out]
    exact ⟨by rw [eV]; try rfl, hS.below⟩
  · go_wp2_with (first
  | ((with_reducible first | refine to_load 3 rfl ?_ | refine to_load 24 rfl ?_); refine Wl_load1 hS (fun _ => by rfl) _ _ rfl (scT _ rfl) ?_; (repeat (first | refine Look.here (of_decide_eq_true rfl) rfl ?_ | refine Look.next ?_)); (with_reducible show wpList _ _ _ _ _ _); simp only [nA])
  | ((with_reducible first | refine to_store 5 rfl ?_); (first | refine Wl_store1 hS (fun _ => by rfl) _ _ (.int _ _) rfl rfl (scT _ rfl) rfl rfl ?_); (repeat (first | refine Turn1.here (of_decide_eq_true rfl) (of_decide_eq_true rfl) ?_ | refine Turn1.next ?_)); clear hS; intro wW hS; (try simp only [nA]); try simp only [Nat.sub_zero, Nat.add_zero, Nat.zero_add, Nat.reduceSub, Nat.add_sub_cancel_left, dm_ss] at hS)
  | ((with_reducible refine to_alloc 72 rfl ?_); refine Wl_alloc hS (fun _ => by rfl) _ w3Z ?_; clear hS; intro b3 wW hS; simp only [nA])
  | ((with_reducible refine to_store 72 rfl ?_); refine Wl_store hS (fun _ => by rfl) _ _ _ rfl rfl (w3I.trans rfl) (by simp [Value.oneCell']) ?_; (repeat (first | refine Turn.here rfl ?_)); clear hS; intro wW hS; try simp only [nA]))
    rw [← hx.out] at hS
    refine wp_region_held_drew (S := fun W => St w.heap.size 0 0 w [⟨b1, 0, true, x.c (.slice A n c)⟩] W) (by kernel_rfl) (hS.drew.sub (by repeat (first | exact List.Sublist.slnil | apply List.Sublist.cons_cons | apply List.Sublist.cons))) ?_
    intro _
    replace hS := hS.drew
    generalize World.drew _ = wX at hS ⊢
    first
      | refine wpAnyH_take (i := 0) rfl (by kernel_rfl) (by kernel_rfl) (by kernel_rfl) (fun _ _ _ h => h) (yields_row (by rfl) _ _ rfl _ _ rfl _ Try.underlying29 rfl _ (fun W hW => hW.range (.head _)) (dmI.trans rfl)) (hS.sub (by repeat (first | exact List.Sublist.slnil | apply List.Sublist.cons_cons | apply List.Sublist.cons))) ?_
      
    try simp only [nR]
    first
      | refine wpAnyH_take (i := 1) rfl (by kernel_rfl) (by kernel_rfl) (by kernel_rfl) (fun _ _ _ h => h) (yields_row (by rfl) _ _ rfl _ _ rfl _ Try.underlying29 rfl _ (fun W hW => hW.range (.head _)) (dmI.trans rfl)) (hS.sub (by repeat (first | exact List.Sublist.slnil | apply List.Sublist.cons_cons | apply List.Sublist.cons))) ?_
      
    try simp only [nR]
    refine wpAnyH_ready (rs := [2]) (by kernel_rfl) (by simp) (AllReadyH.cons rfl ?_ AllReadyH.nil)
    intro K1 hK1
    rw [if_pos (by rfl)]
    try simp only [nR]
    go_simp
    refine (dstatus_any x A n c _).mono ?_
    rintro e1 v2 ⟨rfl, hb⟩
    replace hS := hS.call hb
    clear hb
    refine hK1.out _ _ (hS.sub (by repeat (first | exact List.Sublist.slnil | apply List.Sublist.cons_cons | apply List.Sublist.cons))) (fun _ => ?_)
    clear hK1
    try simp only [nR]
    refine wpAnyH_ready (rs := [3]) (by kernel_rfl) (by simp) (AllReadyH.cons rfl ?_ AllReadyH.nil)
    intro K1 hK1
    rw [if_pos (by rfl)]
    try simp only [nR]
    refine wp_store_st hS _ _ _ rfl _ _ _ rfl rfl (dmI.trans rfl) (dm_one _ _ _ _) ?_
    repeat (first | refine Turn.here rfl ?_ | refine Turn.next ?_)
    clear hS
    intro wW hS
    refine hK1.out _ _ (hS.sub (by repeat (first | exact List.Sublist.slnil | apply List.Sublist.cons_cons | apply List.Sublist.cons))) (fun _ => ?_)
    clear hK1
    try simp only [nR]
    refine wpAnyH_take (i := 4) (v := ?_) rfl (by kernel_rfl) (by kernel_rfl) (by kernel_rfl) (fun _ _ _ h => h) (Or.inl ⟨by rfl, ?_⟩) (hS.sub (by repeat (first | exact List.Sublist.slnil | apply List.Sublist.cons_cons | apply List.Sublist.cons))) ?_
    rotate_left 1
    · intro W hW
      clear hW
      go_simp
      all_goals with_reducible rfl
    try simp only [nR]
    refine wpAnyH_done (by kernel_rfl) ?_ _
    go_wp2_with fail
    refine ret_tmp_st hS rfl _ _ rfl _ rfl rfl _ Try.underlying29 rfl ?_
    repeat (first | (refine Row.here ⟨dmI.trans rfl, ?_⟩) | refine Row.next ?_)
    have eV : M.dReadV d = M.dStatus x := by rw [hxs.out]; simp [M.dReadV, ← hK.out]
    exact ⟨by rw [eV]; try rfl, hS.below⟩
end Go.Proofs.Ytkkkjdbcckaedaa
