/- The reference's DMA (charabancref22): Read. -/
import Derived.Test.YtkkkjdbcckaedaaRmA
import Derived.Test.YtkkkjdbcckaedaaDmRead
namespace Go.Proofs.Ytkkkjdbcckaedaa
open Go.RowKit
set_option linter.unusedVariables false
set_option linter.unusedSimpArgs false
set_option maxRecDepth 100000
theorem M.tmod_is (l m : Int) (hm : 0 < m) : l.tmod m = if 0 ≤ l then l % m else -((-l) % m) := by
  by_cases h : 0 ≤ l
  · rw [if_pos h, Int.tmod_eq_emod_of_nonneg h]
  · rw [if_neg h]
    have e : l = -(-l) := by omega
    conv => lhs; rw [e]
    rw [Int.neg_tmod, Int.tmod_eq_emod_of_nonneg (by omega)]
theorem M.left_is (l : Int) : IntKind.u16.wrap ((wrap64 (l.tmod 65536 + 65536)).tmod 65536) = l % 65536 := by
  have e1 := M.tmod_is l 65536 (by decide)
  have e2 : wrap64 (l.tmod 65536 + 65536) = l.tmod 65536 + 65536 := by
    simp only [wrap64]
    rw [e1]
    split <;> omega
  rw [e2]
  have e3 := M.tmod_is (l.tmod 65536 + 65536) 65536 (by decide)
  rw [e3, e1]
  show (_ : Int) % 65536 = _
  split <;> split <;> omega
set_option maxHeartbeats 8000000 in
theorem rmread_any (d : M.Dm) (hd : d.ok) (A : Option Addr) (n c : Nat) (w : World) : Calls Try.prog 16 #[.agg (d.c (.slice A n c))] w fun e w' => e = .returned (.tuple #[.agg ((M.dReadP d).c (.slice A n c)), .int .u8 (M.dReadV d)]) ∧ Below w.heap.size w w' := by
  have hS := St.start w.heap.size 0 0 w
  have hf := fun W => rfirst_any d.ask hd.ask.1 hd.ask.2 W
  have hc := M.first_cases d.ask
  have hw := fun n W => refwith_any d.ask n false hd.ask.1 hd.ask.2 W
  obtain ⟨K, hK⟩ : ∃ K, K = M.firstB d.ask := ⟨_, rfl⟩
  have e1 : M.dReadP d = { d with ask := M.withB d.ask K false } := by rw [hK]; rfl
  rw [e1]
  rw [← hK] at hf hc
  replace hw := hw K
  generalize M.withB d.ask K false = q at hw ⊢
  have HF := Lib.hid hf
  have HW := Lib.hid hw
  replace hK := Lib.hid hK
  obtain ⟨x, hx⟩ : ∃ x, x = ({ d with ask := q } : M.Dm) := ⟨_, rfl⟩
  have hxs : M.dStatus x = M.dStatus d := by rw [hx]; rfl
  have xa : x.a = d.a := by rw [hx]
  have xb : x.b = d.b := by rw [hx]
  have a0 : 0 ≤ x.a ∧ x.a ≤ 65535 := by rw [xa]; exact hd.a
  have b0 : 0 ≤ x.b ∧ x.b ≤ 65535 := by rw [xb]; exact hd.b
  replace xa := Lib.hid xa
  replace xb := Lib.hid xb
  replace hxs := Lib.hid hxs
  rw [← hx]
  replace hx := Lib.hid hx
  have l0 := hd.left
  clear hf hw e1
  go_enter Try.func16, Try.ntmps16
  go_wp2_with (first
  | ((with_reducible first | refine to_load 5 rfl ?_ ); refine Wl_load1 hS (fun _ => by rfl) _ _ rfl (scT _ rfl) ?_; (repeat (first | refine Look.here (of_decide_eq_true rfl) rfl ?_ | refine Look.next ?_)); (with_reducible show wpList _ _ _ _ _ _); simp only [nA])
  | ((with_reducible refine to_boxT 42 rfl ?_); refine Wl_box hS (fun _ => by rfl) _ rfl ?_; clear hS; intro b1 wW hS; simp only [nA])
  | ((with_reducible refine to_alloc 42 rfl ?_); refine Wl_alloc hS (fun _ => by rfl) _ rdmZ ?_; clear hS; intro b2 wW hS; simp only [nA])
  )
  refine (HF.out _).mono ?_
  rintro e w1 ⟨rfl, rfl⟩
  go_wp2_with (first
  | ((with_reducible first | refine to_load 5 rfl ?_ ); refine Wl_load1 hS (fun _ => by rfl) _ _ rfl (scT _ rfl) ?_; (repeat (first | refine Look.here (of_decide_eq_true rfl) rfl ?_ | refine Look.next ?_)); (with_reducible show wpList _ _ _ _ _ _); simp only [nA])
  )
  refine (HW.out _).mono ?_
  rintro e w1 ⟨rfl, rfl⟩
  clear HF HW
  rcases hc with rfl | rfl | rfl | rfl | rfl | rfl | rfl | rfl | rfl
  all_goals
    go_wp2_with (first
  | ((with_reducible first | refine to_load 3 rfl ?_ ); refine Wl_load1 hS (fun _ => by rfl) _ _ rfl (scT _ rfl) ?_; (repeat (first | refine Look.here (of_decide_eq_true rfl) rfl ?_ | refine Look.next ?_)); (with_reducible show wpList _ _ _ _ _ _); simp only [nA])
  | ((with_reducible first | refine to_store 5 rfl ?_); (first | refine Wl_store1 hS (fun _ => by rfl) _ _ (.int _ _) rfl rfl (scT _ rfl) rfl rfl ?_); (repeat (first | refine Turn1.here (of_decide_eq_true rfl) (of_decide_eq_true rfl) ?_ | refine Turn1.next ?_)); clear hS; intro wW hS; (try simp only [nA]); try simp only [Nat.sub_zero, Nat.add_zero, Nat.zero_add, Nat.reduceSub, Nat.add_sub_cancel_left, dm_ss] at hS)
  )
    rw [← hx.out] at hS
    simp only [M.left_is]
  · refine wp_region_held_drew (S := fun W => St w.heap.size 0 0 w [⟨b1, 0, true, x.c (.slice A n c)⟩] W) (by kernel_rfl) (hS.drew.sub (by repeat (first | exact List.Sublist.slnil | apply List.Sublist.cons_cons | apply List.Sublist.cons))) ?_
    intro _
    replace hS := hS.drew
    generalize World.drew _ = wX at hS ⊢
    first
      | refine wpAnyH_take (i := 0) rfl (by kernel_rfl) (by kernel_rfl) (by kernel_rfl) (fun _ _ _ h => h) (yields_row (by rfl) _ _ rfl _ _ rfl _ Try.underlying42 rfl _ (fun W hW => hW.range (.head _)) (rdmI.trans rfl)) (hS.sub (by repeat (first | exact List.Sublist.slnil | apply List.Sublist.cons_cons | apply List.Sublist.cons))) ?_
      
    try simp only [nR]
    first
      | refine wpAnyH_take (i := 1) rfl (by kernel_rfl) (by kernel_rfl) (by kernel_rfl) (fun _ _ _ h => h) (yields_row (by rfl) _ _ rfl _ _ rfl _ Try.underlying42 rfl _ (fun W hW => hW.range (.head _)) (rdmI.trans rfl)) (hS.sub (by repeat (first | exact List.Sublist.slnil | apply List.Sublist.cons_cons | apply List.Sublist.cons))) ?_
      
    try simp only [nR]
    refine wpAnyH_ready (rs := [2]) (by kernel_rfl) (by simp) (AllReadyH.cons rfl ?_ AllReadyH.nil)
    intro K1 hK1
    rw [if_pos (by rfl)]
    try simp only [nR]
    go_simp
    refine (rmstatus_any x A n c _).mono ?_
    rintro e1 v2 ⟨rfl, hb⟩
    replace hS := hS.call hb
    clear hb
    refine hK1.out _ _ (hS.sub (by repeat (first | exact List.Sublist.slnil | apply List.Sublist.cons_cons | apply List.Sublist.cons))) (fun _ => ?_)
    clear hK1
    try simp only [nR]
    refine wpAnyH_ready (rs := [3]) (by kernel_rfl) (by simp) (AllReadyH.cons rfl ?_ AllReadyH.nil)
    intro K1 hK1
    rw [if_pos (by rfl)]
    try simp only [nR]
    refine wp_store_st hS _ _ _ rfl _ _ _ rfl rfl (rdmI.trans rfl) (dm_one _ _ _ _) ?_
    repeat (first | refine Turn.here rfl ?_)
    clear hS
    intro wW hS
    refine hK1.out _ _ (hS.sub (by repeat (first | exact List.Sublist.slnil | apply List.Sublist.cons_cons | apply List.Sublist.cons))) (fun _ => ?_)
    clear hK1
    try simp only [nR]
    refine wpAnyH_take (i := 4) (v := ?_) rfl (by kernel_rfl) (by kernel_rfl) (by kernel_rfl) (fun _ _ _ h => h) (Or.inl ⟨by rfl, ?_⟩) (hS.sub (by repeat (first | exact List.Sublist.slnil | apply List.Sublist.cons_cons | apply List.Sublist.cons))) ?_
    rotate_left 1
    · intro W hW
      clear hW
      go_simp
      all_goals with_reducible rfl
    try simp only [nR]
    refine wpAnyH_done (by kernel_rfl) ?_ _
    go_wp2_with fail
    refine ret_tmp_st hS rfl _ _ rfl _ rfl rfl _ Try.underlying42 rfl ?_
    repeat (first | (refine Row.here ⟨rdmI.trans rfl, ?_⟩))
    have eV : M.dReadV d = M.dStatus x := by rw [hxs.out]; simp [M.dReadV, ← hK.out]
    exact ⟨by rw [eV]; try rfl, hS.below⟩
  · refine wp_region_held_drew (S := fun W => St w.heap.size 0 0 w [⟨b1, 0, true, x.c (.slice A n c)⟩] W) (by kernel_rfl) (hS.drew.sub (by repeat (first | exact List.Sublist.slnil | apply List.Sublist.cons_cons | apply List.Sublist.cons))) ?_
    intro _
    replace hS := hS.drew
    generalize World.drew _ = wX at hS ⊢
    first
      | refine wpAnyH_take (i := 0) rfl (by kernel_rfl) (by kernel_rfl) (by kernel_rfl) (fun _ _ _ h => h) (yields_row (by rfl) _ _ rfl _ _ rfl _ Try.underlying42 rfl _ (fun W hW => hW.range (.head _)) (rdmI.trans rfl)) (hS.sub (by repeat (first | exact List.Sublist.slnil | apply List.Sublist.cons_cons | apply List.Sublist.cons))) ?_
      
    try simp only [nR]
    first
      | refine wpAnyH_take (i := 1) rfl (by kernel_rfl) (by kernel_rfl) (by kernel_rfl) (fun _ _ _ h => h) (yields_row (by rfl) _ _ rfl _ _ rfl _ Try.underlying42 rfl _ (fun W hW => hW.range (.head _)) (rdmI.trans rfl)) (hS.sub (by repeat (first | exact List.Sublist.slnil | apply List.Sublist.cons_cons | apply List.Sublist.cons))) ?_
      
    try simp only [nR]
    refine wpAnyH_ready (rs := [2]) (by kernel_rfl) (by simp) (AllReadyH.cons rfl ?_ AllReadyH.nil)
    intro K1 hK1
    rw [if_pos (by rfl)]
    try simp only [nR]
    go_simp
    refine (rmstatus_any x A n c _).mono ?_
    rintro e1 v2 ⟨rfl, hb⟩
    replace hS := hS.call hb
    clear hb
    refine hK1.out _ _ (hS.sub (by repeat (first | exact List.Sublist.slnil | apply List.Sublist.cons_cons | apply List.Sublist.cons))) (fun _ => ?_)
    clear hK1
    try simp only [nR]
    refine wpAnyH_ready (rs := [3]) (by kernel_rfl) (by simp) (AllReadyH.cons rfl ?_ AllReadyH.nil)
    intro K1 hK1
    rw [if_pos (by rfl)]
    try simp only [nR]
    refine wp_store_st hS _ _ _ rfl _ _ _ rfl rfl (rdmI.trans rfl) (dm_one _ _ _ _) ?_
    repeat (first | refine Turn.here rfl ?_)
    clear hS
    intro wW hS
    refine hK1.out _ _ (hS.sub (by repeat (first | exact List.Sublist.slnil | apply List.Sublist.cons_cons | apply List.Sublist.cons))) (fun _ => ?_)
    clear hK1
    try simp only [nR]
    refine wpAnyH_take (i := 4) (v := ?_) rfl (by kernel_rfl) (by kernel_rfl) (by kernel_rfl) (fun _ _ _ h => h) (Or.inl ⟨by rfl, ?_⟩) (hS.sub (by repeat (first | exact List.Sublist.slnil | apply List.Sublist.cons_cons | apply List.Sublist.cons))) ?_
    rotate_left 1
    · intro W hW
      clear hW
      go_simp
      all_goals with_reducible rfl
    try simp only [nR]
    refine wpAnyH_done (by kernel_rfl) ?_ _
    go_wp2_with fail
    refine ret_tmp_st hS rfl _ _ rfl _ rfl rfl _ Try.underlying42 rfl ?_
    repeat (first | (refine Row.here ⟨rdmI.trans rfl, ?_⟩))
    have eV : M.dReadV d = M.dStatus x := by rw [hxs.out]; simp [M.dReadV, ← hK.out]
    exact ⟨by rw [eV]; try rfl, hS.below⟩
  · refine wp_region_held_drew (S := fun W => St w.heap.size 0 0 w [⟨b1, 0, true, x.c (.slice A n c)⟩] W) (by kernel_rfl) (hS.drew.sub (by repeat (first | exact List.Sublist.slnil | apply List.Sublist.cons_cons | apply List.Sublist.cons))) ?_
    intro _
    replace hS := hS.drew
    generalize World.drew _ = wX at hS ⊢
    first
      | refine wpAnyH_take (i := 0) rfl (by kernel_rfl) (by kernel_rfl) (by kernel_rfl) (fun _ _ _ h => h) (yields_row (by rfl) _ _ rfl _ _ rfl _ Try.underlying42 rfl _ (fun W hW => hW.range (.head _)) (rdmI.trans rfl)) (hS.sub (by repeat (first | exact List.Sublist.slnil | apply List.Sublist.cons_cons | apply List.Sublist.cons))) ?_
      
    try simp only [nR]
    refine wpAnyH_take (i := 1) (v := ?_) rfl (by kernel_rfl) (by kernel_rfl) (by kernel_rfl) (fun _ _ _ h => h) (Or.inl ⟨by rfl, ?_⟩) (hS.sub (by repeat (first | exact List.Sublist.slnil | apply List.Sublist.cons_cons | apply List.Sublist.cons))) ?_
    rotate_left 1
    · intro W hW
      clear hW
      go_simp
      all_goals with_reducible rfl
    try simp only [nR]
    refine wpAnyH_ready (rs := [2]) (by kernel_rfl) (by simp) (AllReadyH.cons rfl ?_ AllReadyH.nil)
    intro K1 hK1
    rw [if_pos (by rfl)]
    try simp only [nR]
    go_simp
    refine (rlo_any (d.left % 65536) (by omega) (by omega) _).mono ?_
    rintro e1 v2 ⟨rfl, rfl⟩
    refine hK1.out _ _ (hS.sub (by repeat (first | exact List.Sublist.slnil | apply List.Sublist.cons_cons | apply List.Sublist.cons))) (fun _ => ?_)
    clear hK1
    try simp only [nR]
    refine wpAnyH_ready (rs := [3]) (by kernel_rfl) (by simp) (AllReadyH.cons rfl ?_ AllReadyH.nil)
    intro K1 hK1
    rw [if_pos (by rfl)]
    try simp only [nR]
    refine wp_store_st hS _ _ _ rfl _ _ _ rfl rfl (rdmI.trans rfl) (dm_one _ _ _ _) ?_
    repeat (first | refine Turn.here rfl ?_)
    clear hS
    intro wW hS
    refine hK1.out _ _ (hS.sub (by repeat (first | exact List.Sublist.slnil | apply List.Sublist.cons_cons | apply List.Sublist.cons))) (fun _ => ?_)
    clear hK1
    try simp only [nR]
    refine wpAnyH_take (i := 4) (v := ?_) rfl (by kernel_rfl) (by kernel_rfl) (by kernel_rfl) (fun _ _ _ h => h) (Or.inl ⟨by rfl, ?_⟩) (hS.sub (by repeat (first | exact List.Sublist.slnil | apply List.Sublist.cons_cons | apply List.Sublist.cons))) ?_
    rotate_left 1
    · intro W hW
      clear hW
      go_simp
      all_goals with_reducible rfl
    try simp only [nR]
    refine wpAnyH_done (by kernel_rfl) ?_ _
    go_wp2_with fail
    refine ret_tmp_st hS rfl _ _ rfl _ rfl rfl _ Try.underlying42 rfl ?_
    repeat (first | (refine Row.here ⟨rdmI.trans rfl, ?_⟩))
    have eV : M.dReadV d = d.left % 256 := by simp [M.dReadV, ← hK.out]
    exact ⟨by rw [eV]; try rfl, hS.below⟩
  · refine wp_region_held_drew (S := fun W => St w.heap.size 0 0 w [⟨b1, 0, true, x.c (.slice A n c)⟩] W) (by kernel_rfl) (hS.drew.sub (by repeat (first | exact List.Sublist.slnil | apply List.Sublist.cons_cons | apply List.Sublist.cons))) ?_
    intro _
    replace hS := hS.drew
    generalize World.drew _ = wX at hS ⊢
    first
      | refine wpAnyH_take (i := 0) rfl (by kernel_rfl) (by kernel_rfl) (by kernel_rfl) (fun _ _ _ h => h) (yields_row (by rfl) _ _ rfl _ _ rfl _ Try.underlying42 rfl _ (fun W hW => hW.range (.head _)) (rdmI.trans rfl)) (hS.sub (by repeat (first | exact List.Sublist.slnil | apply List.Sublist.cons_cons | apply List.Sublist.cons))) ?_
      
    try simp only [nR]
    refine wpAnyH_take (i := 1) (v := ?_) rfl (by kernel_rfl) (by kernel_rfl) (by kernel_rfl) (fun _ _ _ h => h) (Or.inl ⟨by rfl, ?_⟩) (hS.sub (by repeat (first | exact List.Sublist.slnil | apply List.Sublist.cons_cons | apply List.Sublist.cons))) ?_
    rotate_left 1
    · intro W hW
      clear hW
      go_simp
      all_goals with_reducible rfl
    try simp only [nR]
    refine wpAnyH_ready (rs := [2]) (by kernel_rfl) (by simp) (AllReadyH.cons rfl ?_ AllReadyH.nil)
    intro K1 hK1
    rw [if_pos (by rfl)]
    try simp only [nR]
    go_simp
    refine (rhi_any (d.left % 65536) (by omega) (by omega) _).mono ?_
    rintro e1 v2 ⟨rfl, rfl⟩
    refine hK1.out _ _ (hS.sub (by repeat (first | exact List.Sublist.slnil | apply List.Sublist.cons_cons | apply List.Sublist.cons))) (fun _ => ?_)
    clear hK1
    try simp only [nR]
    refine wpAnyH_ready (rs := [3]) (by kernel_rfl) (by simp) (AllReadyH.cons rfl ?_ AllReadyH.nil)
    intro K1 hK1
    rw [if_pos (by rfl)]
    try simp only [nR]
    refine wp_store_st hS _ _ _ rfl _ _ _ rfl rfl (rdmI.trans rfl) (dm_one _ _ _ _) ?_
    repeat (first | refine Turn.here rfl ?_)
    clear hS
    intro wW hS
    refine hK1.out _ _ (hS.sub (by repeat (first | exact List.Sublist.slnil | apply List.Sublist.cons_cons | apply List.Sublist.cons))) (fun _ => ?_)
    clear hK1
    try simp only [nR]
    refine wpAnyH_take (i := 4) (v := ?_) rfl (by kernel_rfl) (by kernel_rfl) (by kernel_rfl) (fun _ _ _ h => h) (Or.inl ⟨by rfl, ?_⟩) (hS.sub (by repeat (first | exact List.Sublist.slnil | apply List.Sublist.cons_cons | apply List.Sublist.cons))) ?_
    rotate_left 1
    · intro W hW
      clear hW
      go_simp
      all_goals with_reducible rfl
    try simp only [nR]
    refine wpAnyH_done (by kernel_rfl) ?_ _
    go_wp2_with fail
    refine ret_tmp_st hS rfl _ _ rfl _ rfl rfl _ Try.underlying42 rfl ?_
    repeat (first | (refine Row.here ⟨rdmI.trans rfl, ?_⟩))
    have eV : M.dReadV d = d.left % 65536 / 256 := by simp [M.dReadV, ← hK.out]
    exact ⟨by rw [eV]; try rfl, hS.below⟩
  · refine wp_region_held_drew (S := fun W => St w.heap.size 0 0 w [⟨b1, 0, true, x.c (.slice A n c)⟩] W) (by kernel_rfl) (hS.drew.sub (by repeat (first | exact List.Sublist.slnil | apply List.Sublist.cons_cons | apply List.Sublist.cons))) ?_
    intro _
    replace hS := hS.drew
    generalize World.drew _ = wX at hS ⊢
    first
      | refine wpAnyH_take (i := 0) rfl (by kernel_rfl) (by kernel_rfl) (by kernel_rfl) (fun _ _ _ h => h) (yields_row (by rfl) _ _ rfl _ _ rfl _ Try.underlying42 rfl _ (fun W hW => hW.range (.head _)) (rdmI.trans rfl)) (hS.sub (by repeat (first | exact List.Sublist.slnil | apply List.Sublist.cons_cons | apply List.Sublist.cons))) ?_
      
    try simp only [nR]
    refine wpAnyH_take (i := 1) (v := ?_) rfl (by kernel_rfl) (by kernel_rfl) (by kernel_rfl) (fun _ _ _ h => h) (Or.inl ⟨by rfl, ?_⟩) (hS.sub (by repeat (first | exact List.Sublist.slnil | apply List.Sublist.cons_cons | apply List.Sublist.cons))) ?_
    rotate_left 1
    · intro W hW
      clear hW
      go_simp
      all_goals with_reducible rfl
    try simp only [nR]
    first
      | refine wpAnyH_take (i := 2) rfl (by kernel_rfl) (by kernel_rfl) (by kernel_rfl) (fun _ _ _ h => h) (yields_one (by rfl) _ _ rfl _ _ rfl scW _ (fun W hW => hW.cell0 (.head _) rfl)) (hS.sub (by repeat (first | exact List.Sublist.slnil | apply List.Sublist.cons_cons | apply List.Sublist.cons))) ?_
      
    try simp only [nR]
    refine wpAnyH_ready (rs := [3]) (by kernel_rfl) (by simp) (AllReadyH.cons rfl ?_ AllReadyH.nil)
    intro K1 hK1
    rw [if_pos (by rfl)]
    try simp only [nR]
    go_simp
    refine (rlo_any x.a a0.1 a0.2 _).mono ?_
    rintro e1 v2 ⟨rfl, rfl⟩
    refine hK1.out _ _ (hS.sub (by repeat (first | exact List.Sublist.slnil | apply List.Sublist.cons_cons | apply List.Sublist.cons))) (fun _ => ?_)
    clear hK1
    try simp only [nR]
    refine wpAnyH_ready (rs := [4]) (by kernel_rfl) (by simp) (AllReadyH.cons rfl ?_ AllReadyH.nil)
    intro K1 hK1
    rw [if_pos (by rfl)]
    try simp only [nR]
    refine wp_store_st hS _ _ _ rfl _ _ _ rfl rfl (rdmI.trans rfl) (dm_one _ _ _ _) ?_
    repeat (first | refine Turn.here rfl ?_)
    clear hS
    intro wW hS
    refine hK1.out _ _ (hS.sub (by repeat (first | exact List.Sublist.slnil | apply List.Sublist.cons_cons | apply List.Sublist.cons))) (fun _ => ?_)
    clear hK1
    try simp only [nR]
    refine wpAnyH_take (i := 5) (v := ?_) rfl (by kernel_rfl) (by kernel_rfl) (by kernel_rfl) (fun _ _ _ h => h) (Or.inl ⟨by rfl, ?_⟩) (hS.sub (by repeat (first | exact List.Sublist.slnil | apply List.Sublist.cons_cons | apply List.Sublist.cons))) ?_
    rotate_left 1
    · intro W hW
      clear hW
      go_simp
      all_goals with_reducible rfl
    try simp only [nR]
    refine wpAnyH_done (by kernel_rfl) ?_ _
    go_wp2_with fail
    refine ret_tmp_st hS rfl _ _ rfl _ rfl rfl _ Try.underlying42 rfl ?_
    repeat (first | (refine Row.here ⟨rdmI.trans rfl, ?_⟩))
    have eV : M.dReadV d = x.a % 256 := by (first | rw [xa.out]); simp [M.dReadV, ← hK.out]
    exact ⟨by rw [eV]; try rfl, hS.below⟩
  · refine wp_region_held_drew (S := fun W => St w.heap.size 0 0 w [⟨b1, 0, true, x.c (.slice A n c)⟩] W) (by kernel_rfl) (hS.drew.sub (by repeat (first | exact List.Sublist.slnil | apply List.Sublist.cons_cons | apply List.Sublist.cons))) ?_
    intro _
    replace hS := hS.drew
    generalize World.drew _ = wX at hS ⊢
    first
      | refine wpAnyH_take (i := 0) rfl (by kernel_rfl) (by kernel_rfl) (by kernel_rfl) (fun _ _ _ h => h) (yields_row (by rfl) _ _ rfl _ _ rfl _ Try.underlying42 rfl _ (fun W hW => hW.range (.head _)) (rdmI.trans rfl)) (hS.sub (by repeat (first | exact List.Sublist.slnil | apply List.Sublist.cons_cons | apply List.Sublist.cons))) ?_
      
    try simp only [nR]
    refine wpAnyH_take (i := 1) (v := ?_) rfl (by kernel_rfl) (by kernel_rfl) (by kernel_rfl) (fun _ _ _ h => h) (Or.inl ⟨by rfl, ?_⟩) (hS.sub (by repeat (first | exact List.Sublist.slnil | apply List.Sublist.cons_cons | apply List.Sublist.cons))) ?_
    rotate_left 1
    · intro W hW
      clear hW
      go_simp
      all_goals with_reducible rfl
    try simp only [nR]
    first
      | refine wpAnyH_take (i := 2) rfl (by kernel_rfl) (by kernel_rfl) (by kernel_rfl) (fun _ _ _ h => h) (yields_one (by rfl) _ _ rfl _ _ rfl scW _ (fun W hW => hW.cell0 (.head _) rfl)) (hS.sub (by repeat (first | exact List.Sublist.slnil | apply List.Sublist.cons_cons | apply List.Sublist.cons))) ?_
      
    try simp only [nR]
    refine wpAnyH_ready (rs := [3]) (by kernel_rfl) (by simp) (AllReadyH.cons rfl ?_ AllReadyH.nil)
    intro K1 hK1
    rw [if_pos (by rfl)]
    try simp only [nR]
    go_simp
    refine (rhi_any x.a a0.1 a0.2 _).mono ?_
    rintro e1 v2 ⟨rfl, rfl⟩
    refine hK1.out _ _ (hS.sub (by repeat (first | exact List.Sublist.slnil | apply List.Sublist.cons_cons | apply List.Sublist.cons))) (fun _ => ?_)
    clear hK1
    try simp only [nR]
    refine wpAnyH_ready (rs := [4]) (by kernel_rfl) (by simp) (AllReadyH.cons rfl ?_ AllReadyH.nil)
    intro K1 hK1
    rw [if_pos (by rfl)]
    try simp only [nR]
    refine wp_store_st hS _ _ _ rfl _ _ _ rfl rfl (rdmI.trans rfl) (dm_one _ _ _ _) ?_
    repeat (first | refine Turn.here rfl ?_)
    clear hS
    intro wW hS
    refine hK1.out _ _ (hS.sub (by repeat (first | exact List.Sublist.slnil | apply List.Sublist.cons_cons | apply List.Sublist.cons))) (fun _ => ?_)
    clear hK1
    try simp only [nR]
    refine wpAnyH_take (i := 5) (v := ?_) rfl (by kernel_rfl) (by kernel_rfl) (by kernel_rfl) (fun _ _ _ h => h) (Or.inl ⟨by rfl, ?_⟩) (hS.sub (by repeat (first | exact List.Sublist.slnil | apply List.Sublist.cons_cons | apply List.Sublist.cons))) ?_
    rotate_left 1
    · intro W hW
      clear hW
      go_simp
      all_goals with_reducible rfl
    try simp only [nR]
    refine wpAnyH_done (by kernel_rfl) ?_ _
    go_wp2_with fail
    refine ret_tmp_st hS rfl _ _ rfl _ rfl rfl _ Try.underlying42 rfl ?_
    repeat (first | (refine Row.here ⟨rdmI.trans rfl, ?_⟩))
    have eV : M.dReadV d = x.a / 256 := by (first | rw [xa.out]); simp [M.dReadV, ← hK.out]
    exact ⟨by rw [eV]; try rfl, hS.below⟩
  · refine wp_region_held_drew (S := fun W => St w.heap.size 0 0 w [⟨b1, 0, true, x.c (.slice A n c)⟩] W) (by kernel_rfl) (hS.drew.sub (by repeat (first | exact List.Sublist.slnil | apply List.Sublist.cons_cons | apply List.Sublist.cons))) ?_
    intro _
    replace hS := hS.drew
    generalize World.drew _ = wX at hS ⊢
    first
      | refine wpAnyH_take (i := 0) rfl (by kernel_rfl) (by kernel_rfl) (by kernel_rfl) (fun _ _ _ h => h) (yields_row (by rfl) _ _ rfl _ _ rfl _ Try.underlying42 rfl _ (fun W hW => hW.range (.head _)) (rdmI.trans rfl)) (hS.sub (by repeat (first | exact List.Sublist.slnil | apply List.Sublist.cons_cons | apply List.Sublist.cons))) ?_
      
    try simp only [nR]
    refine wpAnyH_take (i := 1) (v := ?_) rfl (by kernel_rfl) (by kernel_rfl) (by kernel_rfl) (fun _ _ _ h => h) (Or.inl ⟨by rfl, ?_⟩) (hS.sub (by repeat (first | exact List.Sublist.slnil | apply List.Sublist.cons_cons | apply List.Sublist.cons))) ?_
    rotate_left 1
    · intro W hW
      clear hW
      go_simp
      all_goals with_reducible rfl
    try simp only [nR]
    first
      | refine wpAnyH_take (i := 2) rfl (by kernel_rfl) (by kernel_rfl) (by kernel_rfl) (fun _ _ _ h => h) (yields_one (by rfl) _ _ rfl _ _ rfl scW _ (fun W hW => hW.cell0 (.head _) rfl)) (hS.sub (by repeat (first | exact List.Sublist.slnil | apply List.Sublist.cons_cons | apply List.Sublist.cons))) ?_
      
    try simp only [nR]
    refine wpAnyH_ready (rs := [3]) (by kernel_rfl) (by simp) (AllReadyH.cons rfl ?_ AllReadyH.nil)
    intro K1 hK1
    rw [if_pos (by rfl)]
    try simp only [nR]
    go_simp
    refine (rlo_any x.b b0.1 b0.2 _).mono ?_
    rintro e1 v2 ⟨rfl, rfl⟩
    refine hK1.out _ _ (hS.sub (by repeat (first | exact List.Sublist.slnil | apply List.Sublist.cons_cons | apply List.Sublist.cons))) (fun _ => ?_)
    clear hK1
    try simp only [nR]
    refine wpAnyH_ready (rs := [4]) (by kernel_rfl) (by simp) (AllReadyH.cons rfl ?_ AllReadyH.nil)
    intro K1 hK1
    rw [if_pos (by rfl)]
    try simp only [nR]
    refine wp_store_st hS _ _ _ rfl _ _ _ rfl rfl (rdmI.trans rfl) (dm_one _ _ _ _) ?_
    repeat (first | refine Turn.here rfl ?_)
    clear hS
    intro wW hS
    refine hK1.out _ _ (hS.sub (by repeat (first | exact List.Sublist.slnil | apply List.Sublist.cons_cons | apply List.Sublist.cons))) (fun _ => ?_)
    clear hK1
    try simp only [nR]
    refine wpAnyH_take (i := 5) (v := ?_) rfl (by kernel_rfl) (by kernel_rfl) (by kernel_rfl) (fun _ _ _ h => h) (Or.inl ⟨by rfl, ?_⟩) (hS.sub (by repeat (first | exact List.Sublist.slnil | apply List.Sublist.cons_cons | apply List.Sublist.cons))) ?_
    rotate_left 1
    · intro W hW
      clear hW
      go_simp
      all_goals with_reducible rfl
    try simp only [nR]
    refine wpAnyH_done (by kernel_rfl) ?_ _
    go_wp2_with fail
    refine ret_tmp_st hS rfl _ _ rfl _ rfl rfl _ Try.underlying42 rfl ?_
    repeat (first | (refine Row.here ⟨rdmI.trans rfl, ?_⟩))
    have eV : M.dReadV d = x.b % 256 := by (first | rw [xb.out]); simp [M.dReadV, ← hK.out]
    exact ⟨by rw [eV]; try rfl, hS.below⟩
  · refine wp_region_held_drew (S := fun W => St w.heap.size 0 0 w [⟨b1, 0, true, x.c (.slice A n c)⟩] W) (by kernel_rfl) (hS.drew.sub (by repeat (first | exact List.Sublist.slnil | apply List.Sublist.cons_cons | apply List.Sublist.cons))) ?_
    intro _
    replace hS := hS.drew
    generalize World.drew _ = wX at hS ⊢
    first
      | refine wpAnyH_take (i := 0) rfl (by kernel_rfl) (by kernel_rfl) (by kernel_rfl) (fun _ _ _ h => h) (yields_row (by rfl) _ _ rfl _ _ rfl _ Try.underlying42 rfl _ (fun W hW => hW.range (.head _)) (rdmI.trans rfl)) (hS.sub (by repeat (first | exact List.Sublist.slnil | apply List.Sublist.cons_cons | apply List.Sublist.cons))) ?_
      
    try simp only [nR]
    refine wpAnyH_take (i := 1) (v := ?_) rfl (by kernel_rfl) (by kernel_rfl) (by kernel_rfl) (fun _ _ _ h => h) (Or.inl ⟨by rfl, ?_⟩) (hS.sub (by repeat (first | exact List.Sublist.slnil | apply List.Sublist.cons_cons | apply List.Sublist.cons))) ?_
    rotate_left 1
    · intro W hW
      clear hW
      go_simp
      all_goals with_reducible rfl
    try simp only [nR]
    first
      | refine wpAnyH_take (i := 2) rfl (by kernel_rfl) (by kernel_rfl) (by kernel_rfl) (fun _ _ _ h => h) (yields_one (by rfl) _ _ rfl _ _ rfl scW _ (fun W hW => hW.cell0 (.head _) rfl)) (hS.sub (by repeat (first | exact List.Sublist.slnil | apply List.Sublist.cons_cons | apply List.Sublist.cons))) ?_
      
    try simp only [nR]
    refine wpAnyH_ready (rs := [3]) (by kernel_rfl) (by simp) (AllReadyH.cons rfl ?_ AllReadyH.nil)
    intro K1 hK1
    rw [if_pos (by rfl)]
    try simp only [nR]
    go_simp
    refine (rhi_any x.b b0.1 b0.2 _).mono ?_
    rintro e1 v2 ⟨rfl, rfl⟩
    refine hK1.out _ _ (hS.sub (by repeat (first | exact List.Sublist.slnil | apply List.Sublist.cons_cons | apply List.Sublist.cons))) (fun _ => ?_)
    clear hK1
    try simp only [nR]
    refine wpAnyH_ready (rs := [4]) (by kernel_rfl) (by simp) (AllReadyH.cons rfl ?_ AllReadyH.nil)
    intro K1 hK1
    rw [if_pos (by rfl)]
    try simp only [nR]
    refine wp_store_st hS _ _ _ rfl _ _ _ rfl rfl (rdmI.trans rfl) (dm_one _ _ _ _) ?_
    repeat (first | refine Turn.here rfl ?_)
    clear hS
    intro wW hS
    refine hK1.out _ _ (hS.sub (by repeat (first | exact List.Sublist.slnil | apply List.Sublist.cons_cons | apply List.Sublist.cons))) (fun _ => ?_)
    clear hK1
    try simp only [nR]
    refine wpAnyH_take (i := 5) (v := ?_) rfl (by kernel_rfl) (by kernel_rfl) (by kernel_rfl) (fun _ _ _ h => h) (Or.inl ⟨by rfl, ?_⟩) (hS.sub (by repeat (first | exact List.Sublist.slnil | apply List.Sublist.cons_cons | apply List.Sublist.cons))) ?_
    rotate_left 1
    · intro W hW
      clear hW
      go_simp
      all_goals with_reducible rfl
    try simp only [nR]
    refine wpAnyH_done (by kernel_rfl) ?_ _
    go_wp2_with fail
    refine ret_tmp_st hS rfl _ _ rfl _ rfl rfl _ Try.underlying42 rfl ?_
    repeat (first | (refine Row.here ⟨rdmI.trans rfl, ?_⟩))
    have eV : M.dReadV d = x.b / 256 := by (first | rw [xb.out]); simp [M.dReadV, ← hK.out]
    exact ⟨by rw [eV]; try rfl, hS.below⟩
  · refine wp_region_held_drew (S := fun W => St w.heap.size 0 0 w [⟨b1, 0, true, x.c (.slice A n c)⟩] W) (by kernel_rfl) (hS.drew.sub (by repeat (first | exact List.Sublist.slnil | apply List.Sublist.cons_cons | apply List.Sublist.cons))) ?_
    intro _
    replace hS := hS.drew
    generalize World.drew _ = wX at hS ⊢
    first
      | refine wpAnyH_take (i := 0) rfl (by kernel_rfl) (by kernel_rfl) (by kernel_rfl) (fun _ _ _ h => h) (yields_row (by rfl) _ _ rfl _ _ rfl _ Try.underlying42 rfl _ (fun W hW => hW.range (.head _)) (rdmI.trans rfl)) (hS.sub (by repeat (first | exact List.Sublist.slnil | apply List.Sublist.cons_cons | apply List.Sublist.cons))) ?_
      
    try simp only [nR]
    first
      | refine wpAnyH_take (i := 1) rfl (by kernel_rfl) (by kernel_rfl) (by kernel_rfl) (fun _ _ _ h => h) (yields_row (by rfl) _ _ rfl _ _ rfl _ Try.underlying42 rfl _ (fun W hW => hW.range (.head _)) (rdmI.trans rfl)) (hS.sub (by repeat (first | exact List.Sublist.slnil | apply List.Sublist.cons_cons | apply List.Sublist.cons))) ?_
      
    try simp only [nR]
    refine wpAnyH_ready (rs := [2]) (by kernel_rfl) (by simp) (AllReadyH.cons rfl ?_ AllReadyH.nil)
    intro K1 hK1
    rw [if_pos (by rfl)]
    try simp only [nR]
    go_simp
    refine (rmstatus_any x A n c _).mono ?_
    rintro e1 v2 ⟨rfl, hb⟩
    replace hS := hS.call hb
    clear hb
    refine hK1.out _ _ (hS.sub (by repeat (first | exact List.Sublist.slnil | apply List.Sublist.cons_cons | apply List.Sublist.cons))) (fun _ => ?_)
    clear hK1
    try simp only [nR]
    refine wpAnyH_ready (rs := [3]) (by kernel_rfl) (by simp) (AllReadyH.cons rfl ?_ AllReadyH.nil)
    intro K1 hK1
    rw [if_pos (by rfl)]
    try simp only [nR]
    refine wp_store_st hS _ _ _ rfl _ _ _ rfl rfl (rdmI.trans rfl) (dm_one _ _ _ _) ?_
    repeat (first | refine Turn.here rfl ?_)
    clear hS
    intro wW hS
    refine hK1.out _ _ (hS.sub (by repeat (first | exact List.Sublist.slnil | apply List.Sublist.cons_cons | apply List.Sublist.cons))) (fun _ => ?_)
    clear hK1
    try simp only [nR]
    refine wpAnyH_take (i := 4) (v := ?_) rfl (by kernel_rfl) (by kernel_rfl) (by kernel_rfl) (fun _ _ _ h => h) (Or.inl ⟨by rfl, ?_⟩) (hS.sub (by repeat (first | exact List.Sublist.slnil | apply List.Sublist.cons_cons | apply List.Sublist.cons))) ?_
    rotate_left 1
    · intro W hW
      clear hW
      go_simp
      all_goals with_reducible rfl
    try simp only [nR]
    refine wpAnyH_done (by kernel_rfl) ?_ _
    go_wp2_with fail
    refine ret_tmp_st hS rfl _ _ rfl _ rfl rfl _ Try.underlying42 rfl ?_
    repeat (first | (refine Row.here ⟨rdmI.trans rfl, ?_⟩))
    have eV : M.dReadV d = M.dStatus x := by rw [hxs.out]; simp [M.dReadV, ← hK.out]
    exact ⟨by rw [eV]; try rfl, hS.below⟩
end Go.Proofs.Ytkkkjdbcckaedaa
