/- charabanclaw22.DmaTakes is true at whatever DMA, whatever byte, ready or not. -/
import Derived.Test.YtkkkjdbcckaedaaDmAwake
import Derived.Test.YtkkkjdbcckaedaaRmD
import Derived.Test.YtkkkjdbcckaedaaRmF
import Derived.Test.YtkkkjdbcckaedaaRmSame
namespace Go.Proofs.Ytkkkjdbcckaedaa
open Go.RowKit
set_option linter.unusedVariables false
set_option linter.unusedSimpArgs false
set_option maxRecDepth 100000
set_option maxHeartbeats 16000000 in
theorem dmtakes_true (d : M.Dm) (hd : d.ok) (A : Option Addr) (c : Nat) (r : Bool) (b : Int) (h0 : 0 ≤ b) (h1 : b ≤ 255) (w : World) (r1 : Ls 0 w (.slice A d.p.want.length c) (ints .i64 d.p.want)) :
    Calls Try.prog 6 #[.agg (d.c (.slice A d.p.want.length c)), .bool r, .int .u8 b] w fun e w' => e = .returned (.bool true) ∧ Below w.heap.size w w' := by
  have hsh := r1.shp
  have hS := (St.start w.heap.size 0 0 w).came r1
  simp only [List.nil_append] at hS
  by_cases g1 : 20 < d.p.want.length
  · have t1 : decide ((20 : Int) < (d.p.want.length : Int)) = true := decide_eq_true (by omega)
    clear r1
    go_enter Try.func6, Try.ntmps6
    go_wp2_with (first
  | ((with_reducible refine to_boxT 29 rfl ?_); refine Wl_box hS (fun _ => by rfl) _ rfl ?_; clear hS; intro b2 wW hS; simp only [nA]))
    refine (dmawake_any _).mono ?_
    rintro e w1 ⟨rfl, hb⟩
    replace hS := hS.call hb
    clear hb
    go_wp2_with (first
  | ((with_reducible first | refine to_load 25 rfl ?_); refine Wl_load1 hS (fun _ => by rfl) _ _ rfl (scT _ rfl) ?_; (repeat (first | refine Look.here (of_decide_eq_true rfl) rfl ?_)); (with_reducible show wpList _ _ _ _ _ _); simp only [nA]))
    go_returns
    exact ⟨rfl, hS.below⟩
  · have t1 : decide ((20 : Int) < (d.p.want.length : Int)) = false := decide_eq_false (by omega)
    by_cases g2 : d.left < -1000000
    · have t2 : decide (d.left < -1000000) = true := decide_eq_true g2
      clear r1
      go_enter Try.func6, Try.ntmps6
      go_wp2_with (first
  | ((with_reducible refine to_boxT 29 rfl ?_); refine Wl_box hS (fun _ => by rfl) _ rfl ?_; clear hS; intro b2 wW hS; simp only [nA]))
      refine (dmawake_any _).mono ?_
      rintro e w1 ⟨rfl, hb⟩
      replace hS := hS.call hb
      clear hb
      go_wp2_with (first
  | ((with_reducible first | refine to_load 3 rfl ?_ | refine to_load 25 rfl ?_); refine Wl_load1 hS (fun _ => by rfl) _ _ rfl (scT _ rfl) ?_; (repeat (first | refine Look.here (of_decide_eq_true rfl) rfl ?_)); (with_reducible show wpList _ _ _ _ _ _); simp only [nA]))
      go_returns
      exact ⟨rfl, hS.below⟩
    · have t2 : decide (d.left < -1000000) = false := decide_eq_false g2
      have hl : -9223372036854775807 ≤ d.left := by omega
      have hml : d.p.want.length ≤ maxLen := by simp only [maxLen]; omega
      have hn := fun W => dnext_any d hd A d.p.want.length c W
      have hm := fun W => rmnext_any d A d.p.want.length c W
      unfold M.dNextC at hn hm
      generalize M.dNextK d = nk at hn hm
      generalize M.dNextA d = na at hn hm
      generalize M.dNextD d = nv at hn hm
      generalize M.dNextT d = nt at hn hm
      have ht := fun W => dmtake_any d hd hl A d.p.want.length c b h0 h1 W
      have hu := fun W => rmtake_any d hd hl A d.p.want.length c b h0 h1 W
      have hp := M.dTake_p d b
      have hs := fun W g => dsame_any (M.dTake d b) A c A c (by rw [hp]; exact hml) W g g
      rw [hp] at hs
      generalize M.dTake d b = X at ht hu hs
      have hwa := fun W => dwants_any d A d.p.want.length c r W
      have hwb := fun W => rmwants_any d A d.p.want.length c r W
      generalize M.dWants d r = q1 at hwa hwb
      have hha := fun W => dholds_any d A d.p.want.length c r W
      have hhb := fun W => rmholds_any d A d.p.want.length c r W
      generalize M.dHolds d r = q2 at hha hhb
      have HN := Lib.hid hn
      have HM := Lib.hid hm
      have HT := Lib.hid ht
      have HU := Lib.hid hu
      have HS := Lib.hid hs
      have HWA := Lib.hid hwa
      have HWB := Lib.hid hwb
      have HHA := Lib.hid hha
      have HHB := Lib.hid hhb
      clear hn hm ht hu hp hs hwa hwb hha hhb r1 hd hl hml
      go_enter Try.func6, Try.ntmps6
      go_wp2_with (first
  | ((with_reducible refine to_boxT 29 rfl ?_); refine Wl_box hS (fun _ => by rfl) _ rfl ?_; clear hS; intro b2 wW hS; simp only [nA]))
      refine (dmawake_any _).mono ?_
      rintro e w1 ⟨rfl, hb⟩
      replace hS := hS.call hb
      clear hb
      go_wp2_with (first
  | ((with_reducible first | refine to_load 3 rfl ?_ | refine to_load 25 rfl ?_); refine Wl_load1 hS (fun _ => by rfl) _ _ rfl (scT _ rfl) ?_; (repeat (first | refine Look.here (of_decide_eq_true rfl) rfl ?_)); (with_reducible show wpList _ _ _ _ _ _); simp only [nA]))
      refine wp_region_held_drew (S := fun W => St w.heap.size 0 0 w [⟨b2, 0, true, d.c (.slice A d.p.want.length c)⟩] W) (by kernel_rfl) (hS.drew.sub (by repeat (first | exact List.nil_sublist _ | apply List.Sublist.cons_cons))) ?_
      intro _
      replace hS := hS.drew
      generalize World.drew _ = wX at hS ⊢
      first
        | refine wpAnyH_take (i := 0) rfl (by kernel_rfl) (by kernel_rfl) (by kernel_rfl) (fun _ _ _ h => h) (yields_row (by rfl) _ _ rfl _ _ rfl _ Try.underlying29 rfl _ (fun W hW => hW.range (.head _)) (dmI.trans rfl)) (hS.sub (by repeat (first | exact List.nil_sublist _ | apply List.Sublist.cons_cons))) ?_
        
      try simp only [nR]
      first
        | refine wpAnyH_take (i := 2) rfl (by kernel_rfl) (by kernel_rfl) (by kernel_rfl) (fun _ _ _ h => h) (yields_row (by rfl) _ _ rfl _ _ rfl _ Try.underlying29 rfl _ (fun W hW => hW.range (.head _)) (dmI.trans rfl)) (hS.sub (by repeat (first | exact List.nil_sublist _ | apply List.Sublist.cons_cons))) ?_
        
      try simp only [nR]
      refine wpAnyH_ready (rs := [1]) (by kernel_rfl) (by simp) (AllReadyH.cons rfl ?_ AllReadyH.nil)
      intro K1 hK1
      rw [if_pos (by rfl)]
      try simp only [nR]
      go_simp
      refine (HN.out _).mono ?_
      rintro e1 v2 ⟨rfl, hb⟩
      replace hS := hS.call hb
      clear hb
      refine hK1.out _ _ (hS.sub (by repeat (first | exact List.nil_sublist _ | apply List.Sublist.cons_cons))) (fun _ => ?_)
      clear hK1
      try simp only [nR]
      refine wpAnyH_ready (rs := [3]) (by kernel_rfl) (by simp) (AllReadyH.cons rfl ?_ AllReadyH.nil)
      intro K1 hK1
      rw [if_pos (by rfl)]
      try simp only [nR]
      go_simp
      refine (dplain_any d A _ c _).mono ?_
      rintro e1 v2 ⟨rfl, hb⟩
      replace hS := hS.call hb
      clear hb
      refine hK1.out _ _ (hS.sub (by repeat (first | exact List.nil_sublist _ | apply List.Sublist.cons_cons))) (fun _ => ?_)
      clear hK1
      try simp only [nR]
      refine wpAnyH_ready (rs := [4]) (by kernel_rfl) (by simp) (AllReadyH.cons rfl ?_ AllReadyH.nil)
      intro K1 hK1
      rw [if_pos (by rfl)]
      try simp only [nR]
      go_simp
      refine (HM.out _).mono ?_
      rintro e1 v2 ⟨rfl, hb⟩
      replace hS := hS.call hb
      clear hb
      refine hK1.out _ _ (hS.sub (by repeat (first | exact List.nil_sublist _ | apply List.Sublist.cons_cons))) (fun _ => ?_)
      clear hK1
      try simp only [nR]
      refine wpAnyH_take (i := 5) (v := ?_) rfl (by kernel_rfl) (by kernel_rfl) (by kernel_rfl) (fun _ _ _ h => h) (Or.inl ⟨by rfl, ?_⟩) (hS.sub (by repeat (first | exact List.nil_sublist _ | apply List.Sublist.cons_cons))) ?_
      rotate_left 1
      · intro W hW
        clear hW
        go_simp
        all_goals with_reducible rfl
      try simp only [nR]
      refine wpAnyH_take (i := 6) (v := ?_) rfl (by kernel_rfl) (by kernel_rfl) (by kernel_rfl) (fun _ _ _ h => h) (Or.inl ⟨by rfl, ?_⟩) (hS.sub (by repeat (first | exact List.nil_sublist _ | apply List.Sublist.cons_cons))) ?_
      rotate_left 1
      · intro W hW
        clear hW
        go_simp
        all_goals with_reducible rfl
      try simp only [nR]
      first
        | refine wpAnyH_take (i := 7) rfl (by kernel_rfl) (by kernel_rfl) (by kernel_rfl) (fun _ _ _ h => h) (yields_row (by rfl) _ _ rfl _ _ rfl _ Try.underlying29 rfl _ (fun W hW => hW.range (.head _)) (dmI.trans rfl)) (hS.sub (by repeat (first | exact List.nil_sublist _ | apply List.Sublist.cons_cons))) ?_
        
      try simp only [nR]
      refine wpAnyH_take (i := 8) (v := ?_) rfl (by kernel_rfl) (by kernel_rfl) (by kernel_rfl) (fun _ _ _ h => h) (Or.inl ⟨by rfl, ?_⟩) (hS.sub (by repeat (first | exact List.nil_sublist _ | apply List.Sublist.cons_cons))) ?_
      rotate_left 1
      · intro W hW
        clear hW
        go_simp
        all_goals with_reducible rfl
      try simp only [nR]
      first
        | refine wpAnyH_take (i := 11) rfl (by kernel_rfl) (by kernel_rfl) (by kernel_rfl) (fun _ _ _ h => h) (yields_row (by rfl) _ _ rfl _ _ rfl _ Try.underlying29 rfl _ (fun W hW => hW.range (.head _)) (dmI.trans rfl)) (hS.sub (by repeat (first | exact List.nil_sublist _ | apply List.Sublist.cons_cons))) ?_
        
      try simp only [nR]
      refine wpAnyH_take (i := 13) (v := ?_) rfl (by kernel_rfl) (by kernel_rfl) (by kernel_rfl) (fun _ _ _ h => h) (Or.inl ⟨by rfl, ?_⟩) (hS.sub (by repeat (first | exact List.nil_sublist _ | apply List.Sublist.cons_cons))) ?_
      rotate_left 1
      · intro W hW
        clear hW
        go_simp
        all_goals with_reducible rfl
      try simp only [nR]
      refine wpAnyH_ready (rs := [9]) (by kernel_rfl) (by simp) (AllReadyH.cons rfl ?_ AllReadyH.nil)
      intro K1 hK1
      rw [if_pos (by rfl)]
      try simp only [nR]
      go_simp
      refine (HT.out _).mono ?_
      rintro e1 v2 ⟨rfl, hb⟩
      replace hS := hS.call hb
      clear hb
      refine hK1.out _ _ (hS.sub (by repeat (first | exact List.nil_sublist _ | apply List.Sublist.cons_cons))) (fun _ => ?_)
      clear hK1
      try simp only [nR]
      refine wpAnyH_ready (rs := [10]) (by kernel_rfl) (by simp) (AllReadyH.cons rfl ?_ AllReadyH.nil)
      intro K1 hK1
      rw [if_pos (by rfl)]
      try simp only [nR]
      go_simp
      refine (dplain_any X A _ c _).mono ?_
      rintro e1 v2 ⟨rfl, hb⟩
      replace hS := hS.call hb
      clear hb
      refine hK1.out _ _ (hS.sub (by repeat (first | exact List.nil_sublist _ | apply List.Sublist.cons_cons))) (fun _ => ?_)
      clear hK1
      try simp only [nR]
      refine wpAnyH_ready (rs := [12]) (by kernel_rfl) (by simp) (AllReadyH.cons rfl ?_ AllReadyH.nil)
      intro K1 hK1
      rw [if_pos (by rfl)]
      try simp only [nR]
      go_simp
      refine (dplain_any d A _ c _).mono ?_
      rintro e1 v2 ⟨rfl, hb⟩
      replace hS := hS.call hb
      clear hb
      refine hK1.out _ _ (hS.sub (by repeat (first | exact List.nil_sublist _ | apply List.Sublist.cons_cons))) (fun _ => ?_)
      clear hK1
      try simp only [nR]
      refine wpAnyH_ready (rs := [14]) (by kernel_rfl) (by simp) (AllReadyH.cons rfl ?_ AllReadyH.nil)
      intro K1 hK1
      rw [if_pos (by rfl)]
      try simp only [nR]
      go_simp
      refine (HU.out _).mono ?_
      rintro e1 v2 ⟨rfl, hb⟩
      replace hS := hS.call hb
      clear hb
      refine hK1.out _ _ (hS.sub (by repeat (first | exact List.nil_sublist _ | apply List.Sublist.cons_cons))) (fun _ => ?_)
      clear hK1
      try simp only [nR]
      refine wpAnyH_ready (rs := [15]) (by kernel_rfl) (by simp) (AllReadyH.cons rfl ?_ AllReadyH.nil)
      intro K1 hK1
      rw [if_pos (by rfl)]
      try simp only [nR]
      go_simp
      refine (HS.out _ (hS.ls hsh (fun e he => by repeat (first | exact he | refine List.Mem.tail _ ?_)))).mono ?_
      rintro e1 v2 ⟨rfl, hb⟩
      replace hS := hS.call hb
      clear hb
      refine hK1.out _ _ (hS.sub (by repeat (first | exact List.nil_sublist _ | apply List.Sublist.cons_cons))) (fun _ => ?_)
      clear hK1
      try simp only [nR]
      refine wpAnyH_take (i := 16) (v := ?_) rfl (by kernel_rfl) (by kernel_rfl) (by kernel_rfl) (fun _ _ _ h => h) (Or.inl ⟨by rfl, ?_⟩) (hS.sub (by repeat (first | exact List.nil_sublist _ | apply List.Sublist.cons_cons))) ?_
      rotate_left 1
      · intro W hW
        clear hW
        go_simp
        all_goals with_reducible rfl
      try simp only [nR]
      refine wpAnyH_take (i := 17) (v := ?_) rfl (by kernel_rfl) (by kernel_rfl) (by kernel_rfl) (fun _ _ _ h => h) (Or.inl ⟨by rfl, ?_⟩) (hS.sub (by repeat (first | exact List.nil_sublist _ | apply List.Sublist.cons_cons))) ?_
      rotate_left 1
      · intro W hW
        clear hW
        go_simp
        all_goals with_reducible rfl
      try simp only [nR]
      first
        | refine wpAnyH_take (i := 18) rfl (by kernel_rfl) (by kernel_rfl) (by kernel_rfl) (fun _ _ _ h => h) (yields_row (by rfl) _ _ rfl _ _ rfl _ Try.underlying29 rfl _ (fun W hW => hW.range (.head _)) (dmI.trans rfl)) (hS.sub (by repeat (first | exact List.nil_sublist _ | apply List.Sublist.cons_cons))) ?_
        
      try simp only [nR]
      refine wpAnyH_take (i := 19) (v := ?_) rfl (by kernel_rfl) (by kernel_rfl) (by kernel_rfl) (fun _ _ _ h => h) (Or.inl ⟨by rfl, ?_⟩) (hS.sub (by repeat (first | exact List.nil_sublist _ | apply List.Sublist.cons_cons))) ?_
      rotate_left 1
      · intro W hW
        clear hW
        go_simp
        all_goals with_reducible rfl
      try simp only [nR]
      first
        | refine wpAnyH_take (i := 21) rfl (by kernel_rfl) (by kernel_rfl) (by kernel_rfl) (fun _ _ _ h => h) (yields_row (by rfl) _ _ rfl _ _ rfl _ Try.underlying29 rfl _ (fun W hW => hW.range (.head _)) (dmI.trans rfl)) (hS.sub (by repeat (first | exact List.nil_sublist _ | apply List.Sublist.cons_cons))) ?_
        
      try simp only [nR]
      refine wpAnyH_take (i := 23) (v := ?_) rfl (by kernel_rfl) (by kernel_rfl) (by kernel_rfl) (fun _ _ _ h => h) (Or.inl ⟨by rfl, ?_⟩) (hS.sub (by repeat (first | exact List.nil_sublist _ | apply List.Sublist.cons_cons))) ?_
      rotate_left 1
      · intro W hW
        clear hW
        go_simp
        all_goals with_reducible rfl
      try simp only [nR]
      refine wpAnyH_ready (rs := [20]) (by kernel_rfl) (by simp) (AllReadyH.cons rfl ?_ AllReadyH.nil)
      intro K1 hK1
      rw [if_pos (by rfl)]
      try simp only [nR]
      go_simp
      refine (HWA.out _).mono ?_
      rintro e1 v2 ⟨rfl, hb⟩
      replace hS := hS.call hb
      clear hb
      refine hK1.out _ _ (hS.sub (by repeat (first | exact List.nil_sublist _ | apply List.Sublist.cons_cons))) (fun _ => ?_)
      clear hK1
      try simp only [nR]
      refine wpAnyH_ready (rs := [22]) (by kernel_rfl) (by simp) (AllReadyH.cons rfl ?_ AllReadyH.nil)
      intro K1 hK1
      rw [if_pos (by rfl)]
      try simp only [nR]
      go_simp
      refine (dplain_any d A _ c _).mono ?_
      rintro e1 v2 ⟨rfl, hb⟩
      replace hS := hS.call hb
      clear hb
      refine hK1.out _ _ (hS.sub (by repeat (first | exact List.nil_sublist _ | apply List.Sublist.cons_cons))) (fun _ => ?_)
      clear hK1
      try simp only [nR]
      refine wpAnyH_ready (rs := [24]) (by kernel_rfl) (by simp) (AllReadyH.cons rfl ?_ AllReadyH.nil)
      intro K1 hK1
      rw [if_pos (by rfl)]
      try simp only [nR]
      go_simp
      refine (HWB.out _).mono ?_
      rintro e1 v2 ⟨rfl, hb⟩
      replace hS := hS.call hb
      clear hb
      refine hK1.out _ _ (hS.sub (by repeat (first | exact List.nil_sublist _ | apply List.Sublist.cons_cons))) (fun _ => ?_)
      clear hK1
      try simp only [nR]
      refine wpAnyH_take (i := 25) (v := ?_) rfl (by kernel_rfl) (by kernel_rfl) (by kernel_rfl) (fun _ _ _ h => h) (Or.inl ⟨by rfl, ?_⟩) (hS.sub (by repeat (first | exact List.nil_sublist _ | apply List.Sublist.cons_cons))) ?_
      rotate_left 1
      · intro W hW
        clear hW
        go_simp
        all_goals with_reducible rfl
      try simp only [nR]
      refine wpAnyH_take (i := 26) (v := ?_) rfl (by kernel_rfl) (by kernel_rfl) (by kernel_rfl) (fun _ _ _ h => h) (Or.inl ⟨by rfl, ?_⟩) (hS.sub (by repeat (first | exact List.nil_sublist _ | apply List.Sublist.cons_cons))) ?_
      rotate_left 1
      · intro W hW
        clear hW
        go_simp
        all_goals with_reducible rfl
      try simp only [nR]
      refine wpAnyH_take (i := 27) (v := ?_) rfl (by kernel_rfl) (by kernel_rfl) (by kernel_rfl) (fun _ _ _ h => h) (Or.inl ⟨by rfl, ?_⟩) (hS.sub (by repeat (first | exact List.nil_sublist _ | apply List.Sublist.cons_cons))) ?_
      rotate_left 1
      · intro W hW
        clear hW
        go_simp
        all_goals with_reducible rfl
      try simp only [nR]
      first
        | refine wpAnyH_take (i := 28) rfl (by kernel_rfl) (by kernel_rfl) (by kernel_rfl) (fun _ _ _ h => h) (yields_row (by rfl) _ _ rfl _ _ rfl _ Try.underlying29 rfl _ (fun W hW => hW.range (.head _)) (dmI.trans rfl)) (hS.sub (by repeat (first | exact List.nil_sublist _ | apply List.Sublist.cons_cons))) ?_
        
      try simp only [nR]
      refine wpAnyH_take (i := 29) (v := ?_) rfl (by kernel_rfl) (by kernel_rfl) (by kernel_rfl) (fun _ _ _ h => h) (Or.inl ⟨by rfl, ?_⟩) (hS.sub (by repeat (first | exact List.nil_sublist _ | apply List.Sublist.cons_cons))) ?_
      rotate_left 1
      · intro W hW
        clear hW
        go_simp
        all_goals with_reducible rfl
      try simp only [nR]
      first
        | refine wpAnyH_take (i := 31) rfl (by kernel_rfl) (by kernel_rfl) (by kernel_rfl) (fun _ _ _ h => h) (yields_row (by rfl) _ _ rfl _ _ rfl _ Try.underlying29 rfl _ (fun W hW => hW.range (.head _)) (dmI.trans rfl)) (hS.sub (by repeat (first | exact List.nil_sublist _ | apply List.Sublist.cons_cons))) ?_
        
      try simp only [nR]
      refine wpAnyH_take (i := 33) (v := ?_) rfl (by kernel_rfl) (by kernel_rfl) (by kernel_rfl) (fun _ _ _ h => h) (Or.inl ⟨by rfl, ?_⟩) (hS.sub (by repeat (first | exact List.nil_sublist _ | apply List.Sublist.cons_cons))) ?_
      rotate_left 1
      · intro W hW
        clear hW
        go_simp
        all_goals with_reducible rfl
      try simp only [nR]
      refine wpAnyH_ready (rs := [30]) (by kernel_rfl) (by simp) (AllReadyH.cons rfl ?_ AllReadyH.nil)
      intro K1 hK1
      rw [if_pos (by rfl)]
      try simp only [nR]
      go_simp
      refine (HHA.out _).mono ?_
      rintro e1 v2 ⟨rfl, hb⟩
      replace hS := hS.call hb
      clear hb
      refine hK1.out _ _ (hS.sub (by repeat (first | exact List.nil_sublist _ | apply List.Sublist.cons_cons))) (fun _ => ?_)
      clear hK1
      try simp only [nR]
      refine wpAnyH_ready (rs := [32]) (by kernel_rfl) (by simp) (AllReadyH.cons rfl ?_ AllReadyH.nil)
      intro K1 hK1
      rw [if_pos (by rfl)]
      try simp only [nR]
      go_simp
      refine (dplain_any d A _ c _).mono ?_
      rintro e1 v2 ⟨rfl, hb⟩
      replace hS := hS.call hb
      clear hb
      refine hK1.out _ _ (hS.sub (by repeat (first | exact List.nil_sublist _ | apply List.Sublist.cons_cons))) (fun _ => ?_)
      clear hK1
      try simp only [nR]
      refine wpAnyH_ready (rs := [34]) (by kernel_rfl) (by simp) (AllReadyH.cons rfl ?_ AllReadyH.nil)
      intro K1 hK1
      rw [if_pos (by rfl)]
      try simp only [nR]
      go_simp
      refine (HHB.out _).mono ?_
      rintro e1 v2 ⟨rfl, hb⟩
      replace hS := hS.call hb
      clear hb
      refine hK1.out _ _ (hS.sub (by repeat (first | exact List.nil_sublist _ | apply List.Sublist.cons_cons))) (fun _ => ?_)
      clear hK1
      try simp only [nR]
      refine wpAnyH_take (i := 35) (v := ?_) rfl (by kernel_rfl) (by kernel_rfl) (by kernel_rfl) (fun _ _ _ h => h) (Or.inl ⟨by rfl, ?_⟩) (hS.sub (by repeat (first | exact List.nil_sublist _ | apply List.Sublist.cons_cons))) ?_
      rotate_left 1
      · intro W hW
        clear hW
        go_simp
        all_goals with_reducible rfl
      try simp only [nR]
      refine wpAnyH_take (i := 36) (v := ?_) rfl (by kernel_rfl) (by kernel_rfl) (by kernel_rfl) (fun _ _ _ h => h) (Or.inl ⟨by rfl, ?_⟩) (hS.sub (by repeat (first | exact List.nil_sublist _ | apply List.Sublist.cons_cons))) ?_
      rotate_left 1
      · intro W hW
        clear hW
        go_simp
        all_goals with_reducible rfl
      try simp only [nR]
      refine wpAnyH_take (i := 37) (v := ?_) rfl (by kernel_rfl) (by kernel_rfl) (by kernel_rfl) (fun _ _ _ h => h) (Or.inl ⟨by rfl, ?_⟩) (hS.sub (by repeat (first | exact List.nil_sublist _ | apply List.Sublist.cons_cons))) ?_
      rotate_left 1
      · intro W hW
        clear hW
        go_simp
        all_goals with_reducible rfl
      try simp only [nR]
      refine wpAnyH_done (by kernel_rfl) ?_ _
      go_wp2_with fail
      go_returns
      exact ⟨rfl, hS.below⟩
end Go.Proofs.Ytkkkjdbcckaedaa
