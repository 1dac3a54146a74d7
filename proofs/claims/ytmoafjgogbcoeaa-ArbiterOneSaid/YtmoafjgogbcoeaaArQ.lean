/- The reference's Play, by its contract. -/
import Derived.Test.YtmoafjgogbcoeaaArPl
namespace Go.Proofs.Ytmoafjgogbcoeaa
open Go.RowKit
set_option linter.unusedVariables false
set_option linter.unusedSimpArgs false
set_option maxRecDepth 100000
theorem src_oneI {P : Program} (W : World) (x : Int) (t tx e' : TypeId) (hk : P.underlying tx = some (.slice e')) : Src P 1 tx (.slice (some ⟨W.heap.size, 0, none⟩) 1 1) 1 (ints .i64 [x]) (W.alloc (.cells #[.int .i64 x] t)) :=
  Src.ofSlice _ hk _ _ _ _ rfl (fun j u hu => by rw [Addr.add_lit]; exact range_new W #[.int .i64 x] t j u hu) (fun u hu => by obtain ⟨y, _, rfl⟩ := List.mem_map.1 hu; rfl)
set_option maxHeartbeats 4000000 in
theorem rplay_any (m o : Int) (hm : -9223372036854775808 ≤ m ∧ m ≤ 9223372036854775807) (LL : List (List Bool)) (B : List Bool) (A1 : Option Addr) (n1 c1 : Nat) (A2 : Option Addr) (c2 : Nat) (hB : B.length ≤ 10000) (w : World) (ra : N2 w A1 n1 c1 LL) (rm : Ls 0 w (.slice A2 B.length c2) (bls B)) :
    Calls Try.prog 26 #[stV m o, .slice A1 n1 c1, .slice A2 B.length c2] w fun e w' => ∃ A c, e = .returned (.slice A B.length c) ∧ Ls w.heap.size w' (.slice A B.length c) (ints .i64 (M.arOs m o LL B B.length)) ∧ Below w.heap.size w w' := by
  obtain ⟨i0, hi0, hz0, hz1, hz2⟩ := info_get infoI
  have hS := St.start w.heap.size 0 0 w
  have HA := Lib.hid ra
  have HM := Lib.hid (fun k (hk : k < B.length) => arBx rm hk)
  unfold stV
  clear ra rm
  go_enter Try.func26, Try.ntmps26
  go_wp2_with (first | ((with_reducible refine to_boxT 28 rfl ?_); refine Wl_box hS (fun _ => by rfl) _ rfl ?_; clear hS; intro b1 wW hS; simp only [Act.put, List.setIfInBounds_toArray, List.set_cons_zero, List.set_cons_succ]) | ((with_reducible first | refine to_load 3 rfl ?_ | refine to_load 4 rfl ?_ | refine to_load 24 rfl ?_); refine Wl_load1 hS (fun _ => by rfl) _ _ rfl (scT _ rfl) ?_; (repeat (first | refine Look.here (of_decide_eq_true rfl) rfl ?_ | refine Look.self rfl ?_ | refine Look.next ?_)); (with_reducible show wpList _ _ _ _ _ _); simp only [Act.put, List.setIfInBounds_toArray, List.set_cons_zero, List.set_cons_succ]))
  have HS0 := Lib.hid hS
  clear hS
  go_loopw [7, 8] (fun l i wr => ∃ (j : Nat) (E : List Ent), i = .int .i64 j ∧ j ≤ B.length ∧ Own l (ints .i64 (M.arOs m o LL B j)) E ∧ St w.heap.size 0 0 w (⟨b1, 0, true, #[.int .i64 m, .int .i64 (M.arO m o LL B j)]⟩ :: E) wr) (fun _ i _ => B.length - (intOf i).toNat)
  case atStart => exact ⟨0, [], rfl, Nat.zero_le _, Own.none, HS0.out⟩
  case round =>
    clear HS0
    obtain ⟨j, E, rfl, hj, hO, hS⟩ := hrel
    by_cases k1 : j < B.length
    · have k1' : (j : Int) < (B.length : Int) := by omega
      have k0' : (0 : Int) ≤ (j : Int) := by omega
      have HL := Lib.hid (show (M.arOs m o LL B j).length = j ∧ j ≤ 10000 from ⟨M.arOs_len _ _ _ _ _, by omega⟩)
      have HE := Lib.hid (M.arOs_succ m o LL B j)
      obtain ⟨x1, q1, rfl, hkc, hcell⟩ := HM.out j k1
      have hT : ∀ W A' c', Ls 0 W (.slice A' (LL.getD j []).length c') (bls (LL.getD j [])) → Calls Try.prog 22 #[.agg #[.int .i64 m, .int .i64 (M.arO m o LL B j)], .slice A' (LL.getD j []).length c', .bool (B.getD j false)] W fun e w' => e = .returned (.agg #[.int .i64 m, .int .i64 (M.arO m o LL B (j + 1))]) ∧ Below W.heap.size W w' :=
        fun W A' c' hl => rarTick_any m (M.arO m o LL B j) hm (LL.getD j []) (arLen hl) A' c' _ W hl
      by_cases k2 : j < n1
      · have k2' : (j : Int) < (n1 : Int) := by omega
        obtain ⟨x3, q3, A3, c3, rfl, hkc3, hcell3, hl⟩ := HA.out.at_ k2
        generalize LL.getD j [] = a at hT hl hcell3
        generalize B.getD j false = bv at hT hcell
        have hl1 : ∀ W, Below w.heap.size w W → Ls 0 W (.slice A3 a.length c3) (bls a) := fun W hb => hl.below hb
        have HT := Lib.hid (fun W hb => hT W A3 c3 (hl1 W hb))
        have HO := Lib.hid hO
        clear hT hl hl1
        generalize hs0 : M.arO m o LL B j = s0 at hS HT
        generalize hs1 : M.arO m o LL B (j + 1) = s1 at HT HE
        have HQ := Lib.hid hs1
        clear hs0 hs1
        replace hS := (hS.oneB hcell).oneB hcell3
        clear hcell hcell3
        go_wp2_with (first | ((with_reducible first | refine to_load 3 rfl ?_ | refine to_load 4 rfl ?_ | refine to_load 24 rfl ?_); refine Wl_load1 hS (fun _ => by rfl) _ _ rfl (scT _ rfl) ?_; (repeat (first | refine Look.here (of_decide_eq_true rfl) rfl ?_ | refine Look.self rfl ?_ | refine Look.next ?_)); (with_reducible show wpList _ _ _ _ _ _); simp only [Act.put, List.setIfInBounds_toArray, List.set_cons_zero, List.set_cons_succ]))
        replace hS := hS.rest
        refine wp_region_held_drew (S := fun W => St w.heap.size 0 0 w [⟨x1, q1 + j, false, #[.bool bv]⟩] W) (by kernel_rfl) (hS.drew.sub (by repeat (first | exact List.Sublist.refl _ | exact List.nil_sublist _ | apply List.Sublist.cons_cons | apply List.Sublist.cons))) ?_
        intro _
        replace hS := hS.drew
        generalize World.drew _ = wX at hS ⊢
        refine wpAnyH_take (i := 1) (v := ?_) rfl (by kernel_rfl) (by kernel_rfl) (by kernel_rfl) (fun _ _ _ h => h) (Or.inl ⟨by rfl, ?_⟩) (hS.sub (by repeat (first | exact List.Sublist.refl _ | exact List.nil_sublist _ | apply List.Sublist.cons_cons | apply List.Sublist.cons))) ?_
        rotate_left 1
        · intro W hW
          clear hW
          go_simp
          all_goals with_reducible rfl
        try simp only [Act.put, List.setIfInBounds_toArray, List.set_cons_zero, List.set_cons_succ, List.getElem_toArray, List.getElem_cons_succ, List.getElem_cons_zero]
        refine wpAnyH_take (i := 2) (v := ?_) rfl (by kernel_rfl) (by kernel_rfl) (by kernel_rfl) (fun _ _ _ h => h) (Or.inl ⟨by rfl, ?_⟩) (hS.sub (by repeat (first | exact List.Sublist.refl _ | exact List.nil_sublist _ | apply List.Sublist.cons_cons | apply List.Sublist.cons))) ?_
        rotate_left 1
        · intro W hW
          clear hW
          go_simp
          all_goals with_reducible rfl
        try simp only [Act.put, List.setIfInBounds_toArray, List.set_cons_zero, List.set_cons_succ, List.getElem_toArray, List.getElem_cons_succ, List.getElem_cons_zero]
        refine wpAnyH_take (i := 3) (v := ?_) rfl (by kernel_rfl) (by kernel_rfl) (by kernel_rfl) (fun _ _ _ h => h) (Or.inl ⟨by rfl, ?_⟩) (hS.sub (by repeat (first | exact List.Sublist.refl _ | exact List.nil_sublist _ | apply List.Sublist.cons_cons | apply List.Sublist.cons))) ?_
        rotate_left 1
        · intro W hW
          clear hW
          go_simp
          all_goals with_reducible rfl
        try simp only [Act.put, List.setIfInBounds_toArray, List.set_cons_zero, List.set_cons_succ, List.getElem_toArray, List.getElem_cons_succ, List.getElem_cons_zero]
        refine wpAnyH_take (i := 4) (v := ?_) rfl (by kernel_rfl) (by kernel_rfl) (by kernel_rfl) (fun _ _ _ h => h) (Or.inl ⟨by rfl, ?_⟩) (hS.sub (by repeat (first | exact List.Sublist.refl _ | exact List.nil_sublist _ | apply List.Sublist.cons_cons | apply List.Sublist.cons))) ?_
        rotate_left 1
        · intro W hW
          clear hW
          go_simp
          all_goals with_reducible rfl
        try simp only [Act.put, List.setIfInBounds_toArray, List.set_cons_zero, List.set_cons_succ, List.getElem_toArray, List.getElem_cons_succ, List.getElem_cons_zero]
        refine wpAnyH_take (i := 5) rfl (by kernel_rfl) (by kernel_rfl) (by kernel_rfl) (fun _ _ _ h => h) (yields_one (by rfl) _ _ rfl _ _ rfl sc4 _ (fun W hW => hW.cell (j := 0) (.head _) rfl)) (hS.sub (by repeat (first | exact List.Sublist.refl _ | exact List.nil_sublist _ | apply List.Sublist.cons_cons | apply List.Sublist.cons))) ?_
        try simp only [Act.put, List.setIfInBounds_toArray, List.set_cons_zero, List.set_cons_succ, List.getElem_toArray, List.getElem_cons_succ, List.getElem_cons_zero]
        refine wpAnyH_ready (rs := [0]) (by kernel_rfl) (by simp) (AllReadyH.cons rfl ?_ AllReadyH.nil)
        intro K1 hK1
        rw [if_pos (by rfl)]
        try simp only [Act.put, List.setIfInBounds_toArray, List.set_cons_zero, List.set_cons_succ, List.getElem_toArray, List.getElem_cons_succ, List.getElem_cons_zero]
        refine wp_load_st hS _ _ rfl _ _ rfl _ Try.underlying28 rfl ?_
        repeat (first | (refine Row.here ⟨rarI.trans rfl, ?_⟩) | refine Row.next ?_)
        refine hK1.out _ _ (hS.sub (by repeat (first | exact List.Sublist.refl _ | exact List.nil_sublist _ | apply List.Sublist.cons_cons | apply List.Sublist.cons))) (fun _ => ?_)
        clear hK1
        try simp only [Act.put, List.setIfInBounds_toArray, List.set_cons_zero, List.set_cons_succ, List.getElem_toArray, List.getElem_cons_succ, List.getElem_cons_zero]
        refine wpAnyH_ready (rs := [6]) (by kernel_rfl) (by simp) (AllReadyH.cons rfl ?_ AllReadyH.nil)
        intro K1 hK1
        rw [if_pos (by rfl)]
        try simp only [Act.put, List.setIfInBounds_toArray, List.set_cons_zero, List.set_cons_succ, List.getElem_toArray, List.getElem_cons_succ, List.getElem_cons_zero]
        go_simp
        refine (HT.out _ hS.below).mono ?_
        rintro e1 v2 ⟨rfl, hb⟩
        replace hS := hS.call hb
        clear hb
        refine hK1.out _ _ (hS.sub (by repeat (first | exact List.Sublist.refl _ | exact List.nil_sublist _ | apply List.Sublist.cons_cons | apply List.Sublist.cons))) (fun _ => ?_)
        clear hK1
        try simp only [Act.put, List.setIfInBounds_toArray, List.set_cons_zero, List.set_cons_succ, List.getElem_toArray, List.getElem_cons_succ, List.getElem_cons_zero]
        refine wpAnyH_ready (rs := [7]) (by kernel_rfl) (by simp) (AllReadyH.cons rfl ?_ AllReadyH.nil)
        intro K1 hK1
        rw [if_pos (by rfl)]
        try simp only [Act.put, List.setIfInBounds_toArray, List.set_cons_zero, List.set_cons_succ, List.getElem_toArray, List.getElem_cons_succ, List.getElem_cons_zero]
        refine wp_store_st hS _ _ _ rfl _ _ _ rfl rfl (rarI.trans rfl) (st_one _ _) ?_
        repeat (first | refine Turn.here rfl ?_ | refine Turn.next ?_)
        clear hS
        intro wW hS
        refine hK1.out _ _ (hS.sub (by repeat (first | exact List.Sublist.refl _ | exact List.nil_sublist _ | apply List.Sublist.cons_cons | apply List.Sublist.cons))) (fun _ => ?_)
        clear hK1
        try simp only [Act.put, List.setIfInBounds_toArray, List.set_cons_zero, List.set_cons_succ, List.getElem_toArray, List.getElem_cons_succ, List.getElem_cons_zero]
        refine wpAnyH_done (by kernel_rfl) ?_ _
        replace hS := hS.rest
        have hO := HO.out
        go_wp2_with (first | ((with_reducible first | refine to_load 3 rfl ?_ | refine to_load 4 rfl ?_ | refine to_load 24 rfl ?_); refine Wl_load1 hS (fun _ => by rfl) _ _ rfl (scT _ rfl) ?_; (repeat (first | refine Look.here (of_decide_eq_true rfl) rfl ?_ | refine Look.self rfl ?_ | refine Look.next ?_)); (with_reducible show wpList _ _ _ _ _ _); simp only [Act.put, List.setIfInBounds_toArray, List.set_cons_zero, List.set_cons_succ]) | ((with_reducible refine to_app ?_); refine Wl_app (es := [_, _]) (hS.new _ _) hO 3 i0 (.int .i64 0) 8 Try.underlying37 hi0 hz0 hz1 hz2 rfl rfl 1 (ints .i64 [s1]) (src_oneI _ _ _ _ _ Try.underlying37) (by have := HL.out; simp [maxLen, ints]; omega) (by have := HL.out; simp [ints]; omega) ?_; intro v2 E2 w2 hO2 hS2))
        go_round
        case rel => exact ⟨j + 1, E2, by simp, by omega, by rw [HE.out, ints_append]; exact hO2, by rw [HQ.out]; exact hS2.sub (List.sublist_cons_self _ _)⟩
        case measure => simp [intOf]; omega
      · have k2' : ¬ ((j : Int) < (n1 : Int)) := by omega
        have hl : ∀ W, Ls 0 W (.slice none (LL.getD j []).length 0) (bls (LL.getD j [])) := fun W => by rw [HA.out.out k2]; exact Ls.nil _ _ _ _ (Nat.zero_le _)
        have hlen : (LL.getD j []).length = 0 := by rw [HA.out.out k2]; rfl
        generalize B.getD j false = bv at hT hcell
        have hT1 := fun W (hb : Below w.heap.size w W) => hT W none 0 (hl W)
        rw [hlen] at hT1
        have HT := Lib.hid hT1
        have HO := Lib.hid hO
        clear hT hT1 hl hlen
        generalize hs0 : M.arO m o LL B j = s0 at hS HT
        generalize hs1 : M.arO m o LL B (j + 1) = s1 at HT HE
        have HQ := Lib.hid hs1
        clear hs0 hs1
        replace hS := hS.oneB hcell
        clear hcell
        go_wp2_with (first | ((with_reducible first | refine to_load 3 rfl ?_ | refine to_load 4 rfl ?_ | refine to_load 24 rfl ?_); refine Wl_load1 hS (fun _ => by rfl) _ _ rfl (scT _ rfl) ?_; (repeat (first | refine Look.here (of_decide_eq_true rfl) rfl ?_ | refine Look.self rfl ?_ | refine Look.next ?_)); (with_reducible show wpList _ _ _ _ _ _); simp only [Act.put, List.setIfInBounds_toArray, List.set_cons_zero, List.set_cons_succ]))
        refine wp_region_held_drew (S := fun W => St w.heap.size 0 0 w [⟨x1, q1 + j, false, #[.bool bv]⟩] W) (by kernel_rfl) (hS.drew.sub (by repeat (first | exact List.Sublist.refl _ | exact List.nil_sublist _ | apply List.Sublist.cons_cons | apply List.Sublist.cons))) ?_
        intro _
        replace hS := hS.drew
        generalize World.drew _ = wX at hS ⊢
        refine wpAnyH_take (i := 1) (v := ?_) rfl (by kernel_rfl) (by kernel_rfl) (by kernel_rfl) (fun _ _ _ h => h) (Or.inl ⟨by rfl, ?_⟩) (hS.sub (by repeat (first | exact List.Sublist.refl _ | exact List.nil_sublist _ | apply List.Sublist.cons_cons | apply List.Sublist.cons))) ?_
        rotate_left 1
        · intro W hW
          clear hW
          go_simp
          all_goals with_reducible rfl
        try simp only [Act.put, List.setIfInBounds_toArray, List.set_cons_zero, List.set_cons_succ, List.getElem_toArray, List.getElem_cons_succ, List.getElem_cons_zero]
        refine wpAnyH_take (i := 2) (v := ?_) rfl (by kernel_rfl) (by kernel_rfl) (by kernel_rfl) (fun _ _ _ h => h) (Or.inl ⟨by rfl, ?_⟩) (hS.sub (by repeat (first | exact List.Sublist.refl _ | exact List.nil_sublist _ | apply List.Sublist.cons_cons | apply List.Sublist.cons))) ?_
        rotate_left 1
        · intro W hW
          clear hW
          go_simp
          all_goals with_reducible rfl
        try simp only [Act.put, List.setIfInBounds_toArray, List.set_cons_zero, List.set_cons_succ, List.getElem_toArray, List.getElem_cons_succ, List.getElem_cons_zero]
        refine wpAnyH_take (i := 3) (v := ?_) rfl (by kernel_rfl) (by kernel_rfl) (by kernel_rfl) (fun _ _ _ h => h) (Or.inl ⟨by rfl, ?_⟩) (hS.sub (by repeat (first | exact List.Sublist.refl _ | exact List.nil_sublist _ | apply List.Sublist.cons_cons | apply List.Sublist.cons))) ?_
        rotate_left 1
        · intro W hW
          clear hW
          go_simp
          all_goals with_reducible rfl
        try simp only [Act.put, List.setIfInBounds_toArray, List.set_cons_zero, List.set_cons_succ, List.getElem_toArray, List.getElem_cons_succ, List.getElem_cons_zero]
        refine wpAnyH_take (i := 4) (v := ?_) rfl (by kernel_rfl) (by kernel_rfl) (by kernel_rfl) (fun _ _ _ h => h) (Or.inl ⟨by rfl, ?_⟩) (hS.sub (by repeat (first | exact List.Sublist.refl _ | exact List.nil_sublist _ | apply List.Sublist.cons_cons | apply List.Sublist.cons))) ?_
        rotate_left 1
        · intro W hW
          clear hW
          go_simp
          all_goals with_reducible rfl
        try simp only [Act.put, List.setIfInBounds_toArray, List.set_cons_zero, List.set_cons_succ, List.getElem_toArray, List.getElem_cons_succ, List.getElem_cons_zero]
        refine wpAnyH_take (i := 5) rfl (by kernel_rfl) (by kernel_rfl) (by kernel_rfl) (fun _ _ _ h => h) (yields_one (by rfl) _ _ rfl _ _ rfl sc4 _ (fun W hW => hW.cell (j := 0) (.head _) rfl)) (hS.sub (by repeat (first | exact List.Sublist.refl _ | exact List.nil_sublist _ | apply List.Sublist.cons_cons | apply List.Sublist.cons))) ?_
        try simp only [Act.put, List.setIfInBounds_toArray, List.set_cons_zero, List.set_cons_succ, List.getElem_toArray, List.getElem_cons_succ, List.getElem_cons_zero]
        refine wpAnyH_ready (rs := [0]) (by kernel_rfl) (by simp) (AllReadyH.cons rfl ?_ AllReadyH.nil)
        intro K1 hK1
        rw [if_pos (by rfl)]
        try simp only [Act.put, List.setIfInBounds_toArray, List.set_cons_zero, List.set_cons_succ, List.getElem_toArray, List.getElem_cons_succ, List.getElem_cons_zero]
        refine wp_load_st hS _ _ rfl _ _ rfl _ Try.underlying28 rfl ?_
        repeat (first | (refine Row.here ⟨rarI.trans rfl, ?_⟩) | refine Row.next ?_)
        refine hK1.out _ _ (hS.sub (by repeat (first | exact List.Sublist.refl _ | exact List.nil_sublist _ | apply List.Sublist.cons_cons | apply List.Sublist.cons))) (fun _ => ?_)
        clear hK1
        try simp only [Act.put, List.setIfInBounds_toArray, List.set_cons_zero, List.set_cons_succ, List.getElem_toArray, List.getElem_cons_succ, List.getElem_cons_zero]
        refine wpAnyH_ready (rs := [6]) (by kernel_rfl) (by simp) (AllReadyH.cons rfl ?_ AllReadyH.nil)
        intro K1 hK1
        rw [if_pos (by rfl)]
        try simp only [Act.put, List.setIfInBounds_toArray, List.set_cons_zero, List.set_cons_succ, List.getElem_toArray, List.getElem_cons_succ, List.getElem_cons_zero]
        go_simp
        refine (HT.out _ hS.below).mono ?_
        rintro e1 v2 ⟨rfl, hb⟩
        replace hS := hS.call hb
        clear hb
        refine hK1.out _ _ (hS.sub (by repeat (first | exact List.Sublist.refl _ | exact List.nil_sublist _ | apply List.Sublist.cons_cons | apply List.Sublist.cons))) (fun _ => ?_)
        clear hK1
        try simp only [Act.put, List.setIfInBounds_toArray, List.set_cons_zero, List.set_cons_succ, List.getElem_toArray, List.getElem_cons_succ, List.getElem_cons_zero]
        refine wpAnyH_ready (rs := [7]) (by kernel_rfl) (by simp) (AllReadyH.cons rfl ?_ AllReadyH.nil)
        intro K1 hK1
        rw [if_pos (by rfl)]
        try simp only [Act.put, List.setIfInBounds_toArray, List.set_cons_zero, List.set_cons_succ, List.getElem_toArray, List.getElem_cons_succ, List.getElem_cons_zero]
        refine wp_store_st hS _ _ _ rfl _ _ _ rfl rfl (rarI.trans rfl) (st_one _ _) ?_
        repeat (first | refine Turn.here rfl ?_ | refine Turn.next ?_)
        clear hS
        intro wW hS
        refine hK1.out _ _ (hS.sub (by repeat (first | exact List.Sublist.refl _ | exact List.nil_sublist _ | apply List.Sublist.cons_cons | apply List.Sublist.cons))) (fun _ => ?_)
        clear hK1
        try simp only [Act.put, List.setIfInBounds_toArray, List.set_cons_zero, List.set_cons_succ, List.getElem_toArray, List.getElem_cons_succ, List.getElem_cons_zero]
        refine wpAnyH_done (by kernel_rfl) ?_ _
        replace hS := hS.rest
        have hO := HO.out
        go_wp2_with (first | ((with_reducible first | refine to_load 3 rfl ?_ | refine to_load 4 rfl ?_ | refine to_load 24 rfl ?_); refine Wl_load1 hS (fun _ => by rfl) _ _ rfl (scT _ rfl) ?_; (repeat (first | refine Look.here (of_decide_eq_true rfl) rfl ?_ | refine Look.self rfl ?_ | refine Look.next ?_)); (with_reducible show wpList _ _ _ _ _ _); simp only [Act.put, List.setIfInBounds_toArray, List.set_cons_zero, List.set_cons_succ]) | ((with_reducible refine to_app ?_); refine Wl_app (es := [_, _]) (hS.new _ _) hO 3 i0 (.int .i64 0) 8 Try.underlying37 hi0 hz0 hz1 hz2 rfl rfl 1 (ints .i64 [s1]) (src_oneI _ _ _ _ _ Try.underlying37) (by have := HL.out; simp [maxLen, ints]; omega) (by have := HL.out; simp [ints]; omega) ?_; intro v2 E2 w2 hO2 hS2))
        go_round
        case rel => exact ⟨j + 1, E2, by simp, by omega, by rw [HE.out, ints_append]; exact hO2, by rw [HQ.out]; exact hS2.sub (List.sublist_cons_self _ _)⟩
        case measure => simp [intOf]; omega
    · have k1' : ¬ ((j : Int) < (B.length : Int)) := by omega
      obtain rfl : j = B.length := by omega
      obtain ⟨A, c, rfl⟩ := hO.len
      have hl : (ints .i64 (M.arOs m o LL B B.length)).length = B.length := by simp [ints, M.arOs_len]
      have HF := Lib.hid hl
      clear hl
      go_wp2_with (first | ((with_reducible first | refine to_load 3 rfl ?_ | refine to_load 4 rfl ?_ | refine to_load 24 rfl ?_); refine Wl_load1 hS (fun _ => by rfl) _ _ rfl (scT _ rfl) ?_; (repeat (first | refine Look.here (of_decide_eq_true rfl) rfl ?_ | refine Look.self rfl ?_ | refine Look.next ?_)); (with_reducible show wpList _ _ _ _ _ _); simp only [Act.put, List.setIfInBounds_toArray, List.set_cons_zero, List.set_cons_succ]))
      go_returns
      have hr := hO.res (es := [_]) hS
      rw [HF.out] at hr
      exact ⟨A, c, congrArg (fun n => Ending.returned (.slice A n c)) HF.out, hr, hS.below⟩
end Go.Proofs.Ytmoafjgogbcoeaa
