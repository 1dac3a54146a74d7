/- ArbiterOne answers true, by the walk of its function. -/
import Derived.Test.YtmoafjgogbcoeaaArOM
import Derived.Deep.DeepCutAuto
import Derived.Deep.CutBlock
import Derived.Deep.LoopGhost
namespace Go.Proofs.Ytmoafjgogbcoeaa
open Go.RowKit
set_option linter.unusedVariables false
set_option linter.unusedSimpArgs false
set_option maxRecDepth 100000
set_option maxHeartbeats 8000000 in
theorem one_true (many : Int) (hm : -9223372036854775808 ≤ many ∧ many ≤ 9223372036854775807) (A : Option Addr) (n c : Nat) (LL : List (List Bool)) (A2 : Option Addr) (n2 c2 : Nat) (B : List Bool) (hn : B.length = n2) (w : World) (ra : N2 w A n c LL) (rm : Ls 0 w (.slice A2 n2 c2) (bls B)) :
    Calls Try.prog 5 #[.int .i64 many, .slice A n c, .slice A2 n2 c2] w fun e w' => e = .returned (.bool true) ∧ Below w.heap.size w w' := by
  subst hn
  have hA := ra.max
  have hL : B.length ≤ maxLen := arLen rm
  have hN := M.arN_one many
  have c1 := fun W => arNew_any many hm W
  unfold stV at c1
  have hN64 := M.arN_in many
  generalize M.arN many = N at c1 hN hN64
  have C1 := Lib.hid c1
  have HA := Lib.hid ra
  have HM := Lib.hid (fun k (hk : k < B.length) => arBx rm hk)
  clear c1 ra rm
  have hS := St.start w.heap.size 0 0 w
  by_cases k1 : n ≤ 100
  · have k1' : ¬ ((100 : Int) < (n : Int)) := by omega
    by_cases k2 : B.length ≤ 100
    · have k2' : ¬ ((100 : Int) < (B.length : Int)) := by omega
      go_enter Try.func5, Try.ntmps5
      go_wp2_with fail
      refine (awake27_any _).mono ?_
      rintro e w1 ⟨rfl, hb⟩
      replace hS := hS.call hb
      clear hb
      go_wp2_with fail
      refine (C1.out _).mono ?_
      rintro e w1 ⟨rfl, hb⟩
      replace hS := hS.call hb
      clear hb
      generalize hO : N - 1 = O0 at *
      have HO := Lib.hid hO
      clear hO
      go_wp2_with (first
  | ((with_reducible refine to_alloc 23 rfl ?_); refine Wl_alloc hS (fun _ => by rfl) _ arZ ?_; clear hS; intro bs wW hS; simp only [Act.put, List.setIfInBounds_toArray, List.set_cons_zero, List.set_cons_succ])
  | ((with_reducible refine to_load 23 rfl ?_); refine Wl_load hS (fun _ => by rfl) _ _ rfl _ Try.underlying23 rfl ?_; (repeat (first | (refine Row.here ⟨arI.trans rfl, ?_⟩) | refine Row.next ?_)); (with_reducible show wpList _ _ _ _ _ _); simp only [Act.put, List.setIfInBounds_toArray, List.set_cons_zero, List.set_cons_succ])
  | ((with_reducible refine to_store 23 rfl ?_); refine Wl_store hS (fun _ => by rfl) _ _ _ rfl rfl (arI.trans rfl) (st_one _ _) ?_; (repeat (first | refine Turn.here rfl ?_ | refine Turn.next ?_)); clear hS; intro wW hS; try simp only [Act.put, List.setIfInBounds_toArray, List.set_cons_zero, List.set_cons_succ])
  | ((with_reducible first | refine to_load 3 rfl ?_ | refine to_load 4 rfl ?_ | refine to_load 24 rfl ?_); refine Wl_load1 hS (fun _ => by rfl) _ _ rfl (scT _ rfl) ?_; (repeat (first | refine Look.here (of_decide_eq_true rfl) rfl ?_ | refine Look.self rfl ?_ | refine Look.next ?_)); (with_reducible show wpList _ _ _ _ _ _); simp only [Act.put, List.setIfInBounds_toArray, List.set_cons_zero, List.set_cons_succ]))
      have HS0 := Lib.hid hS
      clear hS
      go_loopg [9] B.length (fun g s9 wx => ∃ (j : Nat) (O : Int), g = B.length - j ∧ s9 = .int .i64 j ∧ j ≤ B.length ∧ 0 ≤ O ∧ O ≤ N - 1 ∧ St w.heap.size 0 0 w [⟨bs, 0, true, #[.int .i64 N, .int .i64 O]⟩] wx)
      case atStart => exact ⟨0, O0, rfl, rfl, Nat.zero_le _, by have := HO.out; omega, by have := HO.out; omega, HS0.out⟩
      case round =>
        clear HS0 HO C1
        obtain ⟨j, O, rfl, rfl, hj, hO0, hO1, hS⟩ := hrel
        by_cases k3 : j < B.length
        · have k3' : (j : Int) < (B.length : Int) := by omega
          have k0' : (0 : Int) ≤ (j : Int) := by omega
          have hat := fun h => HA.out.at_ (i := j) h
          have hout := fun h => HA.out.out (i := j) h
          generalize LL.getD j [] = a at hat hout
          have HAT := Lib.hid hat
          have HOUT := Lib.hid hout
          clear hat hout
          go_upto_if 39 with fail
          go_cut [10] (fun s10 wx => ∃ A' c', s10 = .slice A' a.length c' ∧ Ls 0 w (.slice A' a.length c') (bls a) ∧ wx = wr)
          case first =>
            by_cases k4 : j < n
            · have k4' : (j : Int) < (n : Int) := by omega
              obtain ⟨x3, q3, A3, c3, rfl, hkc3, hcell3, hl⟩ := HAT.out k4
              have HL := Lib.hid hl
              replace hS := hS.oneB hcell3
              clear hl hcell3
              go_wp2_with (((with_reducible first | refine to_load 3 rfl ?_ | refine to_load 4 rfl ?_ | refine to_load 24 rfl ?_); refine Wl_load1 hS (fun _ => by rfl) _ _ rfl (scT _ rfl) ?_; (repeat (first | refine Look.here (of_decide_eq_true rfl) rfl ?_ | refine Look.self rfl ?_ | refine Look.next ?_)); (with_reducible show wpList _ _ _ _ _ _); simp only [Act.put, List.setIfInBounds_toArray, List.set_cons_zero, List.set_cons_succ]))
              go_meet
              case rel => exact ⟨A3, c3, rfl, HL.out, rfl⟩
            · have k4' : ¬ ((j : Int) < (n : Int)) := by omega
              obtain rfl := HOUT.out k4
              go_wp2_with (((with_reducible first | refine to_load 3 rfl ?_ | refine to_load 4 rfl ?_ | refine to_load 24 rfl ?_); refine Wl_load1 hS (fun _ => by rfl) _ _ rfl (scT _ rfl) ?_; (repeat (first | refine Look.here (of_decide_eq_true rfl) rfl ?_ | refine Look.self rfl ?_ | refine Look.next ?_)); (with_reducible show wpList _ _ _ _ _ _); simp only [Act.put, List.setIfInBounds_toArray, List.set_cons_zero, List.set_cons_succ]))
              go_meet
              case rel => exact ⟨none, 0, rfl, Ls.nil _ _ _ _ (Nat.zero_le _), rfl⟩
          case rest =>
            obtain ⟨A4, c4, rfl, hl, rfl⟩ := hcut
            obtain ⟨x1, q1, rfl, hkc, hcell⟩ := HM.out j k3
            have hT := fun bv W (hW : Below w.heap.size w W) => arTick_any N O hN64 a (arLen hl) A4 c4 bv W (hl.below hW)
            have haM := arLen hl
            have HLa := Lib.hid hl
            clear HAT HOUT hl HA HM
            have f1 := M.arTick_in hN.1 hO0 hO1 a (B.getD j false)
            have f3 : B.getD j false = false → M.arTick N O a (B.getD j false) = O := fun h => by rw [h]; rfl
            have f4 : B.getD j false = true → 1 < N → 0 < a.length → a.getD 0 false = true → M.arTick N O a (B.getD j false) = 0 := fun h h1 h2 h3 => by rw [h]; exact M.arTick_zero h1 h2 h3
            have f5 : B.getD j false = true → ∀ K, K = min a.length (N - 1).toNat → M.anyB a K = !(decide (M.arTick N O a (B.getD j false) = N - 1)) := fun h K hK => by rw [h]; exact M.arTick_any hN.1 hK
            have hT1 := hT (B.getD j false)
            unfold stV at hT1
            clear hT
            generalize M.arTick N O a (B.getD j false) = O1 at f1 f3 f4 f5 hT1
            generalize B.getD j false = bv at hcell f3 f4 f5 hT1
            have HT := Lib.hid hT1
            have F3 := Lib.hid f3
            have F4 := Lib.hid f4
            have F5 := Lib.hid f5
            replace hS := hS.oneB hcell
            clear hT1 f3 f4 f5 hcell
            go_upto_region 13 with fail
            go_cut [11] (fun s11 wx => ∃ b, s11 = .pointer (some ⟨b, 0, none⟩) ∧ St w.heap.size 0 0 w [⟨b, 0, true, #[.int .i64 N, .int .i64 O1]⟩, ⟨x1, q1 + j, false, #[.bool bv]⟩, ⟨bs, 0, true, #[.int .i64 N, .int .i64 O]⟩] wx)
            case first =>
              refine wp_region_held_drew (S := fun W => St w.heap.size 0 0 w [⟨x1, q1 + j, false, #[.bool bv]⟩, ⟨bs, 0, true, #[.int .i64 N, .int .i64 O]⟩] W) (by kernel_rfl) (hS.drew.sub (by repeat (first | exact List.Sublist.refl _ | exact List.nil_sublist _ | apply List.Sublist.cons_cons | apply List.Sublist.cons))) ?_
              intro _
              replace hS := hS.drew
              generalize World.drew _ = wX at hS ⊢
              first
                | refine wpAnyH_take (i := 0) rfl (by kernel_rfl) (by kernel_rfl) (by kernel_rfl) (fun _ _ _ h => h) (yields_row (by rfl) _ _ rfl _ _ rfl _ Try.underlying23 rfl _ (fun W hW => hW.range (.head _)) (arI.trans rfl)) (hS.sub (by repeat (first | exact List.Sublist.refl _ | exact List.nil_sublist _ | apply List.Sublist.cons_cons | apply List.Sublist.cons))) ?_
                | refine wpAnyH_take (i := 0) rfl (by kernel_rfl) (by kernel_rfl) (by kernel_rfl) (fun _ _ _ h => h) (yields_row (by rfl) _ _ rfl _ _ rfl _ Try.underlying23 rfl _ (fun W hW => hW.range (.tail _ (.head _))) (arI.trans rfl)) (hS.sub (by repeat (first | exact List.Sublist.refl _ | exact List.nil_sublist _ | apply List.Sublist.cons_cons | apply List.Sublist.cons))) ?_
                | refine wpAnyH_take (i := 0) rfl (by kernel_rfl) (by kernel_rfl) (by kernel_rfl) (fun _ _ _ h => h) (yields_row (by rfl) _ _ rfl _ _ rfl _ Try.underlying23 rfl _ (fun W hW => hW.range (.tail _ (.tail _ (.head _)))) (arI.trans rfl)) (hS.sub (by repeat (first | exact List.Sublist.refl _ | exact List.nil_sublist _ | apply List.Sublist.cons_cons | apply List.Sublist.cons))) ?_
                | refine wpAnyH_take (i := 0) rfl (by kernel_rfl) (by kernel_rfl) (by kernel_rfl) (fun _ _ _ h => h) (yields_row (by rfl) _ _ rfl _ _ rfl _ Try.underlying23 rfl _ (fun W hW => hW.range (.tail _ (.tail _ (.tail _ (.head _))))) (arI.trans rfl)) (hS.sub (by repeat (first | exact List.Sublist.refl _ | exact List.nil_sublist _ | apply List.Sublist.cons_cons | apply List.Sublist.cons))) ?_
                | refine wpAnyH_take (i := 0) rfl (by kernel_rfl) (by kernel_rfl) (by kernel_rfl) (fun _ _ _ h => h) (yields_row (by rfl) _ _ rfl _ _ rfl _ Try.underlying23 rfl _ (fun W hW => hW.range (.tail _ (.tail _ (.tail _ (.tail _ (.head _)))))) (arI.trans rfl)) (hS.sub (by repeat (first | exact List.Sublist.refl _ | exact List.nil_sublist _ | apply List.Sublist.cons_cons | apply List.Sublist.cons))) ?_
                | refine wpAnyH_take (i := 0) rfl (by kernel_rfl) (by kernel_rfl) (by kernel_rfl) (fun _ _ _ h => h) (yields_row (by rfl) _ _ rfl _ _ rfl _ Try.underlying23 rfl _ (fun W hW => hW.range (.tail _ (.tail _ (.tail _ (.tail _ (.tail _ (.head _))))))) (arI.trans rfl)) (hS.sub (by repeat (first | exact List.Sublist.refl _ | exact List.nil_sublist _ | apply List.Sublist.cons_cons | apply List.Sublist.cons))) ?_
              try simp only [Act.put, List.setIfInBounds_toArray, List.set_cons_zero, List.set_cons_succ, List.getElem_toArray, List.getElem_cons_succ, List.getElem_cons_zero]
              refine wpAnyH_take (i := 1) (v := ?_) rfl (by kernel_rfl) (by kernel_rfl) (by kernel_rfl) (fun _ _ _ h => h) (Or.inl ⟨by rfl, ?_⟩) (hS.sub (by repeat (first | exact List.Sublist.refl _ | exact List.nil_sublist _ | apply List.Sublist.cons_cons | apply List.Sublist.cons))) ?_
              rotate_left 1
              · intro W hW
                clear hW
                go_simp
                all_goals with_reducible rfl
              try simp only [Act.put, List.setIfInBounds_toArray, List.set_cons_zero, List.set_cons_succ, List.getElem_toArray, List.getElem_cons_succ, List.getElem_cons_zero]
              refine wpAnyH_take (i := 2) (v := ?_) rfl (by kernel_rfl) (by kernel_rfl) (by kernel_rfl) (fun _ _ _ h => h) (Or.inl ⟨by rfl, ?_⟩) (hS.sub (by repeat (first | exact List.Sublist.refl _ | exact List.nil_sublist _ | apply List.Sublist.cons_cons | apply List.Sublist.cons))) ?_
              rotate_left 1
              · intro W hW
                clear hW
                go_simp
                all_goals with_reducible rfl
              try simp only [Act.put, List.setIfInBounds_toArray, List.set_cons_zero, List.set_cons_succ, List.getElem_toArray, List.getElem_cons_succ, List.getElem_cons_zero]
              refine wpAnyH_take (i := 3) (v := ?_) rfl (by kernel_rfl) (by kernel_rfl) (by kernel_rfl) (fun _ _ _ h => h) (Or.inl ⟨by rfl, ?_⟩) (hS.sub (by repeat (first | exact List.Sublist.refl _ | exact List.nil_sublist _ | apply List.Sublist.cons_cons | apply List.Sublist.cons))) ?_
              rotate_left 1
              · intro W hW
                clear hW
                go_simp
                all_goals with_reducible rfl
              try simp only [Act.put, List.setIfInBounds_toArray, List.set_cons_zero, List.set_cons_succ, List.getElem_toArray, List.getElem_cons_succ, List.getElem_cons_zero]
              refine wpAnyH_take (i := 4) (v := ?_) rfl (by kernel_rfl) (by kernel_rfl) (by kernel_rfl) (fun _ _ _ h => h) (Or.inl ⟨by rfl, ?_⟩) (hS.sub (by repeat (first | exact List.Sublist.refl _ | exact List.nil_sublist _ | apply List.Sublist.cons_cons | apply List.Sublist.cons))) ?_
              rotate_left 1
              · intro W hW
                clear hW
                go_simp
                all_goals with_reducible rfl
              try simp only [Act.put, List.setIfInBounds_toArray, List.set_cons_zero, List.set_cons_succ, List.getElem_toArray, List.getElem_cons_succ, List.getElem_cons_zero]
              refine wpAnyH_take (i := 5) rfl (by kernel_rfl) (by kernel_rfl) (by kernel_rfl) (fun _ _ _ h => h) (yields_one (by rfl) _ _ rfl _ _ rfl sc4 _ (fun W hW => hW.cell (j := 0) (.head _) rfl)) (hS.sub (by repeat (first | exact List.Sublist.refl _ | exact List.nil_sublist _ | apply List.Sublist.cons_cons | apply List.Sublist.cons))) ?_
              try simp only [Act.put, List.setIfInBounds_toArray, List.set_cons_zero, List.set_cons_succ, List.getElem_toArray, List.getElem_cons_succ, List.getElem_cons_zero]
              refine wpAnyH_ready (rs := [6, 7]) (by kernel_rfl) (by simp) (AllReadyH.cons rfl ?_ (AllReadyH.cons rfl ?_ AllReadyH.nil))
              · intro K1 hK1
                rw [if_pos (by rfl)]
                try simp only [Act.put, List.setIfInBounds_toArray, List.set_cons_zero, List.set_cons_succ, List.getElem_toArray, List.getElem_cons_succ, List.getElem_cons_zero]
                go_simp
                refine (HT.out _ hS.below).mono ?_
                rintro e1 v2 ⟨rfl, hb⟩
                replace hS := hS.call hb
                clear hb
                refine hK1.out _ _ (hS.sub (by repeat (first | exact List.Sublist.refl _ | exact List.nil_sublist _ | apply List.Sublist.cons_cons | apply List.Sublist.cons))) (fun _ => ?_)
                clear hK1
                try simp only [Act.put, List.setIfInBounds_toArray, List.set_cons_zero, List.set_cons_succ, List.getElem_toArray, List.getElem_cons_succ, List.getElem_cons_zero]
                refine wpAnyH_ready (rs := [7]) (by kernel_rfl) (by simp) (AllReadyH.cons rfl ?_ AllReadyH.nil)
                intro K1 hK1
                rw [if_pos (by rfl)]
                try simp only [Act.put, List.setIfInBounds_toArray, List.set_cons_zero, List.set_cons_succ, List.getElem_toArray, List.getElem_cons_succ, List.getElem_cons_zero]
                refine wp_alloc_st hS _ rfl _ arZ ?_
                clear hS
                intro bB wW hS
                refine hK1.out _ _ (hS.sub (by repeat (first | exact List.Sublist.refl _ | exact List.nil_sublist _ | apply List.Sublist.cons_cons | apply List.Sublist.cons))) (fun _ => ?_)
                clear hK1
                try simp only [Act.put, List.setIfInBounds_toArray, List.set_cons_zero, List.set_cons_succ, List.getElem_toArray, List.getElem_cons_succ, List.getElem_cons_zero]
                refine wpAnyH_ready (rs := [8]) (by kernel_rfl) (by simp) (AllReadyH.cons rfl ?_ AllReadyH.nil)
                intro K1 hK1
                rw [if_pos (by rfl)]
                try simp only [Act.put, List.setIfInBounds_toArray, List.set_cons_zero, List.set_cons_succ, List.getElem_toArray, List.getElem_cons_succ, List.getElem_cons_zero]
                refine wp_store_st hS _ _ _ rfl _ _ _ rfl rfl (arI.trans rfl) (st_one _ _) ?_
                repeat (first | refine Turn.here rfl ?_ | refine Turn.next ?_)
                clear hS
                intro wW hS
                refine hK1.out _ _ (hS.sub (by repeat (first | exact List.Sublist.refl _ | exact List.nil_sublist _ | apply List.Sublist.cons_cons | apply List.Sublist.cons))) (fun _ => ?_)
                clear hK1
                try simp only [Act.put, List.setIfInBounds_toArray, List.set_cons_zero, List.set_cons_succ, List.getElem_toArray, List.getElem_cons_succ, List.getElem_cons_zero]
                refine wpAnyH_done (by kernel_rfl) ?_ _
                go_wp2_with fail
                go_meet
                case rel => exact ⟨_, rfl, hS⟩
              · intro K1 hK1
                rw [if_pos (by rfl)]
                try simp only [Act.put, List.setIfInBounds_toArray, List.set_cons_zero, List.set_cons_succ, List.getElem_toArray, List.getElem_cons_succ, List.getElem_cons_zero]
                refine wp_alloc_st hS _ rfl _ arZ ?_
                clear hS
                intro bB wW hS
                refine hK1.out _ _ (hS.sub (by repeat (first | exact List.Sublist.refl _ | exact List.nil_sublist _ | apply List.Sublist.cons_cons | apply List.Sublist.cons))) (fun _ => ?_)
                clear hK1
                try simp only [Act.put, List.setIfInBounds_toArray, List.set_cons_zero, List.set_cons_succ, List.getElem_toArray, List.getElem_cons_succ, List.getElem_cons_zero]
                refine wpAnyH_ready (rs := [6]) (by kernel_rfl) (by simp) (AllReadyH.cons rfl ?_ AllReadyH.nil)
                intro K1 hK1
                rw [if_pos (by rfl)]
                try simp only [Act.put, List.setIfInBounds_toArray, List.set_cons_zero, List.set_cons_succ, List.getElem_toArray, List.getElem_cons_succ, List.getElem_cons_zero]
                go_simp
                refine (HT.out _ hS.below).mono ?_
                rintro e1 v2 ⟨rfl, hb⟩
                replace hS := hS.call hb
                clear hb
                refine hK1.out _ _ (hS.sub (by repeat (first | exact List.Sublist.refl _ | exact List.nil_sublist _ | apply List.Sublist.cons_cons | apply List.Sublist.cons))) (fun _ => ?_)
                clear hK1
                try simp only [Act.put, List.setIfInBounds_toArray, List.set_cons_zero, List.set_cons_succ, List.getElem_toArray, List.getElem_cons_succ, List.getElem_cons_zero]
                refine wpAnyH_ready (rs := [8]) (by kernel_rfl) (by simp) (AllReadyH.cons rfl ?_ AllReadyH.nil)
                intro K1 hK1
                rw [if_pos (by rfl)]
                try simp only [Act.put, List.setIfInBounds_toArray, List.set_cons_zero, List.set_cons_succ, List.getElem_toArray, List.getElem_cons_succ, List.getElem_cons_zero]
                refine wp_store_st hS _ _ _ rfl _ _ _ rfl rfl (arI.trans rfl) (st_one _ _) ?_
                repeat (first | refine Turn.here rfl ?_ | refine Turn.next ?_)
                clear hS
                intro wW hS
                refine hK1.out _ _ (hS.sub (by repeat (first | exact List.Sublist.refl _ | exact List.nil_sublist _ | apply List.Sublist.cons_cons | apply List.Sublist.cons))) (fun _ => ?_)
                clear hK1
                try simp only [Act.put, List.setIfInBounds_toArray, List.set_cons_zero, List.set_cons_succ, List.getElem_toArray, List.getElem_cons_succ, List.getElem_cons_zero]
                refine wpAnyH_done (by kernel_rfl) ?_ _
                go_wp2_with fail
                go_meet
                case rel => exact ⟨_, rfl, hS⟩
            case rest =>
              clear hS
              obtain ⟨bt, rfl, hS⟩ := hcut
              have hN1 := hN.1
              have hN8 := hN.2
              have hG := fun W => arGranted_any N O1 hN64 W
              unfold stV at hG
              have hcnt := M.cnt_arG hN.1 hN.2 f1.1 f1.2
              have hGle := arG_le N O1
              generalize M.arG N O1 = G at hG hcnt hGle
              have HG := Lib.hid hG
              have HC := Lib.hid hcnt
              have HF1 := Lib.hid f1
              clear hG hcnt f1
              go_wp2_with (first
  | ((with_reducible refine to_alloc 23 rfl ?_); refine Wl_alloc hS (fun _ => by rfl) _ arZ ?_; clear hS; intro bs wW hS; simp only [Act.put, List.setIfInBounds_toArray, List.set_cons_zero, List.set_cons_succ])
  | ((with_reducible refine to_load 23 rfl ?_); refine Wl_load hS (fun _ => by rfl) _ _ rfl _ Try.underlying23 rfl ?_; (repeat (first | (refine Row.here ⟨arI.trans rfl, ?_⟩) | refine Row.next ?_)); (with_reducible show wpList _ _ _ _ _ _); simp only [Act.put, List.setIfInBounds_toArray, List.set_cons_zero, List.set_cons_succ])
  | ((with_reducible refine to_store 23 rfl ?_); refine Wl_store hS (fun _ => by rfl) _ _ _ rfl rfl (arI.trans rfl) (st_one _ _) ?_; (repeat (first | refine Turn.here rfl ?_ | refine Turn.next ?_)); clear hS; intro wW hS; try simp only [Act.put, List.setIfInBounds_toArray, List.set_cons_zero, List.set_cons_succ])
  | ((with_reducible first | refine to_load 3 rfl ?_ | refine to_load 4 rfl ?_ | refine to_load 24 rfl ?_); refine Wl_load1 hS (fun _ => by rfl) _ _ rfl (scT _ rfl) ?_; (repeat (first | refine Look.here (of_decide_eq_true rfl) rfl ?_ | refine Look.self rfl ?_ | refine Look.next ?_)); (with_reducible show wpList _ _ _ _ _ _); simp only [Act.put, List.setIfInBounds_toArray, List.set_cons_zero, List.set_cons_succ]))
              refine (HG.out _).mono ?_
              rintro e w1 ⟨A5, k5, rfl, hl, hb⟩
              replace hS := hS.callN hb hl
              simp only [List.cons_append, List.nil_append, List.append_assoc] at hS
              have hshA5 := Lib.hid hl.shp
              clear hb hl
              clear HG
              go_upto_block 2 with (first
  | ((with_reducible refine to_alloc 23 rfl ?_); refine Wl_alloc hS (fun _ => by rfl) _ arZ ?_; clear hS; intro bs wW hS; simp only [Act.put, List.setIfInBounds_toArray, List.set_cons_zero, List.set_cons_succ])
  | ((with_reducible refine to_load 23 rfl ?_); refine Wl_load hS (fun _ => by rfl) _ _ rfl _ Try.underlying23 rfl ?_; (repeat (first | (refine Row.here ⟨arI.trans rfl, ?_⟩) | refine Row.next ?_)); (with_reducible show wpList _ _ _ _ _ _); simp only [Act.put, List.setIfInBounds_toArray, List.set_cons_zero, List.set_cons_succ])
  | ((with_reducible refine to_store 23 rfl ?_); refine Wl_store hS (fun _ => by rfl) _ _ _ rfl rfl (arI.trans rfl) (st_one _ _) ?_; (repeat (first | refine Turn.here rfl ?_ | refine Turn.next ?_)); clear hS; intro wW hS; try simp only [Act.put, List.setIfInBounds_toArray, List.set_cons_zero, List.set_cons_succ])
  | ((with_reducible first | refine to_load 3 rfl ?_ | refine to_load 4 rfl ?_ | refine to_load 24 rfl ?_); refine Wl_load1 hS (fun _ => by rfl) _ _ rfl (scT _ rfl) ?_; (repeat (first | refine Look.here (of_decide_eq_true rfl) rfl ?_ | refine Look.self rfl ?_ | refine Look.next ?_)); (with_reducible show wpList _ _ _ _ _ _); simp only [Act.put, List.setIfInBounds_toArray, List.set_cons_zero, List.set_cons_succ]))
              go_cut [12] (fun s12 wx => s12 = .int .i64 1 ∧ St w.heap.size 0 0 w [⟨bt, 0, true, #[.int .i64 N, .int .i64 O1]⟩, ⟨x1, q1 + j, false, #[.bool bv]⟩, ⟨bs, 0, true, #[.int .i64 N, .int .i64 O]⟩] wx)
              case first =>
                have HS0 := Lib.hid hS
                clear hS
                go_wp2_with fail
                go_loopg [12, 14] G.length (fun g s12 s14 wx => ∃ i : Nat, g = G.length - i ∧ i ≤ G.length ∧ s12 = .int .i64 (M.cnt G i) ∧ s14 = .int .i64 i ∧ St w.heap.size 0 0 w (⟨bt, 0, true, #[.int .i64 N, .int .i64 O1]⟩ :: ⟨x1, q1 + j, false, #[.bool bv]⟩ :: ⟨bs, 0, true, #[.int .i64 N, .int .i64 O]⟩ :: entL (.slice A5 G.length k5) (bls G)) wx)
                case atStart => exact ⟨0, rfl, Nat.zero_le _, rfl, rfl, HS0.out⟩
                case round =>
                  clear HS0
                  obtain ⟨i, rfl, hi, rfl, rfl, hS⟩ := hrel
                  by_cases k6 : i < G.length
                  · have k6' : (i : Int) < (G.length : Int) := by omega
                    have k60 : (0 : Int) ≤ (i : Int) := by omega
                    obtain ⟨x5, q5, rfl, hkc5, hc5⟩ := hS.bcell hshA5.out (fun e he => List.mem_cons_of_mem _ (List.mem_cons_of_mem _ (List.mem_cons_of_mem _ he))) k6
                    have hin := M.cnt_in G i
                    have hin1 := hin.1
                    have hin2 := hin.2
                    have hyes := M.cnt_yes (G := G) (j := i)
                    have hno := M.cnt_no (G := G) (j := i)
                    generalize G.getD i false = v at hc5 hyes hno
                    generalize M.cnt G i = ct at hin1 hin2 hyes hno ⊢
                    cases v
                    · have HE := Lib.hid (hno rfl)
                      clear hyes hno hin
                      go_wp2_with fail
                      go_roundg (G.length - (i + 1))
                      case measure => omega
                      case rel => exact ⟨i + 1, rfl, by omega, by rw [HE.out], by simp, hS⟩
                    · have HE := Lib.hid (hyes rfl)
                      clear hyes hno hin
                      go_wp2_with fail
                      go_roundg (G.length - (i + 1))
                      case measure => omega
                      case rel => exact ⟨i + 1, rfl, by omega, by rw [← HE.out], by simp, hS⟩
                  · have k6' : ¬ ((i : Int) < (G.length : Int)) := by omega
                    obtain rfl : i = G.length := by omega
                    go_wp2_with fail
                    go_meet
                    case rel => exact ⟨by rw [HC.out], (hS.sub (by repeat (first | exact List.Sublist.refl _ | exact List.nil_sublist _ | apply List.Sublist.cons_cons | apply List.Sublist.cons)))⟩
              case rest =>
                clear hS
                obtain ⟨rfl, hS⟩ := hcut
                clear HC
                go_upto_region 21 with fail
                go_cut [85] (fun s85 wx => s85 = .bool false ∧ wx = wc)
                case first =>
                  cases bv
                  · have e0 : O1 = O := F3.out rfl
                    subst e0
                    have e1 := fun W => neqS N O1 W
                    go_wp2_with (first
  | ((with_reducible refine to_alloc 23 rfl ?_); refine Wl_alloc hS (fun _ => by rfl) _ arZ ?_; clear hS; intro bs wW hS; simp only [Act.put, List.setIfInBounds_toArray, List.set_cons_zero, List.set_cons_succ])
  | ((with_reducible refine to_load 23 rfl ?_); refine Wl_load hS (fun _ => by rfl) _ _ rfl _ Try.underlying23 rfl ?_; (repeat (first | (refine Row.here ⟨arI.trans rfl, ?_⟩) | refine Row.next ?_)); (with_reducible show wpList _ _ _ _ _ _); simp only [Act.put, List.setIfInBounds_toArray, List.set_cons_zero, List.set_cons_succ])
  | ((with_reducible refine to_store 23 rfl ?_); refine Wl_store hS (fun _ => by rfl) _ _ _ rfl rfl (arI.trans rfl) (st_one _ _) ?_; (repeat (first | refine Turn.here rfl ?_ | refine Turn.next ?_)); clear hS; intro wW hS; try simp only [Act.put, List.setIfInBounds_toArray, List.set_cons_zero, List.set_cons_succ])
  | ((with_reducible first | refine to_load 3 rfl ?_ | refine to_load 4 rfl ?_ | refine to_load 24 rfl ?_); refine Wl_load1 hS (fun _ => by rfl) _ _ rfl (scT _ rfl) ?_; (repeat (first | refine Look.here (of_decide_eq_true rfl) rfl ?_ | refine Look.self rfl ?_ | refine Look.next ?_)); (with_reducible show wpList _ _ _ _ _ _); simp only [Act.put, List.setIfInBounds_toArray, List.set_cons_zero, List.set_cons_succ]))
                    go_meet
                    case rel => exact ⟨rfl, rfl⟩
                  · go_wp2_with (first
  | ((with_reducible refine to_alloc 23 rfl ?_); refine Wl_alloc hS (fun _ => by rfl) _ arZ ?_; clear hS; intro bs wW hS; simp only [Act.put, List.setIfInBounds_toArray, List.set_cons_zero, List.set_cons_succ])
  | ((with_reducible refine to_load 23 rfl ?_); refine Wl_load hS (fun _ => by rfl) _ _ rfl _ Try.underlying23 rfl ?_; (repeat (first | (refine Row.here ⟨arI.trans rfl, ?_⟩) | refine Row.next ?_)); (with_reducible show wpList _ _ _ _ _ _); simp only [Act.put, List.setIfInBounds_toArray, List.set_cons_zero, List.set_cons_succ])
  | ((with_reducible refine to_store 23 rfl ?_); refine Wl_store hS (fun _ => by rfl) _ _ _ rfl rfl (arI.trans rfl) (st_one _ _) ?_; (repeat (first | refine Turn.here rfl ?_ | refine Turn.next ?_)); clear hS; intro wW hS; try simp only [Act.put, List.setIfInBounds_toArray, List.set_cons_zero, List.set_cons_succ])
  | ((with_reducible first | refine to_load 3 rfl ?_ | refine to_load 4 rfl ?_ | refine to_load 24 rfl ?_); refine Wl_load1 hS (fun _ => by rfl) _ _ rfl (scT _ rfl) ?_; (repeat (first | refine Look.here (of_decide_eq_true rfl) rfl ?_ | refine Look.self rfl ?_ | refine Look.next ?_)); (with_reducible show wpList _ _ _ _ _ _); simp only [Act.put, List.setIfInBounds_toArray, List.set_cons_zero, List.set_cons_succ]))
                    go_meet
                    case rel => exact ⟨rfl, rfl⟩
                case rest =>
                  obtain ⟨rfl, rfl⟩ := hcut
                  go_upto_region 23 with fail
                  go_cut [109] (fun s109 wx => s109 = .bool false ∧ wx = wc)
                  case first =>
                    cases bv
                    · go_wp2_with (first
  | ((with_reducible refine to_alloc 23 rfl ?_); refine Wl_alloc hS (fun _ => by rfl) _ arZ ?_; clear hS; intro bs wW hS; simp only [Act.put, List.setIfInBounds_toArray, List.set_cons_zero, List.set_cons_succ])
  | ((with_reducible refine to_load 23 rfl ?_); refine Wl_load hS (fun _ => by rfl) _ _ rfl _ Try.underlying23 rfl ?_; (repeat (first | (refine Row.here ⟨arI.trans rfl, ?_⟩) | refine Row.next ?_)); (with_reducible show wpList _ _ _ _ _ _); simp only [Act.put, List.setIfInBounds_toArray, List.set_cons_zero, List.set_cons_succ])
  | ((with_reducible refine to_store 23 rfl ?_); refine Wl_store hS (fun _ => by rfl) _ _ _ rfl rfl (arI.trans rfl) (st_one _ _) ?_; (repeat (first | refine Turn.here rfl ?_ | refine Turn.next ?_)); clear hS; intro wW hS; try simp only [Act.put, List.setIfInBounds_toArray, List.set_cons_zero, List.set_cons_succ])
  | ((with_reducible first | refine to_load 3 rfl ?_ | refine to_load 4 rfl ?_ | refine to_load 24 rfl ?_); refine Wl_load1 hS (fun _ => by rfl) _ _ rfl (scT _ rfl) ?_; (repeat (first | refine Look.here (of_decide_eq_true rfl) rfl ?_ | refine Look.self rfl ?_ | refine Look.next ?_)); (with_reducible show wpList _ _ _ _ _ _); simp only [Act.put, List.setIfInBounds_toArray, List.set_cons_zero, List.set_cons_succ]))
                      go_meet
                      case rel => exact ⟨rfl, rfl⟩
                    · by_cases h1 : 1 < N
                      · by_cases h2 : 0 < a.length
                        · have h2' : (0 : Int) < (a.length : Int) := by omega
                          obtain ⟨x6, q6, rfl, hk6, hc6⟩ := arBx HLa.out h2
                          have hf := F4.out rfl h1 h2
                          generalize a.getD 0 false = v0 at hc6 hf
                          replace hS := hS.oneB hc6
                          clear hc6
                          cases v0
                          · clear hf
                            go_wp2_with (first
  | ((with_reducible refine to_alloc 23 rfl ?_); refine Wl_alloc hS (fun _ => by rfl) _ arZ ?_; clear hS; intro bs wW hS; simp only [Act.put, List.setIfInBounds_toArray, List.set_cons_zero, List.set_cons_succ])
  | ((with_reducible refine to_load 23 rfl ?_); refine Wl_load hS (fun _ => by rfl) _ _ rfl _ Try.underlying23 rfl ?_; (repeat (first | (refine Row.here ⟨arI.trans rfl, ?_⟩) | refine Row.next ?_)); (with_reducible show wpList _ _ _ _ _ _); simp only [Act.put, List.setIfInBounds_toArray, List.set_cons_zero, List.set_cons_succ])
  | ((with_reducible refine to_store 23 rfl ?_); refine Wl_store hS (fun _ => by rfl) _ _ _ rfl rfl (arI.trans rfl) (st_one _ _) ?_; (repeat (first | refine Turn.here rfl ?_ | refine Turn.next ?_)); clear hS; intro wW hS; try simp only [Act.put, List.setIfInBounds_toArray, List.set_cons_zero, List.set_cons_succ])
  | ((with_reducible first | refine to_load 3 rfl ?_ | refine to_load 4 rfl ?_ | refine to_load 24 rfl ?_); refine Wl_load1 hS (fun _ => by rfl) _ _ rfl (scT _ rfl) ?_; (repeat (first | refine Look.here (of_decide_eq_true rfl) rfl ?_ | refine Look.self rfl ?_ | refine Look.next ?_)); (with_reducible show wpList _ _ _ _ _ _); simp only [Act.put, List.setIfInBounds_toArray, List.set_cons_zero, List.set_cons_succ]))
                            go_meet
                            case rel => exact ⟨rfl, rfl⟩
                          · have z := hf rfl
                            have z1 : (O1 == 0) = true := by simp [z]
                            have z2 : decide (O1 = 0) = true := by simp [z]
                            have z3 : (O1 != 0) = false := by simp [z]
                            clear z hf
                            go_wp2_with (first
  | ((with_reducible refine to_alloc 23 rfl ?_); refine Wl_alloc hS (fun _ => by rfl) _ arZ ?_; clear hS; intro bs wW hS; simp only [Act.put, List.setIfInBounds_toArray, List.set_cons_zero, List.set_cons_succ])
  | ((with_reducible refine to_load 23 rfl ?_); refine Wl_load hS (fun _ => by rfl) _ _ rfl _ Try.underlying23 rfl ?_; (repeat (first | (refine Row.here ⟨arI.trans rfl, ?_⟩) | refine Row.next ?_)); (with_reducible show wpList _ _ _ _ _ _); simp only [Act.put, List.setIfInBounds_toArray, List.set_cons_zero, List.set_cons_succ])
  | ((with_reducible refine to_store 23 rfl ?_); refine Wl_store hS (fun _ => by rfl) _ _ _ rfl rfl (arI.trans rfl) (st_one _ _) ?_; (repeat (first | refine Turn.here rfl ?_ | refine Turn.next ?_)); clear hS; intro wW hS; try simp only [Act.put, List.setIfInBounds_toArray, List.set_cons_zero, List.set_cons_succ])
  | ((with_reducible first | refine to_load 3 rfl ?_ | refine to_load 4 rfl ?_ | refine to_load 24 rfl ?_); refine Wl_load1 hS (fun _ => by rfl) _ _ rfl (scT _ rfl) ?_; (repeat (first | refine Look.here (of_decide_eq_true rfl) rfl ?_ | refine Look.self rfl ?_ | refine Look.next ?_)); (with_reducible show wpList _ _ _ _ _ _); simp only [Act.put, List.setIfInBounds_toArray, List.set_cons_zero, List.set_cons_succ]))
                            go_meet
                            case rel => exact ⟨rfl, rfl⟩
                        · have h2' : ¬ ((0 : Int) < (a.length : Int)) := by omega
                          go_wp2_with (first
  | ((with_reducible refine to_alloc 23 rfl ?_); refine Wl_alloc hS (fun _ => by rfl) _ arZ ?_; clear hS; intro bs wW hS; simp only [Act.put, List.setIfInBounds_toArray, List.set_cons_zero, List.set_cons_succ])
  | ((with_reducible refine to_load 23 rfl ?_); refine Wl_load hS (fun _ => by rfl) _ _ rfl _ Try.underlying23 rfl ?_; (repeat (first | (refine Row.here ⟨arI.trans rfl, ?_⟩) | refine Row.next ?_)); (with_reducible show wpList _ _ _ _ _ _); simp only [Act.put, List.setIfInBounds_toArray, List.set_cons_zero, List.set_cons_succ])
  | ((with_reducible refine to_store 23 rfl ?_); refine Wl_store hS (fun _ => by rfl) _ _ _ rfl rfl (arI.trans rfl) (st_one _ _) ?_; (repeat (first | refine Turn.here rfl ?_ | refine Turn.next ?_)); clear hS; intro wW hS; try simp only [Act.put, List.setIfInBounds_toArray, List.set_cons_zero, List.set_cons_succ])
  | ((with_reducible first | refine to_load 3 rfl ?_ | refine to_load 4 rfl ?_ | refine to_load 24 rfl ?_); refine Wl_load1 hS (fun _ => by rfl) _ _ rfl (scT _ rfl) ?_; (repeat (first | refine Look.here (of_decide_eq_true rfl) rfl ?_ | refine Look.self rfl ?_ | refine Look.next ?_)); (with_reducible show wpList _ _ _ _ _ _); simp only [Act.put, List.setIfInBounds_toArray, List.set_cons_zero, List.set_cons_succ]))
                          go_meet
                          case rel => exact ⟨rfl, rfl⟩
                      · go_wp2_with (first
  | ((with_reducible refine to_alloc 23 rfl ?_); refine Wl_alloc hS (fun _ => by rfl) _ arZ ?_; clear hS; intro bs wW hS; simp only [Act.put, List.setIfInBounds_toArray, List.set_cons_zero, List.set_cons_succ])
  | ((with_reducible refine to_load 23 rfl ?_); refine Wl_load hS (fun _ => by rfl) _ _ rfl _ Try.underlying23 rfl ?_; (repeat (first | (refine Row.here ⟨arI.trans rfl, ?_⟩) | refine Row.next ?_)); (with_reducible show wpList _ _ _ _ _ _); simp only [Act.put, List.setIfInBounds_toArray, List.set_cons_zero, List.set_cons_succ])
  | ((with_reducible refine to_store 23 rfl ?_); refine Wl_store hS (fun _ => by rfl) _ _ _ rfl rfl (arI.trans rfl) (st_one _ _) ?_; (repeat (first | refine Turn.here rfl ?_ | refine Turn.next ?_)); clear hS; intro wW hS; try simp only [Act.put, List.setIfInBounds_toArray, List.set_cons_zero, List.set_cons_succ])
  | ((with_reducible first | refine to_load 3 rfl ?_ | refine to_load 4 rfl ?_ | refine to_load 24 rfl ?_); refine Wl_load1 hS (fun _ => by rfl) _ _ rfl (scT _ rfl) ?_; (repeat (first | refine Look.here (of_decide_eq_true rfl) rfl ?_ | refine Look.self rfl ?_ | refine Look.next ?_)); (with_reducible show wpList _ _ _ _ _ _); simp only [Act.put, List.setIfInBounds_toArray, List.set_cons_zero, List.set_cons_succ]))
                        go_meet
                        case rel => exact ⟨rfl, rfl⟩
                  case rest =>
                    obtain ⟨rfl, rfl⟩ := hcut
                    go_upto_block 4 with fail
                    obtain ⟨K, hK⟩ : ∃ K : Nat, K = min a.length (N - 1).toNat := ⟨_, rfl⟩
                    have HK := Lib.hid hK
                    clear hK
                    go_cut [15] (fun s15 wx => s15 = .bool (M.anyB a K) ∧ St w.heap.size 0 0 w [⟨bt, 0, true, #[.int .i64 N, .int .i64 O1]⟩, ⟨x1, q1 + j, false, #[.bool bv]⟩, ⟨bs, 0, true, #[.int .i64 N, .int .i64 O]⟩] wx)
                    case first =>
                      have HS0 := Lib.hid hS
                      clear hS
                      go_wp2_with fail
                      go_loopg [15, 16] K (fun g s15 s16 wx => ∃ i : Nat, g = K - i ∧ i ≤ K ∧ s15 = .bool (M.anyB a i) ∧ s16 = .int .i64 i ∧ St w.heap.size 0 0 w [⟨bt, 0, true, #[.int .i64 N, .int .i64 O1]⟩, ⟨x1, q1 + j, false, #[.bool bv]⟩, ⟨bs, 0, true, #[.int .i64 N, .int .i64 O]⟩] wx)
                      case atStart => exact ⟨0, rfl, Nat.zero_le _, rfl, rfl, HS0.out⟩
                      case round =>
                        clear HS0
                        obtain ⟨i, rfl, hi, rfl, rfl, hS⟩ := hrel
                        by_cases k6 : i < K
                        · have hk := HK.out
                          have k7 : i < a.length := by omega
                          have k7' : (i : Int) < (a.length : Int) := by omega
                          have k8' : (i : Int) < N - 1 := by omega
                          have k60 : (0 : Int) ≤ (i : Int) := by omega
                          obtain ⟨x6, q6, rfl, hk6, hc6⟩ := arBx HLa.out k7
                          have hs1 : M.anyB a (i + 1) = (M.anyB a i || a.getD i false) := rfl
                          generalize a.getD i false = v at hc6 hs1
                          generalize M.anyB a i = q at hs1 ⊢
                          replace hS := hS.oneB hc6
                          clear hc6 hk
                          have HE := Lib.hid hs1
                          clear hs1
                          cases q <;> cases v
                          all_goals
                            go_wp2_with (first
  | ((with_reducible refine to_alloc 23 rfl ?_); refine Wl_alloc hS (fun _ => by rfl) _ arZ ?_; clear hS; intro bs wW hS; simp only [Act.put, List.setIfInBounds_toArray, List.set_cons_zero, List.set_cons_succ])
  | ((with_reducible refine to_load 23 rfl ?_); refine Wl_load hS (fun _ => by rfl) _ _ rfl _ Try.underlying23 rfl ?_; (repeat (first | (refine Row.here ⟨arI.trans rfl, ?_⟩) | refine Row.next ?_)); (with_reducible show wpList _ _ _ _ _ _); simp only [Act.put, List.setIfInBounds_toArray, List.set_cons_zero, List.set_cons_succ])
  | ((with_reducible refine to_store 23 rfl ?_); refine Wl_store hS (fun _ => by rfl) _ _ _ rfl rfl (arI.trans rfl) (st_one _ _) ?_; (repeat (first | refine Turn.here rfl ?_ | refine Turn.next ?_)); clear hS; intro wW hS; try simp only [Act.put, List.setIfInBounds_toArray, List.set_cons_zero, List.set_cons_succ])
  | ((with_reducible first | refine to_load 3 rfl ?_ | refine to_load 4 rfl ?_ | refine to_load 24 rfl ?_); refine Wl_load1 hS (fun _ => by rfl) _ _ rfl (scT _ rfl) ?_; (repeat (first | refine Look.here (of_decide_eq_true rfl) rfl ?_ | refine Look.self rfl ?_ | refine Look.next ?_)); (with_reducible show wpList _ _ _ _ _ _); simp only [Act.put, List.setIfInBounds_toArray, List.set_cons_zero, List.set_cons_succ]))
                            go_roundg (K - (i + 1))
                            case measure => omega
                            case rel => exact ⟨i + 1, rfl, by omega, by rw [HE.out]; rfl, by simp, hS.rest⟩
                        · obtain rfl : i = K := by omega
                          by_cases k7 : i < a.length
                          · have k7' : (i : Int) < (a.length : Int) := by omega
                            have k8' : ¬ ((i : Int) < N - 1) := by have := HK.out; omega
                            go_wp2_with (first
  | ((with_reducible refine to_alloc 23 rfl ?_); refine Wl_alloc hS (fun _ => by rfl) _ arZ ?_; clear hS; intro bs wW hS; simp only [Act.put, List.setIfInBounds_toArray, List.set_cons_zero, List.set_cons_succ])
  | ((with_reducible refine to_load 23 rfl ?_); refine Wl_load hS (fun _ => by rfl) _ _ rfl _ Try.underlying23 rfl ?_; (repeat (first | (refine Row.here ⟨arI.trans rfl, ?_⟩) | refine Row.next ?_)); (with_reducible show wpList _ _ _ _ _ _); simp only [Act.put, List.setIfInBounds_toArray, List.set_cons_zero, List.set_cons_succ])
  | ((with_reducible refine to_store 23 rfl ?_); refine Wl_store hS (fun _ => by rfl) _ _ _ rfl rfl (arI.trans rfl) (st_one _ _) ?_; (repeat (first | refine Turn.here rfl ?_ | refine Turn.next ?_)); clear hS; intro wW hS; try simp only [Act.put, List.setIfInBounds_toArray, List.set_cons_zero, List.set_cons_succ])
  | ((with_reducible first | refine to_load 3 rfl ?_ | refine to_load 4 rfl ?_ | refine to_load 24 rfl ?_); refine Wl_load1 hS (fun _ => by rfl) _ _ rfl (scT _ rfl) ?_; (repeat (first | refine Look.here (of_decide_eq_true rfl) rfl ?_ | refine Look.self rfl ?_ | refine Look.next ?_)); (with_reducible show wpList _ _ _ _ _ _); simp only [Act.put, List.setIfInBounds_toArray, List.set_cons_zero, List.set_cons_succ]))
                            go_meet
                            case rel => exact ⟨rfl, hS⟩
                          · have k7' : ¬ ((i : Int) < (a.length : Int)) := by omega
                            go_wp2_with (first
  | ((with_reducible refine to_alloc 23 rfl ?_); refine Wl_alloc hS (fun _ => by rfl) _ arZ ?_; clear hS; intro bs wW hS; simp only [Act.put, List.setIfInBounds_toArray, List.set_cons_zero, List.set_cons_succ])
  | ((with_reducible refine to_load 23 rfl ?_); refine Wl_load hS (fun _ => by rfl) _ _ rfl _ Try.underlying23 rfl ?_; (repeat (first | (refine Row.here ⟨arI.trans rfl, ?_⟩) | refine Row.next ?_)); (with_reducible show wpList _ _ _ _ _ _); simp only [Act.put, List.setIfInBounds_toArray, List.set_cons_zero, List.set_cons_succ])
  | ((with_reducible refine to_store 23 rfl ?_); refine Wl_store hS (fun _ => by rfl) _ _ _ rfl rfl (arI.trans rfl) (st_one _ _) ?_; (repeat (first | refine Turn.here rfl ?_ | refine Turn.next ?_)); clear hS; intro wW hS; try simp only [Act.put, List.setIfInBounds_toArray, List.set_cons_zero, List.set_cons_succ])
  | ((with_reducible first | refine to_load 3 rfl ?_ | refine to_load 4 rfl ?_ | refine to_load 24 rfl ?_); refine Wl_load1 hS (fun _ => by rfl) _ _ rfl (scT _ rfl) ?_; (repeat (first | refine Look.here (of_decide_eq_true rfl) rfl ?_ | refine Look.self rfl ?_ | refine Look.next ?_)); (with_reducible show wpList _ _ _ _ _ _); simp only [Act.put, List.setIfInBounds_toArray, List.set_cons_zero, List.set_cons_succ]))
                            go_meet
                            case rel => exact ⟨rfl, hS⟩
                    case rest =>
                      clear hS
                      obtain ⟨rfl, hS⟩ := hcut
                      go_upto_region 30 with fail
                      go_cut [15, 143] (fun s15 s143 wx => s143 = .bool false ∧ wx = wc)
                      case first =>
                        cases bv
                        · go_wp2_with (first
  | ((with_reducible refine to_alloc 23 rfl ?_); refine Wl_alloc hS (fun _ => by rfl) _ arZ ?_; clear hS; intro bs wW hS; simp only [Act.put, List.setIfInBounds_toArray, List.set_cons_zero, List.set_cons_succ])
  | ((with_reducible refine to_load 23 rfl ?_); refine Wl_load hS (fun _ => by rfl) _ _ rfl _ Try.underlying23 rfl ?_; (repeat (first | (refine Row.here ⟨arI.trans rfl, ?_⟩) | refine Row.next ?_)); (with_reducible show wpList _ _ _ _ _ _); simp only [Act.put, List.setIfInBounds_toArray, List.set_cons_zero, List.set_cons_succ])
  | ((with_reducible refine to_store 23 rfl ?_); refine Wl_store hS (fun _ => by rfl) _ _ _ rfl rfl (arI.trans rfl) (st_one _ _) ?_; (repeat (first | refine Turn.here rfl ?_ | refine Turn.next ?_)); clear hS; intro wW hS; try simp only [Act.put, List.setIfInBounds_toArray, List.set_cons_zero, List.set_cons_succ])
  | ((with_reducible first | refine to_load 3 rfl ?_ | refine to_load 4 rfl ?_ | refine to_load 24 rfl ?_); refine Wl_load1 hS (fun _ => by rfl) _ _ rfl (scT _ rfl) ?_; (repeat (first | refine Look.here (of_decide_eq_true rfl) rfl ?_ | refine Look.self rfl ?_ | refine Look.next ?_)); (with_reducible show wpList _ _ _ _ _ _); simp only [Act.put, List.setIfInBounds_toArray, List.set_cons_zero, List.set_cons_succ]))
                          go_meet
                          case rel => exact ⟨rfl, rfl⟩
                        · have hq := F5.out rfl K HK.out
                          generalize M.anyB a K = q at hq ⊢
                          by_cases z : O1 = N - 1
                          · have z1 : (O1 == N - 1) = true := by simp [z]
                            have z2 : decide (O1 = N - 1) = true := by simp [z]
                            have z3 : (O1 != N - 1) = false := by simp [z]
                            rw [z2] at hq
                            obtain rfl : q = false := hq
                            clear z
                            go_wp2_with (first
  | ((with_reducible refine to_alloc 23 rfl ?_); refine Wl_alloc hS (fun _ => by rfl) _ arZ ?_; clear hS; intro bs wW hS; simp only [Act.put, List.setIfInBounds_toArray, List.set_cons_zero, List.set_cons_succ])
  | ((with_reducible refine to_load 23 rfl ?_); refine Wl_load hS (fun _ => by rfl) _ _ rfl _ Try.underlying23 rfl ?_; (repeat (first | (refine Row.here ⟨arI.trans rfl, ?_⟩) | refine Row.next ?_)); (with_reducible show wpList _ _ _ _ _ _); simp only [Act.put, List.setIfInBounds_toArray, List.set_cons_zero, List.set_cons_succ])
  | ((with_reducible refine to_store 23 rfl ?_); refine Wl_store hS (fun _ => by rfl) _ _ _ rfl rfl (arI.trans rfl) (st_one _ _) ?_; (repeat (first | refine Turn.here rfl ?_ | refine Turn.next ?_)); clear hS; intro wW hS; try simp only [Act.put, List.setIfInBounds_toArray, List.set_cons_zero, List.set_cons_succ])
  | ((with_reducible first | refine to_load 3 rfl ?_ | refine to_load 4 rfl ?_ | refine to_load 24 rfl ?_); refine Wl_load1 hS (fun _ => by rfl) _ _ rfl (scT _ rfl) ?_; (repeat (first | refine Look.here (of_decide_eq_true rfl) rfl ?_ | refine Look.self rfl ?_ | refine Look.next ?_)); (with_reducible show wpList _ _ _ _ _ _); simp only [Act.put, List.setIfInBounds_toArray, List.set_cons_zero, List.set_cons_succ]))
                            go_meet
                            case rel => exact ⟨rfl, rfl⟩
                          · have z1 : (O1 == N - 1) = false := by simp [z]
                            have z2 : decide (O1 = N - 1) = false := by simp [z]
                            have z3 : (O1 != N - 1) = true := by simp [z]
                            rw [z2] at hq
                            obtain rfl : q = true := hq
                            go_wp2_with (first
  | ((with_reducible refine to_alloc 23 rfl ?_); refine Wl_alloc hS (fun _ => by rfl) _ arZ ?_; clear hS; intro bs wW hS; simp only [Act.put, List.setIfInBounds_toArray, List.set_cons_zero, List.set_cons_succ])
  | ((with_reducible refine to_load 23 rfl ?_); refine Wl_load hS (fun _ => by rfl) _ _ rfl _ Try.underlying23 rfl ?_; (repeat (first | (refine Row.here ⟨arI.trans rfl, ?_⟩) | refine Row.next ?_)); (with_reducible show wpList _ _ _ _ _ _); simp only [Act.put, List.setIfInBounds_toArray, List.set_cons_zero, List.set_cons_succ])
  | ((with_reducible refine to_store 23 rfl ?_); refine Wl_store hS (fun _ => by rfl) _ _ _ rfl rfl (arI.trans rfl) (st_one _ _) ?_; (repeat (first | refine Turn.here rfl ?_ | refine Turn.next ?_)); clear hS; intro wW hS; try simp only [Act.put, List.setIfInBounds_toArray, List.set_cons_zero, List.set_cons_succ])
  | ((with_reducible first | refine to_load 3 rfl ?_ | refine to_load 4 rfl ?_ | refine to_load 24 rfl ?_); refine Wl_load1 hS (fun _ => by rfl) _ _ rfl (scT _ rfl) ?_; (repeat (first | refine Look.here (of_decide_eq_true rfl) rfl ?_ | refine Look.self rfl ?_ | refine Look.next ?_)); (with_reducible show wpList _ _ _ _ _ _); simp only [Act.put, List.setIfInBounds_toArray, List.set_cons_zero, List.set_cons_succ]))
                            go_meet
                            case rel => exact ⟨rfl, rfl⟩
                      case rest =>
                        obtain ⟨rfl, rfl⟩ := hcut
                        go_wp2_with (first
  | ((with_reducible refine to_alloc 23 rfl ?_); refine Wl_alloc hS (fun _ => by rfl) _ arZ ?_; clear hS; intro bs wW hS; simp only [Act.put, List.setIfInBounds_toArray, List.set_cons_zero, List.set_cons_succ])
  | ((with_reducible refine to_load 23 rfl ?_); refine Wl_load hS (fun _ => by rfl) _ _ rfl _ Try.underlying23 rfl ?_; (repeat (first | (refine Row.here ⟨arI.trans rfl, ?_⟩) | refine Row.next ?_)); (with_reducible show wpList _ _ _ _ _ _); simp only [Act.put, List.setIfInBounds_toArray, List.set_cons_zero, List.set_cons_succ])
  | ((with_reducible refine to_store 23 rfl ?_); refine Wl_store hS (fun _ => by rfl) _ _ _ rfl rfl (arI.trans rfl) (st_one _ _) ?_; (repeat (first | refine Turn.here rfl ?_ | refine Turn.next ?_)); clear hS; intro wW hS; try simp only [Act.put, List.setIfInBounds_toArray, List.set_cons_zero, List.set_cons_succ])
  | ((with_reducible first | refine to_load 3 rfl ?_ | refine to_load 4 rfl ?_ | refine to_load 24 rfl ?_); refine Wl_load1 hS (fun _ => by rfl) _ _ rfl (scT _ rfl) ?_; (repeat (first | refine Look.here (of_decide_eq_true rfl) rfl ?_ | refine Look.self rfl ?_ | refine Look.next ?_)); (with_reducible show wpList _ _ _ _ _ _); simp only [Act.put, List.setIfInBounds_toArray, List.set_cons_zero, List.set_cons_succ]))
                        go_roundg (B.length - (j + 1))
                        case measure => omega
                        case rel => exact ⟨j + 1, O1, rfl, by simp, by omega, HF1.out.1, HF1.out.2, (hS.sub (by repeat (first | exact List.Sublist.refl _ | exact List.nil_sublist _ | apply List.Sublist.cons_cons | apply List.Sublist.cons)))⟩
        · have k3' : ¬ ((j : Int) < (B.length : Int)) := by omega
          go_wp2_with fail
          go_returns
          exact ⟨rfl, hS.below⟩
    · have k2' : (100 : Int) < (B.length : Int) := by omega
      go_enter Try.func5, Try.ntmps5
      go_wp2_with fail
      refine (awake27_any _).mono ?_
      rintro e w1 ⟨rfl, hb⟩
      replace hS := hS.call hb
      clear hb
      go_wp2_with fail
      go_returns
      exact ⟨rfl, hS.below⟩
  · have k1' : (100 : Int) < (n : Int) := by omega
    go_enter Try.func5, Try.ntmps5
    go_wp2_with fail
    refine (awake27_any _).mono ?_
    rintro e w1 ⟨rfl, hb⟩
    replace hS := hS.call hb
    clear hb
    go_wp2_with fail
    go_returns
    exact ⟨rfl, hS.below⟩
end Go.Proofs.Ytmoafjgogbcoeaa
