/- sio.Pending with its closures, sio.Vector, sio.Ack, each by its contract. -/
import Derived.Test.YtlpoldnidojgmaaSioWrite
namespace Go.Proofs.Ytlpoldnidojgmaa
open Go.RowKit
set_option linter.unusedVariables false
set_option linter.unusedSimpArgs false
set_option maxRecDepth 100000
theorem and24_tab : ∀ n : Fin 256, (bits .and .u8 (n.val : Int) 24 != 0) = (M.is n.val 3 || M.is n.val 4) := by decide +kernel
set_option maxHeartbeats 4000000 in
theorem came_any (k : Nat) (hk : k < 2) (B : Nat) (x : M.Cn) (h1 : 0 ≤ x.w1 ∧ x.w1 ≤ 255) (X : M.Cn) (hX : M.right x = X) (w : World) (hr : w.rangeAt B (17 * k) x.a.toList) (hf : Free w B (17 * k) 17) (hB : B < w.heap.size) :
    Calls Try.prog 46 #[.int .i64 k, .pointer (some ⟨B, 0, none⟩)] w fun e w' => e = .returned (.bool (M.came X)) ∧ w'.rangeAt B (17 * k) X.a.toList ∧ Touch B (17 * k) 17 w w' := by
  have hS : St B (17 * k) 17 w [⟨B, 17 * k, true, x.a⟩] w := St.handed hr hf hB
  clear hr hf hB
  have hw : X.w1 = x.w1 := by subst hX; rfl
  have ht : (bits .and .u8 X.w1 24 != 0) = (M.is X.w1 3 || M.is X.w1 4) := by
    rw [hw]
    obtain ⟨n, hn⟩ := M.fin_of h1.1 h1.2
    rw [hn]
    exact and24_tab n
  have HX := Lib.hid hX
  clear hX hw
  unfold M.came
  generalize (M.is X.w1 3 || M.is X.w1 4) = t at ht ⊢
  by_cases hn : 0 < X.n
  · have d : decide (0 < X.n) = true := decide_eq_true hn
    rw [d]
    rcases (show k = 0 ∨ k = 1 by omega) with rfl | rfl
    · go_enter Try.func46, Try.ntmps46
      go_wp2_with fail
      refine (channel_in 0 (by omega) _ (.inl rfl) _ x _ (hS.chan (.head _)).1 (hS.chan (.head _)).2.1 (hS.chan (.head _)).2.2).mono ?_
      rintro e w1 ⟨rfl, hr, ht⟩
      replace hS := hS.callT (.head _ _ _ _ _) hr ht rfl
      clear hr ht
      rw [HX.out] at hS
      go_wp2_with (first
  | ((with_reducible first | refine to_load 3 rfl ?_ | refine to_load 4 rfl ?_ | refine to_load 5 rfl ?_); refine Wl_load1 hS (fun _ => by rfl) _ _ rfl (scT _ rfl) ?_; (repeat (first | refine Look.here (of_decide_eq_true rfl) rfl ?_ | refine Look.next ?_)); (with_reducible show wpList _ _ _ _ _ _); simp only [Act.put, List.setIfInBounds_toArray, List.set_cons_zero, List.set_cons_succ])
  | ((with_reducible first | refine to_store 3 rfl ?_ | refine to_store 4 rfl ?_ | refine to_store 5 rfl ?_); (first | refine Wl_store1 hS (fun _ => by rfl) _ _ (.int _ _) rfl rfl (scT _ rfl) rfl rfl ?_ | refine Wl_store1 hS (fun _ => by rfl) _ _ (.bool _) rfl rfl (scT _ rfl) rfl rfl ?_); (repeat (first | refine Turn1.here (of_decide_eq_true rfl) (of_decide_eq_true rfl) ?_ | refine Turn1.next ?_)); clear hS; intro wW hS; (try simp only [Act.put, List.setIfInBounds_toArray, List.set_cons_zero, List.set_cons_succ]); try simp only [Nat.sub_zero, Nat.reduceSub, cn_ss] at hS))
      go_returns
      exact ⟨rfl, hS.done rfl⟩
    · go_enter Try.func46, Try.ntmps46
      go_wp2_with fail
      refine (channel_in 1 (by omega) _ (.inl rfl) _ x _ (hS.chan (.head _)).1 (hS.chan (.head _)).2.1 (hS.chan (.head _)).2.2).mono ?_
      rintro e w1 ⟨rfl, hr, ht⟩
      replace hS := hS.callT (.head _ _ _ _ _) hr ht rfl
      clear hr ht
      rw [HX.out] at hS
      go_wp2_with (first
  | ((with_reducible first | refine to_load 3 rfl ?_ | refine to_load 4 rfl ?_ | refine to_load 5 rfl ?_); refine Wl_load1 hS (fun _ => by rfl) _ _ rfl (scT _ rfl) ?_; (repeat (first | refine Look.here (of_decide_eq_true rfl) rfl ?_ | refine Look.next ?_)); (with_reducible show wpList _ _ _ _ _ _); simp only [Act.put, List.setIfInBounds_toArray, List.set_cons_zero, List.set_cons_succ])
  | ((with_reducible first | refine to_store 3 rfl ?_ | refine to_store 4 rfl ?_ | refine to_store 5 rfl ?_); (first | refine Wl_store1 hS (fun _ => by rfl) _ _ (.int _ _) rfl rfl (scT _ rfl) rfl rfl ?_ | refine Wl_store1 hS (fun _ => by rfl) _ _ (.bool _) rfl rfl (scT _ rfl) rfl rfl ?_); (repeat (first | refine Turn1.here (of_decide_eq_true rfl) (of_decide_eq_true rfl) ?_ | refine Turn1.next ?_)); clear hS; intro wW hS; (try simp only [Act.put, List.setIfInBounds_toArray, List.set_cons_zero, List.set_cons_succ]); try simp only [Nat.sub_zero, Nat.reduceSub, cn_ss] at hS))
      go_returns
      exact ⟨rfl, hS.done rfl⟩
  · have d : decide (0 < X.n) = false := decide_eq_false hn
    rw [d]
    rcases (show k = 0 ∨ k = 1 by omega) with rfl | rfl
    · go_enter Try.func46, Try.ntmps46
      go_wp2_with fail
      refine (channel_in 0 (by omega) _ (.inl rfl) _ x _ (hS.chan (.head _)).1 (hS.chan (.head _)).2.1 (hS.chan (.head _)).2.2).mono ?_
      rintro e w1 ⟨rfl, hr, ht⟩
      replace hS := hS.callT (.head _ _ _ _ _) hr ht rfl
      clear hr ht
      rw [HX.out] at hS
      go_wp2_with (first
  | ((with_reducible first | refine to_load 3 rfl ?_ | refine to_load 4 rfl ?_ | refine to_load 5 rfl ?_); refine Wl_load1 hS (fun _ => by rfl) _ _ rfl (scT _ rfl) ?_; (repeat (first | refine Look.here (of_decide_eq_true rfl) rfl ?_ | refine Look.next ?_)); (with_reducible show wpList _ _ _ _ _ _); simp only [Act.put, List.setIfInBounds_toArray, List.set_cons_zero, List.set_cons_succ])
  | ((with_reducible first | refine to_store 3 rfl ?_ | refine to_store 4 rfl ?_ | refine to_store 5 rfl ?_); (first | refine Wl_store1 hS (fun _ => by rfl) _ _ (.int _ _) rfl rfl (scT _ rfl) rfl rfl ?_ | refine Wl_store1 hS (fun _ => by rfl) _ _ (.bool _) rfl rfl (scT _ rfl) rfl rfl ?_); (repeat (first | refine Turn1.here (of_decide_eq_true rfl) (of_decide_eq_true rfl) ?_ | refine Turn1.next ?_)); clear hS; intro wW hS; (try simp only [Act.put, List.setIfInBounds_toArray, List.set_cons_zero, List.set_cons_succ]); try simp only [Nat.sub_zero, Nat.reduceSub, cn_ss] at hS))
      go_returns
      exact ⟨rfl, hS.done rfl⟩
    · go_enter Try.func46, Try.ntmps46
      go_wp2_with fail
      refine (channel_in 1 (by omega) _ (.inl rfl) _ x _ (hS.chan (.head _)).1 (hS.chan (.head _)).2.1 (hS.chan (.head _)).2.2).mono ?_
      rintro e w1 ⟨rfl, hr, ht⟩
      replace hS := hS.callT (.head _ _ _ _ _) hr ht rfl
      clear hr ht
      rw [HX.out] at hS
      go_wp2_with (first
  | ((with_reducible first | refine to_load 3 rfl ?_ | refine to_load 4 rfl ?_ | refine to_load 5 rfl ?_); refine Wl_load1 hS (fun _ => by rfl) _ _ rfl (scT _ rfl) ?_; (repeat (first | refine Look.here (of_decide_eq_true rfl) rfl ?_ | refine Look.next ?_)); (with_reducible show wpList _ _ _ _ _ _); simp only [Act.put, List.setIfInBounds_toArray, List.set_cons_zero, List.set_cons_succ])
  | ((with_reducible first | refine to_store 3 rfl ?_ | refine to_store 4 rfl ?_ | refine to_store 5 rfl ?_); (first | refine Wl_store1 hS (fun _ => by rfl) _ _ (.int _ _) rfl rfl (scT _ rfl) rfl rfl ?_ | refine Wl_store1 hS (fun _ => by rfl) _ _ (.bool _) rfl rfl (scT _ rfl) rfl rfl ?_); (repeat (first | refine Turn1.here (of_decide_eq_true rfl) (of_decide_eq_true rfl) ?_ | refine Turn1.next ?_)); clear hS; intro wW hS; (try simp only [Act.put, List.setIfInBounds_toArray, List.set_cons_zero, List.set_cons_succ]); try simp only [Nat.sub_zero, Nat.reduceSub, cn_ss] at hS))
      go_returns
      exact ⟨rfl, hS.done rfl⟩
theorem gone_any (k : Nat) (hk : k < 2) (B : Nat) (x : M.Cn) (w : World) (hr : w.rangeAt B (17 * k) x.a.toList) (hf : Free w B (17 * k) 17) (hB : B < w.heap.size) :
    Calls Try.prog 47 #[.int .i64 k, .pointer (some ⟨B, 0, none⟩)] w fun e w' => e = .returned (.bool x.gone) ∧ w = w' := by
  have hS : St B (17 * k) 17 w [⟨B, 17 * k, true, x.a⟩] w := St.handed hr hf hB
  clear hr hf hB
  rcases (show k = 0 ∨ k = 1 by omega) with rfl | rfl
  all_goals
    go_enter Try.func47, Try.ntmps47
    go_wp2_with (first
  | ((with_reducible first | refine to_load 3 rfl ?_ | refine to_load 4 rfl ?_ | refine to_load 5 rfl ?_); refine Wl_load1 hS (fun _ => by rfl) _ _ rfl (scT _ rfl) ?_; (repeat (first | refine Look.here (of_decide_eq_true rfl) rfl ?_ | refine Look.next ?_)); (with_reducible show wpList _ _ _ _ _ _); simp only [Act.put, List.setIfInBounds_toArray, List.set_cons_zero, List.set_cons_succ])
  | ((with_reducible first | refine to_store 3 rfl ?_ | refine to_store 4 rfl ?_ | refine to_store 5 rfl ?_); (first | refine Wl_store1 hS (fun _ => by rfl) _ _ (.int _ _) rfl rfl (scT _ rfl) rfl rfl ?_ | refine Wl_store1 hS (fun _ => by rfl) _ _ (.bool _) rfl rfl (scT _ rfl) rfl rfl ?_); (repeat (first | refine Turn1.here (of_decide_eq_true rfl) (of_decide_eq_true rfl) ?_ | refine Turn1.next ?_)); clear hS; intro wW hS; (try simp only [Act.put, List.setIfInBounds_toArray, List.set_cons_zero, List.set_cons_succ]); try simp only [Nat.sub_zero, Nat.reduceSub, cn_ss] at hS))
    go_returns
    exact ⟨rfl, rfl⟩
theorem index87 (f g : Value) (k : Nat) (hk : k < 4) (w : World) : (Instr.index 87 (.agg #[f, g, f, g]) (.int .i64 (k : Int))).run Try.prog w = .ok (if k % 2 = 0 then f else g) w := by
  have hu : (underlying 87).run Try.prog w = .ok (.array 4 86) w := run_underlying Try.underlying87 w
  have hs : (sizeOf 86).run Try.prog w = .ok 1 w := by
    have h1 : (Try.prog.info? 86).map (·.size) = some 1 := by kernel_rfl
    cases hq : Try.prog.info? 86 with
    | none => simp [hq] at h1
    | some i => simp [hq] at h1; simp [sizeOf, typeInfo, hq, h1]
  have ha : (isAgg 86).run Try.prog w = .ok false w := by
    have h2 := run_underlying Try.underlying86 w
    simp [isAgg, Sem.run_bind, h2]
  have h0 : (0 : Int) ≤ k ∧ (k : Int) < ((4 : Nat) : Int) := by omega
  rcases (show k = 0 ∨ k = 1 ∨ k = 2 ∨ k = 3 by omega) with rfl | rfl | rfl | rfl
  all_goals
    simp only [Instr.index, asIntOf, Sem.run_bind, Sem.run_pure, Result.andThen_ok, hu, if_pos h0, part, hs, ha, Bool.false_eq_true, if_false, Int.toNat_natCast]
    rfl
def M.pendV (a b c d : Bool) : Int := if a then 0 else if b then 1 else if c then 2 else if d then 3 else -1
set_option maxHeartbeats 8000000 in
theorem spend_walk (s : M.Si) (hs : s.ok) (X Y : M.Cn) (hX : M.right s.c0 = X) (hY : M.right s.c1 = Y) (a b c d : Bool) (ha : M.came X = a) (hb : X.gone = b) (hc : M.came Y = c) (hd : Y.gone = d) (w : World) : Calls Try.prog 22 #[.agg s.a] w fun e w' => e = .returned (.int .i64 (M.pendV a b c d)) ∧ Below w.heap.size w w' := by
  have hS := St.start w.heap.size 0 0 w
  have c0 := fun B W => came_any 0 (by omega) B s.c0 hs.1.w1 X hX W
  have c1 := fun B W => came_any 1 (by omega) B s.c1 hs.2.w1 Y hY W
  have g0 := fun B W => gone_any 0 (by omega) B X W
  have g1 := fun B W => gone_any 1 (by omega) B Y W
  rw [ha] at c0
  rw [hc] at c1
  rw [hb] at g0
  rw [hd] at g1
  have HC0 := Lib.hid c0
  have HC1 := Lib.hid c1
  have HG0 := Lib.hid g0
  have HG1 := Lib.hid g1
  clear c0 c1 g0 g1 ha hb hc hd hX hY
  have i0 := fun f g w => index87 f g 0 (by omega) w
  have i1 := fun f g w => index87 f g 1 (by omega) w
  have i2 := fun f g w => index87 f g 2 (by omega) w
  have i3 := fun f g w => index87 f g 3 (by omega) w
  simp only [Int.cast_ofNat_Int, Nat.zero_mod, if_true, Nat.one_mod, Nat.reduceMod, Nat.succ_ne_self, Nat.one_ne_zero, if_false] at i0 i1 i2 i3
  cases a
  · cases b
    · cases c
      · cases d
        · go_enter Try.func22, Try.ntmps22
          go_wp2_with (first | ((with_reducible refine to_box ?_); refine Wl_box hS (fun _ => by rfl) _ rfl ?_; clear hS; intro b1 wW hS; simp only [Act.put, List.setIfInBounds_toArray, List.set_cons_zero, List.set_cons_succ]; replace hS := hS.split17))
          refine wp_loop_rounds 5 ?_
          rw [rounds_succ]
          go_wp2_with fail
          refine (HC0.out _ _ (hS.chan (.head _)).1 (hS.chan (.head _)).2.1 (hS.chan (.head _)).2.2).mono ?_
          rintro e w1 ⟨rfl, hr, ht⟩
          first
            | replace hS := hS.callT (.head _ _ _ _ _) hr ht rfl
            | replace hS := hS.callT (.tail _ (.head _ _ _ _ _)) hr ht rfl
            | replace hS := hS.callT (.tail _ (.tail _ (.head _ _ _ _ _))) hr ht rfl
            | replace hS := hS.callT (.tail _ (.tail _ (.tail _ (.head _ _ _ _ _)))) hr ht rfl
            | replace hS := hS.callT (.tail _ (.tail _ (.tail _ (.tail _ (.head _ _ _ _ _))))) hr ht rfl
          clear hr ht
          go_wp2_with fail
          rw [rounds_succ]
          go_wp2_with fail
          refine (HG0.out _ _ (hS.chan (.head _)).1 (hS.chan (.head _)).2.1 (hS.chan (.head _)).2.2).mono ?_
          rintro e w1 ⟨rfl, rfl⟩
          go_wp2_with fail
          rw [rounds_succ]
          go_wp2_with fail
          refine (HC1.out _ _ (hS.chan (.tail _ (.head _))).1 (hS.chan (.tail _ (.head _))).2.1 (hS.chan (.tail _ (.head _))).2.2).mono ?_
          rintro e w1 ⟨rfl, hr, ht⟩
          first
            | replace hS := hS.callT (.head _ _ _ _ _) hr ht rfl
            | replace hS := hS.callT (.tail _ (.head _ _ _ _ _)) hr ht rfl
            | replace hS := hS.callT (.tail _ (.tail _ (.head _ _ _ _ _))) hr ht rfl
            | replace hS := hS.callT (.tail _ (.tail _ (.tail _ (.head _ _ _ _ _)))) hr ht rfl
            | replace hS := hS.callT (.tail _ (.tail _ (.tail _ (.tail _ (.head _ _ _ _ _))))) hr ht rfl
          clear hr ht
          go_wp2_with fail
          rw [rounds_succ]
          go_wp2_with fail
          refine (HG1.out _ _ (hS.chan (.tail _ (.head _))).1 (hS.chan (.tail _ (.head _))).2.1 (hS.chan (.tail _ (.head _))).2.2).mono ?_
          rintro e w1 ⟨rfl, rfl⟩
          go_wp2_with fail
          rw [rounds_succ]
          go_wp2_with fail
          go_returns
          exact ⟨rfl, hS.below⟩
        · go_enter Try.func22, Try.ntmps22
          go_wp2_with (first | ((with_reducible refine to_box ?_); refine Wl_box hS (fun _ => by rfl) _ rfl ?_; clear hS; intro b1 wW hS; simp only [Act.put, List.setIfInBounds_toArray, List.set_cons_zero, List.set_cons_succ]; replace hS := hS.split17))
          refine wp_loop_rounds 5 ?_
          rw [rounds_succ]
          go_wp2_with fail
          refine (HC0.out _ _ (hS.chan (.head _)).1 (hS.chan (.head _)).2.1 (hS.chan (.head _)).2.2).mono ?_
          rintro e w1 ⟨rfl, hr, ht⟩
          first
            | replace hS := hS.callT (.head _ _ _ _ _) hr ht rfl
            | replace hS := hS.callT (.tail _ (.head _ _ _ _ _)) hr ht rfl
            | replace hS := hS.callT (.tail _ (.tail _ (.head _ _ _ _ _))) hr ht rfl
            | replace hS := hS.callT (.tail _ (.tail _ (.tail _ (.head _ _ _ _ _)))) hr ht rfl
            | replace hS := hS.callT (.tail _ (.tail _ (.tail _ (.tail _ (.head _ _ _ _ _))))) hr ht rfl
          clear hr ht
          go_wp2_with fail
          rw [rounds_succ]
          go_wp2_with fail
          refine (HG0.out _ _ (hS.chan (.head _)).1 (hS.chan (.head _)).2.1 (hS.chan (.head _)).2.2).mono ?_
          rintro e w1 ⟨rfl, rfl⟩
          go_wp2_with fail
          rw [rounds_succ]
          go_wp2_with fail
          refine (HC1.out _ _ (hS.chan (.tail _ (.head _))).1 (hS.chan (.tail _ (.head _))).2.1 (hS.chan (.tail _ (.head _))).2.2).mono ?_
          rintro e w1 ⟨rfl, hr, ht⟩
          first
            | replace hS := hS.callT (.head _ _ _ _ _) hr ht rfl
            | replace hS := hS.callT (.tail _ (.head _ _ _ _ _)) hr ht rfl
            | replace hS := hS.callT (.tail _ (.tail _ (.head _ _ _ _ _))) hr ht rfl
            | replace hS := hS.callT (.tail _ (.tail _ (.tail _ (.head _ _ _ _ _)))) hr ht rfl
            | replace hS := hS.callT (.tail _ (.tail _ (.tail _ (.tail _ (.head _ _ _ _ _))))) hr ht rfl
          clear hr ht
          go_wp2_with fail
          rw [rounds_succ]
          go_wp2_with fail
          refine (HG1.out _ _ (hS.chan (.tail _ (.head _))).1 (hS.chan (.tail _ (.head _))).2.1 (hS.chan (.tail _ (.head _))).2.2).mono ?_
          rintro e w1 ⟨rfl, rfl⟩
          go_wp2_with fail
          go_returns
          exact ⟨rfl, hS.below⟩
      · go_enter Try.func22, Try.ntmps22
        go_wp2_with (first | ((with_reducible refine to_box ?_); refine Wl_box hS (fun _ => by rfl) _ rfl ?_; clear hS; intro b1 wW hS; simp only [Act.put, List.setIfInBounds_toArray, List.set_cons_zero, List.set_cons_succ]; replace hS := hS.split17))
        refine wp_loop_rounds 5 ?_
        rw [rounds_succ]
        go_wp2_with fail
        refine (HC0.out _ _ (hS.chan (.head _)).1 (hS.chan (.head _)).2.1 (hS.chan (.head _)).2.2).mono ?_
        rintro e w1 ⟨rfl, hr, ht⟩
        first
          | replace hS := hS.callT (.head _ _ _ _ _) hr ht rfl
          | replace hS := hS.callT (.tail _ (.head _ _ _ _ _)) hr ht rfl
          | replace hS := hS.callT (.tail _ (.tail _ (.head _ _ _ _ _))) hr ht rfl
          | replace hS := hS.callT (.tail _ (.tail _ (.tail _ (.head _ _ _ _ _)))) hr ht rfl
          | replace hS := hS.callT (.tail _ (.tail _ (.tail _ (.tail _ (.head _ _ _ _ _))))) hr ht rfl
        clear hr ht
        go_wp2_with fail
        rw [rounds_succ]
        go_wp2_with fail
        refine (HG0.out _ _ (hS.chan (.head _)).1 (hS.chan (.head _)).2.1 (hS.chan (.head _)).2.2).mono ?_
        rintro e w1 ⟨rfl, rfl⟩
        go_wp2_with fail
        rw [rounds_succ]
        go_wp2_with fail
        refine (HC1.out _ _ (hS.chan (.tail _ (.head _))).1 (hS.chan (.tail _ (.head _))).2.1 (hS.chan (.tail _ (.head _))).2.2).mono ?_
        rintro e w1 ⟨rfl, hr, ht⟩
        first
          | replace hS := hS.callT (.head _ _ _ _ _) hr ht rfl
          | replace hS := hS.callT (.tail _ (.head _ _ _ _ _)) hr ht rfl
          | replace hS := hS.callT (.tail _ (.tail _ (.head _ _ _ _ _))) hr ht rfl
          | replace hS := hS.callT (.tail _ (.tail _ (.tail _ (.head _ _ _ _ _)))) hr ht rfl
          | replace hS := hS.callT (.tail _ (.tail _ (.tail _ (.tail _ (.head _ _ _ _ _))))) hr ht rfl
        clear hr ht
        go_wp2_with fail
        go_returns
        exact ⟨rfl, hS.below⟩
    · go_enter Try.func22, Try.ntmps22
      go_wp2_with (first | ((with_reducible refine to_box ?_); refine Wl_box hS (fun _ => by rfl) _ rfl ?_; clear hS; intro b1 wW hS; simp only [Act.put, List.setIfInBounds_toArray, List.set_cons_zero, List.set_cons_succ]; replace hS := hS.split17))
      refine wp_loop_rounds 5 ?_
      rw [rounds_succ]
      go_wp2_with fail
      refine (HC0.out _ _ (hS.chan (.head _)).1 (hS.chan (.head _)).2.1 (hS.chan (.head _)).2.2).mono ?_
      rintro e w1 ⟨rfl, hr, ht⟩
      first
        | replace hS := hS.callT (.head _ _ _ _ _) hr ht rfl
        | replace hS := hS.callT (.tail _ (.head _ _ _ _ _)) hr ht rfl
        | replace hS := hS.callT (.tail _ (.tail _ (.head _ _ _ _ _))) hr ht rfl
        | replace hS := hS.callT (.tail _ (.tail _ (.tail _ (.head _ _ _ _ _)))) hr ht rfl
        | replace hS := hS.callT (.tail _ (.tail _ (.tail _ (.tail _ (.head _ _ _ _ _))))) hr ht rfl
      clear hr ht
      go_wp2_with fail
      rw [rounds_succ]
      go_wp2_with fail
      refine (HG0.out _ _ (hS.chan (.head _)).1 (hS.chan (.head _)).2.1 (hS.chan (.head _)).2.2).mono ?_
      rintro e w1 ⟨rfl, rfl⟩
      go_wp2_with fail
      go_returns
      exact ⟨rfl, hS.below⟩
  · go_enter Try.func22, Try.ntmps22
    go_wp2_with (first | ((with_reducible refine to_box ?_); refine Wl_box hS (fun _ => by rfl) _ rfl ?_; clear hS; intro b1 wW hS; simp only [Act.put, List.setIfInBounds_toArray, List.set_cons_zero, List.set_cons_succ]; replace hS := hS.split17))
    refine wp_loop_rounds 5 ?_
    rw [rounds_succ]
    go_wp2_with fail
    refine (HC0.out _ _ (hS.chan (.head _)).1 (hS.chan (.head _)).2.1 (hS.chan (.head _)).2.2).mono ?_
    rintro e w1 ⟨rfl, hr, ht⟩
    first
      | replace hS := hS.callT (.head _ _ _ _ _) hr ht rfl
      | replace hS := hS.callT (.tail _ (.head _ _ _ _ _)) hr ht rfl
      | replace hS := hS.callT (.tail _ (.tail _ (.head _ _ _ _ _))) hr ht rfl
      | replace hS := hS.callT (.tail _ (.tail _ (.tail _ (.head _ _ _ _ _)))) hr ht rfl
      | replace hS := hS.callT (.tail _ (.tail _ (.tail _ (.tail _ (.head _ _ _ _ _))))) hr ht rfl
    clear hr ht
    go_wp2_with fail
    go_returns
    exact ⟨rfl, hS.below⟩
theorem spend_any (s : M.Si) (hs : s.ok) (w : World) : Calls Try.prog 22 #[.agg s.a] w fun e w' => e = .returned (.int .i64 (M.sPend s)) ∧ Below w.heap.size w w' := spend_walk s hs _ _ rfl rfl _ _ _ _ rfl rfl rfl rfl w
end Go.Proofs.Ytlpoldnidojgmaa
