/- The reference's Pending (charabancref25) by its contract. -/
import Derived.Test.YtlpoldnidojgmaaSioRef1
import Derived.Test.YtlpoldnidojgmaaSioPend
import Derived.Test.YtlpoldnidojgmaaSioRead
namespace Go.Proofs.Ytlpoldnidojgmaa
open Go.RowKit
set_option linter.unusedVariables false
set_option linter.unusedSimpArgs false
set_option maxRecDepth 100000
theorem M.came_cases (n : Int) (a b : Bool) : (decide (0 < n) = false ∧ (decide (0 < n) && (a || b)) = false) ∨ (decide (0 < n) = true ∧ (decide (0 < n) && (a || b)) = true ∧ a = true) ∨ (decide (0 < n) = true ∧ (decide (0 < n) && (a || b)) = true ∧ a = false ∧ b = true) ∨ (decide (0 < n) = true ∧ (decide (0 < n) && (a || b)) = false ∧ a = false ∧ b = false) := by
  cases decide (0 < n) <;> cases a <;> cases b <;> decide
set_option maxHeartbeats 32000000 in
theorem rpend_walk (s : M.Si) (hs : s.ok) (X Y : M.Cn) (hX : M.right s.c0 = X) (hY : M.right s.c1 = Y) (a3 a4 b3' b4 : Bool) (ha : M.is X.w1 3 = a3) (ha' : M.is X.w1 4 = a4) (hb : M.is Y.w1 3 = b3') (hb' : M.is Y.w1 4 = b4) (g h : Bool) (hg : X.gone = g) (hh : Y.gone = h) (w : World) : Calls Try.prog 23 #[.agg s.a] w fun e w' => e = .returned (.int .i64 (M.pendV (decide (0 < X.n) && (a3 || a4)) g (decide (0 < Y.n) && (b3' || b4)) h)) ∧ Below w.heap.size w w' := by
  have hS := St.start w.heap.size 0 0 w
  have hx : X.ok := by rw [← hX]; exact M.right_ok hs.1
  have hy : Y.ok := by rw [← hY]; exact M.right_ok hs.2
  clear hs
  obtain ⟨c0, c1⟩ := s
  have q0 := fun W => rright_any c0 W
  rw [show M.right c0 = X from hX] at q0
  have q1 := fun W => rright_any c1 W
  rw [show M.right c1 = Y from hY] at q1
  have i3 := fun W => has_any X hx 1 (by omega) 3 W
  rw [show X.wget 1 = X.w1 from rfl, ha] at i3
  have i4 := fun W => has_any X hx 1 (by omega) 4 W
  rw [show X.wget 1 = X.w1 from rfl, ha'] at i4
  have j3 := fun W => has_any Y hy 1 (by omega) 3 W
  rw [show Y.wget 1 = Y.w1 from rfl, hb] at j3
  have j4 := fun W => has_any Y hy 1 (by omega) 4 W
  rw [show Y.wget 1 = Y.w1 from rfl, hb'] at j4
  have HX := Lib.hid q0
  have HY := Lib.hid q1
  have HX3 := Lib.hid i3
  have HX4 := Lib.hid i4
  have HY3 := Lib.hid j3
  have HY4 := Lib.hid j4
  clear q0 q1 i3 i4 j3 j4 ha ha' hb hb' hX hY hx hy
  obtain ⟨x0, x1, x2, x3, x4, x5, x6, x7, xpt, xf0, xf1, xf2, xn, xover, xtx, xfull, xgone⟩ := X
  obtain ⟨y0, y1, y2, y3, y4, y5, y6, y7, ypt, yf0, yf1, yf2, yn, yover, ytx, yfull, ygone⟩ := Y
  simp only at hg hh
  subst hg hh
  have hc := M.came_cases xn a3 a4
  have hd := M.came_cases yn b3' b4
  rcases hc with ⟨c1', c2⟩ | ⟨c1', c2, c3⟩ | ⟨c1', c2, c3, c4⟩ | ⟨c1', c2, c3, c4⟩
  · rw [c2]
    clear c2
    cases xgone
    · rcases hd with ⟨d1, d2⟩ | ⟨d1, d2, d3⟩ | ⟨d1, d2, d3, d4⟩ | ⟨d1, d2, d3, d4⟩
      · dsimp only
        rw [d2]
        clear d2
        cases ygone
        all_goals
          go_enter Try.func23, Try.ntmps23
          go_wp2_with (first
  | ((with_reducible refine to_boxT 35 rfl ?_); refine Wl_box hS (fun _ => by rfl) _ rfl ?_; clear hS; intro b3 wW hS; simp only [Act.put, List.setIfInBounds_toArray, List.set_cons_zero, List.set_cons_succ]; replace hS := hS.split17))
          refine wp_loop_rounds 3 ?_
          rw [rounds_succ]
          go_wp2_with (first
  | ((with_reducible refine to_load 32 rfl ?_); refine Wl_load hS (fun _ => by rfl) _ _ rfl _ Try.underlying32 rfl ?_; (repeat (first | (refine Row.here ⟨rcnI.trans rfl, ?_⟩) | refine Row.next ?_)); (with_reducible show wpList _ _ _ _ _ _); simp only [Act.put, List.setIfInBounds_toArray, List.set_cons_zero, List.set_cons_succ]))
          refine (HX.out _).mono ?_
          rintro e w1 ⟨rfl, hb⟩
          replace hS := hS.call hb
          clear hb
          go_wp2_with (first
  | ((with_reducible refine to_alloc 32 rfl ?_); refine Wl_alloc hS (fun _ => by rfl) _ rcnZ ?_; clear hS; intro b7 wW hS; simp only [Act.put, List.setIfInBounds_toArray, List.set_cons_zero, List.set_cons_succ])
  | ((with_reducible refine to_load 32 rfl ?_); refine Wl_load hS (fun _ => by rfl) _ _ rfl _ Try.underlying32 rfl ?_; (repeat (first | (refine Row.here ⟨rcnI.trans rfl, ?_⟩) | refine Row.next ?_)); (with_reducible show wpList _ _ _ _ _ _); simp only [Act.put, List.setIfInBounds_toArray, List.set_cons_zero, List.set_cons_succ])
  | ((with_reducible refine to_store 32 rfl ?_); refine Wl_store hS (fun _ => by rfl) _ _ _ rfl rfl (rcnI.trans rfl) (cn_one _) ?_; (repeat (first | refine Turn.here rfl ?_ | refine Turn.next ?_)); clear hS; intro wW hS; try simp only [Act.put, List.setIfInBounds_toArray, List.set_cons_zero, List.set_cons_succ]))
          refine (HX3.out _).mono ?_
          rintro e w1 ⟨rfl, hb⟩
          replace hS := hS.call hb
          clear hb
          go_wp2_with (first
  | ((with_reducible refine to_load 32 rfl ?_); refine Wl_load hS (fun _ => by rfl) _ _ rfl _ Try.underlying32 rfl ?_; (repeat (first | (refine Row.here ⟨rcnI.trans rfl, ?_⟩) | refine Row.next ?_)); (with_reducible show wpList _ _ _ _ _ _); simp only [Act.put, List.setIfInBounds_toArray, List.set_cons_zero, List.set_cons_succ]))
          refine (HX4.out _).mono ?_
          rintro e w1 ⟨rfl, hb⟩
          replace hS := hS.call hb
          clear hb
          go_wp2_with (first
  | ((with_reducible first | refine to_load 3 rfl ?_ | refine to_load 4 rfl ?_ | refine to_load 5 rfl ?_); refine Wl_load1 hS (fun _ => by rfl) _ _ rfl (scT _ rfl) ?_; (repeat (first | refine Look.here (of_decide_eq_true rfl) rfl ?_ | refine Look.next ?_)); (with_reducible show wpList _ _ _ _ _ _); simp only [Act.put, List.setIfInBounds_toArray, List.set_cons_zero, List.set_cons_succ])
  | ((with_reducible first | refine to_store 3 rfl ?_ | refine to_store 4 rfl ?_ | refine to_store 5 rfl ?_); (first | refine Wl_store1 hS (fun _ => by rfl) _ _ (.int _ _) rfl rfl (scT _ rfl) rfl rfl ?_ | refine Wl_store1 hS (fun _ => by rfl) _ _ (.bool _) rfl rfl (scT _ rfl) rfl rfl ?_); (repeat (first | refine Turn1.here (of_decide_eq_true rfl) (of_decide_eq_true rfl) ?_ | refine Turn1.next ?_)); clear hS; intro wW hS; (try simp only [Act.put, List.setIfInBounds_toArray, List.set_cons_zero, List.set_cons_succ]); try simp only [Nat.sub_zero, Nat.reduceSub, cn_ss] at hS))
          rw [rounds_succ]
          go_wp2_with (first
  | ((with_reducible refine to_load 32 rfl ?_); refine Wl_load hS (fun _ => by rfl) _ _ rfl _ Try.underlying32 rfl ?_; (repeat (first | (refine Row.here ⟨rcnI.trans rfl, ?_⟩) | refine Row.next ?_)); (with_reducible show wpList _ _ _ _ _ _); simp only [Act.put, List.setIfInBounds_toArray, List.set_cons_zero, List.set_cons_succ]))
          refine (HY.out _).mono ?_
          rintro e w1 ⟨rfl, hb⟩
          replace hS := hS.call hb
          clear hb
          go_wp2_with (first
  | ((with_reducible refine to_alloc 32 rfl ?_); refine Wl_alloc hS (fun _ => by rfl) _ rcnZ ?_; clear hS; intro b7 wW hS; simp only [Act.put, List.setIfInBounds_toArray, List.set_cons_zero, List.set_cons_succ])
  | ((with_reducible refine to_load 32 rfl ?_); refine Wl_load hS (fun _ => by rfl) _ _ rfl _ Try.underlying32 rfl ?_; (repeat (first | (refine Row.here ⟨rcnI.trans rfl, ?_⟩) | refine Row.next ?_)); (with_reducible show wpList _ _ _ _ _ _); simp only [Act.put, List.setIfInBounds_toArray, List.set_cons_zero, List.set_cons_succ])
  | ((with_reducible refine to_store 32 rfl ?_); refine Wl_store hS (fun _ => by rfl) _ _ _ rfl rfl (rcnI.trans rfl) (cn_one _) ?_; (repeat (first | refine Turn.here rfl ?_ | refine Turn.next ?_)); clear hS; intro wW hS; try simp only [Act.put, List.setIfInBounds_toArray, List.set_cons_zero, List.set_cons_succ]))
          refine (HY3.out _).mono ?_
          rintro e w1 ⟨rfl, hb⟩
          replace hS := hS.call hb
          clear hb
          go_wp2_with (first
  | ((with_reducible refine to_load 32 rfl ?_); refine Wl_load hS (fun _ => by rfl) _ _ rfl _ Try.underlying32 rfl ?_; (repeat (first | (refine Row.here ⟨rcnI.trans rfl, ?_⟩) | refine Row.next ?_)); (with_reducible show wpList _ _ _ _ _ _); simp only [Act.put, List.setIfInBounds_toArray, List.set_cons_zero, List.set_cons_succ]))
          refine (HY4.out _).mono ?_
          rintro e w1 ⟨rfl, hb⟩
          replace hS := hS.call hb
          clear hb
          go_wp2_with (first
  | ((with_reducible first | refine to_load 3 rfl ?_ | refine to_load 4 rfl ?_ | refine to_load 5 rfl ?_); refine Wl_load1 hS (fun _ => by rfl) _ _ rfl (scT _ rfl) ?_; (repeat (first | refine Look.here (of_decide_eq_true rfl) rfl ?_ | refine Look.next ?_)); (with_reducible show wpList _ _ _ _ _ _); simp only [Act.put, List.setIfInBounds_toArray, List.set_cons_zero, List.set_cons_succ])
  | ((with_reducible first | refine to_store 3 rfl ?_ | refine to_store 4 rfl ?_ | refine to_store 5 rfl ?_); (first | refine Wl_store1 hS (fun _ => by rfl) _ _ (.int _ _) rfl rfl (scT _ rfl) rfl rfl ?_ | refine Wl_store1 hS (fun _ => by rfl) _ _ (.bool _) rfl rfl (scT _ rfl) rfl rfl ?_); (repeat (first | refine Turn1.here (of_decide_eq_true rfl) (of_decide_eq_true rfl) ?_ | refine Turn1.next ?_)); clear hS; intro wW hS; (try simp only [Act.put, List.setIfInBounds_toArray, List.set_cons_zero, List.set_cons_succ]); try simp only [Nat.sub_zero, Nat.reduceSub, cn_ss] at hS))
          try rw [rounds_succ]
          go_wp2_with fail
          go_returns
          exact ⟨rfl, hS.below⟩
      · dsimp only
        rw [d2]
        clear d2
        subst d3
        go_enter Try.func23, Try.ntmps23
        go_wp2_with (first
  | ((with_reducible refine to_boxT 35 rfl ?_); refine Wl_box hS (fun _ => by rfl) _ rfl ?_; clear hS; intro b3 wW hS; simp only [Act.put, List.setIfInBounds_toArray, List.set_cons_zero, List.set_cons_succ]; replace hS := hS.split17))
        refine wp_loop_rounds 3 ?_
        rw [rounds_succ]
        go_wp2_with (first
  | ((with_reducible refine to_load 32 rfl ?_); refine Wl_load hS (fun _ => by rfl) _ _ rfl _ Try.underlying32 rfl ?_; (repeat (first | (refine Row.here ⟨rcnI.trans rfl, ?_⟩) | refine Row.next ?_)); (with_reducible show wpList _ _ _ _ _ _); simp only [Act.put, List.setIfInBounds_toArray, List.set_cons_zero, List.set_cons_succ]))
        refine (HX.out _).mono ?_
        rintro e w1 ⟨rfl, hb⟩
        replace hS := hS.call hb
        clear hb
        go_wp2_with (first
  | ((with_reducible refine to_alloc 32 rfl ?_); refine Wl_alloc hS (fun _ => by rfl) _ rcnZ ?_; clear hS; intro b7 wW hS; simp only [Act.put, List.setIfInBounds_toArray, List.set_cons_zero, List.set_cons_succ])
  | ((with_reducible refine to_load 32 rfl ?_); refine Wl_load hS (fun _ => by rfl) _ _ rfl _ Try.underlying32 rfl ?_; (repeat (first | (refine Row.here ⟨rcnI.trans rfl, ?_⟩) | refine Row.next ?_)); (with_reducible show wpList _ _ _ _ _ _); simp only [Act.put, List.setIfInBounds_toArray, List.set_cons_zero, List.set_cons_succ])
  | ((with_reducible refine to_store 32 rfl ?_); refine Wl_store hS (fun _ => by rfl) _ _ _ rfl rfl (rcnI.trans rfl) (cn_one _) ?_; (repeat (first | refine Turn.here rfl ?_ | refine Turn.next ?_)); clear hS; intro wW hS; try simp only [Act.put, List.setIfInBounds_toArray, List.set_cons_zero, List.set_cons_succ]))
        refine (HX3.out _).mono ?_
        rintro e w1 ⟨rfl, hb⟩
        replace hS := hS.call hb
        clear hb
        go_wp2_with (first
  | ((with_reducible refine to_load 32 rfl ?_); refine Wl_load hS (fun _ => by rfl) _ _ rfl _ Try.underlying32 rfl ?_; (repeat (first | (refine Row.here ⟨rcnI.trans rfl, ?_⟩) | refine Row.next ?_)); (with_reducible show wpList _ _ _ _ _ _); simp only [Act.put, List.setIfInBounds_toArray, List.set_cons_zero, List.set_cons_succ]))
        refine (HX4.out _).mono ?_
        rintro e w1 ⟨rfl, hb⟩
        replace hS := hS.call hb
        clear hb
        go_wp2_with (first
  | ((with_reducible first | refine to_load 3 rfl ?_ | refine to_load 4 rfl ?_ | refine to_load 5 rfl ?_); refine Wl_load1 hS (fun _ => by rfl) _ _ rfl (scT _ rfl) ?_; (repeat (first | refine Look.here (of_decide_eq_true rfl) rfl ?_ | refine Look.next ?_)); (with_reducible show wpList _ _ _ _ _ _); simp only [Act.put, List.setIfInBounds_toArray, List.set_cons_zero, List.set_cons_succ])
  | ((with_reducible first | refine to_store 3 rfl ?_ | refine to_store 4 rfl ?_ | refine to_store 5 rfl ?_); (first | refine Wl_store1 hS (fun _ => by rfl) _ _ (.int _ _) rfl rfl (scT _ rfl) rfl rfl ?_ | refine Wl_store1 hS (fun _ => by rfl) _ _ (.bool _) rfl rfl (scT _ rfl) rfl rfl ?_); (repeat (first | refine Turn1.here (of_decide_eq_true rfl) (of_decide_eq_true rfl) ?_ | refine Turn1.next ?_)); clear hS; intro wW hS; (try simp only [Act.put, List.setIfInBounds_toArray, List.set_cons_zero, List.set_cons_succ]); try simp only [Nat.sub_zero, Nat.reduceSub, cn_ss] at hS))
        rw [rounds_succ]
        go_wp2_with (first
  | ((with_reducible refine to_load 32 rfl ?_); refine Wl_load hS (fun _ => by rfl) _ _ rfl _ Try.underlying32 rfl ?_; (repeat (first | (refine Row.here ⟨rcnI.trans rfl, ?_⟩) | refine Row.next ?_)); (with_reducible show wpList _ _ _ _ _ _); simp only [Act.put, List.setIfInBounds_toArray, List.set_cons_zero, List.set_cons_succ]))
        refine (HY.out _).mono ?_
        rintro e w1 ⟨rfl, hb⟩
        replace hS := hS.call hb
        clear hb
        go_wp2_with (first
  | ((with_reducible refine to_alloc 32 rfl ?_); refine Wl_alloc hS (fun _ => by rfl) _ rcnZ ?_; clear hS; intro b7 wW hS; simp only [Act.put, List.setIfInBounds_toArray, List.set_cons_zero, List.set_cons_succ])
  | ((with_reducible refine to_load 32 rfl ?_); refine Wl_load hS (fun _ => by rfl) _ _ rfl _ Try.underlying32 rfl ?_; (repeat (first | (refine Row.here ⟨rcnI.trans rfl, ?_⟩) | refine Row.next ?_)); (with_reducible show wpList _ _ _ _ _ _); simp only [Act.put, List.setIfInBounds_toArray, List.set_cons_zero, List.set_cons_succ])
  | ((with_reducible refine to_store 32 rfl ?_); refine Wl_store hS (fun _ => by rfl) _ _ _ rfl rfl (rcnI.trans rfl) (cn_one _) ?_; (repeat (first | refine Turn.here rfl ?_ | refine Turn.next ?_)); clear hS; intro wW hS; try simp only [Act.put, List.setIfInBounds_toArray, List.set_cons_zero, List.set_cons_succ]))
        refine (HY3.out _).mono ?_
        rintro e w1 ⟨rfl, hb⟩
        replace hS := hS.call hb
        clear hb
        go_wp2_with (first
  | ((with_reducible refine to_load 32 rfl ?_); refine Wl_load hS (fun _ => by rfl) _ _ rfl _ Try.underlying32 rfl ?_; (repeat (first | (refine Row.here ⟨rcnI.trans rfl, ?_⟩) | refine Row.next ?_)); (with_reducible show wpList _ _ _ _ _ _); simp only [Act.put, List.setIfInBounds_toArray, List.set_cons_zero, List.set_cons_succ]))
        refine (HY4.out _).mono ?_
        rintro e w1 ⟨rfl, hb⟩
        replace hS := hS.call hb
        clear hb
        go_wp2_with (first
  | ((with_reducible first | refine to_load 3 rfl ?_ | refine to_load 4 rfl ?_ | refine to_load 5 rfl ?_); refine Wl_load1 hS (fun _ => by rfl) _ _ rfl (scT _ rfl) ?_; (repeat (first | refine Look.here (of_decide_eq_true rfl) rfl ?_ | refine Look.next ?_)); (with_reducible show wpList _ _ _ _ _ _); simp only [Act.put, List.setIfInBounds_toArray, List.set_cons_zero, List.set_cons_succ])
  | ((with_reducible first | refine to_store 3 rfl ?_ | refine to_store 4 rfl ?_ | refine to_store 5 rfl ?_); (first | refine Wl_store1 hS (fun _ => by rfl) _ _ (.int _ _) rfl rfl (scT _ rfl) rfl rfl ?_ | refine Wl_store1 hS (fun _ => by rfl) _ _ (.bool _) rfl rfl (scT _ rfl) rfl rfl ?_); (repeat (first | refine Turn1.here (of_decide_eq_true rfl) (of_decide_eq_true rfl) ?_ | refine Turn1.next ?_)); clear hS; intro wW hS; (try simp only [Act.put, List.setIfInBounds_toArray, List.set_cons_zero, List.set_cons_succ]); try simp only [Nat.sub_zero, Nat.reduceSub, cn_ss] at hS))
        go_returns
        exact ⟨rfl, hS.below⟩
      · dsimp only
        rw [d2]
        clear d2
        subst d3 d4
        go_enter Try.func23, Try.ntmps23
        go_wp2_with (first
  | ((with_reducible refine to_boxT 35 rfl ?_); refine Wl_box hS (fun _ => by rfl) _ rfl ?_; clear hS; intro b3 wW hS; simp only [Act.put, List.setIfInBounds_toArray, List.set_cons_zero, List.set_cons_succ]; replace hS := hS.split17))
        refine wp_loop_rounds 3 ?_
        rw [rounds_succ]
        go_wp2_with (first
  | ((with_reducible refine to_load 32 rfl ?_); refine Wl_load hS (fun _ => by rfl) _ _ rfl _ Try.underlying32 rfl ?_; (repeat (first | (refine Row.here ⟨rcnI.trans rfl, ?_⟩) | refine Row.next ?_)); (with_reducible show wpList _ _ _ _ _ _); simp only [Act.put, List.setIfInBounds_toArray, List.set_cons_zero, List.set_cons_succ]))
        refine (HX.out _).mono ?_
        rintro e w1 ⟨rfl, hb⟩
        replace hS := hS.call hb
        clear hb
        go_wp2_with (first
  | ((with_reducible refine to_alloc 32 rfl ?_); refine Wl_alloc hS (fun _ => by rfl) _ rcnZ ?_; clear hS; intro b7 wW hS; simp only [Act.put, List.setIfInBounds_toArray, List.set_cons_zero, List.set_cons_succ])
  | ((with_reducible refine to_load 32 rfl ?_); refine Wl_load hS (fun _ => by rfl) _ _ rfl _ Try.underlying32 rfl ?_; (repeat (first | (refine Row.here ⟨rcnI.trans rfl, ?_⟩) | refine Row.next ?_)); (with_reducible show wpList _ _ _ _ _ _); simp only [Act.put, List.setIfInBounds_toArray, List.set_cons_zero, List.set_cons_succ])
  | ((with_reducible refine to_store 32 rfl ?_); refine Wl_store hS (fun _ => by rfl) _ _ _ rfl rfl (rcnI.trans rfl) (cn_one _) ?_; (repeat (first | refine Turn.here rfl ?_ | refine Turn.next ?_)); clear hS; intro wW hS; try simp only [Act.put, List.setIfInBounds_toArray, List.set_cons_zero, List.set_cons_succ]))
        refine (HX3.out _).mono ?_
        rintro e w1 ⟨rfl, hb⟩
        replace hS := hS.call hb
        clear hb
        go_wp2_with (first
  | ((with_reducible refine to_load 32 rfl ?_); refine Wl_load hS (fun _ => by rfl) _ _ rfl _ Try.underlying32 rfl ?_; (repeat (first | (refine Row.here ⟨rcnI.trans rfl, ?_⟩) | refine Row.next ?_)); (with_reducible show wpList _ _ _ _ _ _); simp only [Act.put, List.setIfInBounds_toArray, List.set_cons_zero, List.set_cons_succ]))
        refine (HX4.out _).mono ?_
        rintro e w1 ⟨rfl, hb⟩
        replace hS := hS.call hb
        clear hb
        go_wp2_with (first
  | ((with_reducible first | refine to_load 3 rfl ?_ | refine to_load 4 rfl ?_ | refine to_load 5 rfl ?_); refine Wl_load1 hS (fun _ => by rfl) _ _ rfl (scT _ rfl) ?_; (repeat (first | refine Look.here (of_decide_eq_true rfl) rfl ?_ | refine Look.next ?_)); (with_reducible show wpList _ _ _ _ _ _); simp only [Act.put, List.setIfInBounds_toArray, List.set_cons_zero, List.set_cons_succ])
  | ((with_reducible first | refine to_store 3 rfl ?_ | refine to_store 4 rfl ?_ | refine to_store 5 rfl ?_); (first | refine Wl_store1 hS (fun _ => by rfl) _ _ (.int _ _) rfl rfl (scT _ rfl) rfl rfl ?_ | refine Wl_store1 hS (fun _ => by rfl) _ _ (.bool _) rfl rfl (scT _ rfl) rfl rfl ?_); (repeat (first | refine Turn1.here (of_decide_eq_true rfl) (of_decide_eq_true rfl) ?_ | refine Turn1.next ?_)); clear hS; intro wW hS; (try simp only [Act.put, List.setIfInBounds_toArray, List.set_cons_zero, List.set_cons_succ]); try simp only [Nat.sub_zero, Nat.reduceSub, cn_ss] at hS))
        rw [rounds_succ]
        go_wp2_with (first
  | ((with_reducible refine to_load 32 rfl ?_); refine Wl_load hS (fun _ => by rfl) _ _ rfl _ Try.underlying32 rfl ?_; (repeat (first | (refine Row.here ⟨rcnI.trans rfl, ?_⟩) | refine Row.next ?_)); (with_reducible show wpList _ _ _ _ _ _); simp only [Act.put, List.setIfInBounds_toArray, List.set_cons_zero, List.set_cons_succ]))
        refine (HY.out _).mono ?_
        rintro e w1 ⟨rfl, hb⟩
        replace hS := hS.call hb
        clear hb
        go_wp2_with (first
  | ((with_reducible refine to_alloc 32 rfl ?_); refine Wl_alloc hS (fun _ => by rfl) _ rcnZ ?_; clear hS; intro b7 wW hS; simp only [Act.put, List.setIfInBounds_toArray, List.set_cons_zero, List.set_cons_succ])
  | ((with_reducible refine to_load 32 rfl ?_); refine Wl_load hS (fun _ => by rfl) _ _ rfl _ Try.underlying32 rfl ?_; (repeat (first | (refine Row.here ⟨rcnI.trans rfl, ?_⟩) | refine Row.next ?_)); (with_reducible show wpList _ _ _ _ _ _); simp only [Act.put, List.setIfInBounds_toArray, List.set_cons_zero, List.set_cons_succ])
  | ((with_reducible refine to_store 32 rfl ?_); refine Wl_store hS (fun _ => by rfl) _ _ _ rfl rfl (rcnI.trans rfl) (cn_one _) ?_; (repeat (first | refine Turn.here rfl ?_ | refine Turn.next ?_)); clear hS; intro wW hS; try simp only [Act.put, List.setIfInBounds_toArray, List.set_cons_zero, List.set_cons_succ]))
        refine (HY3.out _).mono ?_
        rintro e w1 ⟨rfl, hb⟩
        replace hS := hS.call hb
        clear hb
        go_wp2_with (first
  | ((with_reducible refine to_load 32 rfl ?_); refine Wl_load hS (fun _ => by rfl) _ _ rfl _ Try.underlying32 rfl ?_; (repeat (first | (refine Row.here ⟨rcnI.trans rfl, ?_⟩) | refine Row.next ?_)); (with_reducible show wpList _ _ _ _ _ _); simp only [Act.put, List.setIfInBounds_toArray, List.set_cons_zero, List.set_cons_succ]))
        refine (HY4.out _).mono ?_
        rintro e w1 ⟨rfl, hb⟩
        replace hS := hS.call hb
        clear hb
        go_wp2_with (first
  | ((with_reducible first | refine to_load 3 rfl ?_ | refine to_load 4 rfl ?_ | refine to_load 5 rfl ?_); refine Wl_load1 hS (fun _ => by rfl) _ _ rfl (scT _ rfl) ?_; (repeat (first | refine Look.here (of_decide_eq_true rfl) rfl ?_ | refine Look.next ?_)); (with_reducible show wpList _ _ _ _ _ _); simp only [Act.put, List.setIfInBounds_toArray, List.set_cons_zero, List.set_cons_succ])
  | ((with_reducible first | refine to_store 3 rfl ?_ | refine to_store 4 rfl ?_ | refine to_store 5 rfl ?_); (first | refine Wl_store1 hS (fun _ => by rfl) _ _ (.int _ _) rfl rfl (scT _ rfl) rfl rfl ?_ | refine Wl_store1 hS (fun _ => by rfl) _ _ (.bool _) rfl rfl (scT _ rfl) rfl rfl ?_); (repeat (first | refine Turn1.here (of_decide_eq_true rfl) (of_decide_eq_true rfl) ?_ | refine Turn1.next ?_)); clear hS; intro wW hS; (try simp only [Act.put, List.setIfInBounds_toArray, List.set_cons_zero, List.set_cons_succ]); try simp only [Nat.sub_zero, Nat.reduceSub, cn_ss] at hS))
        go_returns
        exact ⟨rfl, hS.below⟩
      · dsimp only
        rw [d2]
        clear d2
        subst d3 d4
        cases ygone
        all_goals
          go_enter Try.func23, Try.ntmps23
          go_wp2_with (first
  | ((with_reducible refine to_boxT 35 rfl ?_); refine Wl_box hS (fun _ => by rfl) _ rfl ?_; clear hS; intro b3 wW hS; simp only [Act.put, List.setIfInBounds_toArray, List.set_cons_zero, List.set_cons_succ]; replace hS := hS.split17))
          refine wp_loop_rounds 3 ?_
          rw [rounds_succ]
          go_wp2_with (first
  | ((with_reducible refine to_load 32 rfl ?_); refine Wl_load hS (fun _ => by rfl) _ _ rfl _ Try.underlying32 rfl ?_; (repeat (first | (refine Row.here ⟨rcnI.trans rfl, ?_⟩) | refine Row.next ?_)); (with_reducible show wpList _ _ _ _ _ _); simp only [Act.put, List.setIfInBounds_toArray, List.set_cons_zero, List.set_cons_succ]))
          refine (HX.out _).mono ?_
          rintro e w1 ⟨rfl, hb⟩
          replace hS := hS.call hb
          clear hb
          go_wp2_with (first
  | ((with_reducible refine to_alloc 32 rfl ?_); refine Wl_alloc hS (fun _ => by rfl) _ rcnZ ?_; clear hS; intro b7 wW hS; simp only [Act.put, List.setIfInBounds_toArray, List.set_cons_zero, List.set_cons_succ])
  | ((with_reducible refine to_load 32 rfl ?_); refine Wl_load hS (fun _ => by rfl) _ _ rfl _ Try.underlying32 rfl ?_; (repeat (first | (refine Row.here ⟨rcnI.trans rfl, ?_⟩) | refine Row.next ?_)); (with_reducible show wpList _ _ _ _ _ _); simp only [Act.put, List.setIfInBounds_toArray, List.set_cons_zero, List.set_cons_succ])
  | ((with_reducible refine to_store 32 rfl ?_); refine Wl_store hS (fun _ => by rfl) _ _ _ rfl rfl (rcnI.trans rfl) (cn_one _) ?_; (repeat (first | refine Turn.here rfl ?_ | refine Turn.next ?_)); clear hS; intro wW hS; try simp only [Act.put, List.setIfInBounds_toArray, List.set_cons_zero, List.set_cons_succ]))
          refine (HX3.out _).mono ?_
          rintro e w1 ⟨rfl, hb⟩
          replace hS := hS.call hb
          clear hb
          go_wp2_with (first
  | ((with_reducible refine to_load 32 rfl ?_); refine Wl_load hS (fun _ => by rfl) _ _ rfl _ Try.underlying32 rfl ?_; (repeat (first | (refine Row.here ⟨rcnI.trans rfl, ?_⟩) | refine Row.next ?_)); (with_reducible show wpList _ _ _ _ _ _); simp only [Act.put, List.setIfInBounds_toArray, List.set_cons_zero, List.set_cons_succ]))
          refine (HX4.out _).mono ?_
          rintro e w1 ⟨rfl, hb⟩
          replace hS := hS.call hb
          clear hb
          go_wp2_with (first
  | ((with_reducible first | refine to_load 3 rfl ?_ | refine to_load 4 rfl ?_ | refine to_load 5 rfl ?_); refine Wl_load1 hS (fun _ => by rfl) _ _ rfl (scT _ rfl) ?_; (repeat (first | refine Look.here (of_decide_eq_true rfl) rfl ?_ | refine Look.next ?_)); (with_reducible show wpList _ _ _ _ _ _); simp only [Act.put, List.setIfInBounds_toArray, List.set_cons_zero, List.set_cons_succ])
  | ((with_reducible first | refine to_store 3 rfl ?_ | refine to_store 4 rfl ?_ | refine to_store 5 rfl ?_); (first | refine Wl_store1 hS (fun _ => by rfl) _ _ (.int _ _) rfl rfl (scT _ rfl) rfl rfl ?_ | refine Wl_store1 hS (fun _ => by rfl) _ _ (.bool _) rfl rfl (scT _ rfl) rfl rfl ?_); (repeat (first | refine Turn1.here (of_decide_eq_true rfl) (of_decide_eq_true rfl) ?_ | refine Turn1.next ?_)); clear hS; intro wW hS; (try simp only [Act.put, List.setIfInBounds_toArray, List.set_cons_zero, List.set_cons_succ]); try simp only [Nat.sub_zero, Nat.reduceSub, cn_ss] at hS))
          rw [rounds_succ]
          go_wp2_with (first
  | ((with_reducible refine to_load 32 rfl ?_); refine Wl_load hS (fun _ => by rfl) _ _ rfl _ Try.underlying32 rfl ?_; (repeat (first | (refine Row.here ⟨rcnI.trans rfl, ?_⟩) | refine Row.next ?_)); (with_reducible show wpList _ _ _ _ _ _); simp only [Act.put, List.setIfInBounds_toArray, List.set_cons_zero, List.set_cons_succ]))
          refine (HY.out _).mono ?_
          rintro e w1 ⟨rfl, hb⟩
          replace hS := hS.call hb
          clear hb
          go_wp2_with (first
  | ((with_reducible refine to_alloc 32 rfl ?_); refine Wl_alloc hS (fun _ => by rfl) _ rcnZ ?_; clear hS; intro b7 wW hS; simp only [Act.put, List.setIfInBounds_toArray, List.set_cons_zero, List.set_cons_succ])
  | ((with_reducible refine to_load 32 rfl ?_); refine Wl_load hS (fun _ => by rfl) _ _ rfl _ Try.underlying32 rfl ?_; (repeat (first | (refine Row.here ⟨rcnI.trans rfl, ?_⟩) | refine Row.next ?_)); (with_reducible show wpList _ _ _ _ _ _); simp only [Act.put, List.setIfInBounds_toArray, List.set_cons_zero, List.set_cons_succ])
  | ((with_reducible refine to_store 32 rfl ?_); refine Wl_store hS (fun _ => by rfl) _ _ _ rfl rfl (rcnI.trans rfl) (cn_one _) ?_; (repeat (first | refine Turn.here rfl ?_ | refine Turn.next ?_)); clear hS; intro wW hS; try simp only [Act.put, List.setIfInBounds_toArray, List.set_cons_zero, List.set_cons_succ]))
          refine (HY3.out _).mono ?_
          rintro e w1 ⟨rfl, hb⟩
          replace hS := hS.call hb
          clear hb
          go_wp2_with (first
  | ((with_reducible refine to_load 32 rfl ?_); refine Wl_load hS (fun _ => by rfl) _ _ rfl _ Try.underlying32 rfl ?_; (repeat (first | (refine Row.here ⟨rcnI.trans rfl, ?_⟩) | refine Row.next ?_)); (with_reducible show wpList _ _ _ _ _ _); simp only [Act.put, List.setIfInBounds_toArray, List.set_cons_zero, List.set_cons_succ]))
          refine (HY4.out _).mono ?_
          rintro e w1 ⟨rfl, hb⟩
          replace hS := hS.call hb
          clear hb
          go_wp2_with (first
  | ((with_reducible first | refine to_load 3 rfl ?_ | refine to_load 4 rfl ?_ | refine to_load 5 rfl ?_); refine Wl_load1 hS (fun _ => by rfl) _ _ rfl (scT _ rfl) ?_; (repeat (first | refine Look.here (of_decide_eq_true rfl) rfl ?_ | refine Look.next ?_)); (with_reducible show wpList _ _ _ _ _ _); simp only [Act.put, List.setIfInBounds_toArray, List.set_cons_zero, List.set_cons_succ])
  | ((with_reducible first | refine to_store 3 rfl ?_ | refine to_store 4 rfl ?_ | refine to_store 5 rfl ?_); (first | refine Wl_store1 hS (fun _ => by rfl) _ _ (.int _ _) rfl rfl (scT _ rfl) rfl rfl ?_ | refine Wl_store1 hS (fun _ => by rfl) _ _ (.bool _) rfl rfl (scT _ rfl) rfl rfl ?_); (repeat (first | refine Turn1.here (of_decide_eq_true rfl) (of_decide_eq_true rfl) ?_ | refine Turn1.next ?_)); clear hS; intro wW hS; (try simp only [Act.put, List.setIfInBounds_toArray, List.set_cons_zero, List.set_cons_succ]); try simp only [Nat.sub_zero, Nat.reduceSub, cn_ss] at hS))
          try rw [rounds_succ]
          go_wp2_with fail
          go_returns
          exact ⟨rfl, hS.below⟩
    · clear hd
      go_enter Try.func23, Try.ntmps23
      go_wp2_with (first
  | ((with_reducible refine to_boxT 35 rfl ?_); refine Wl_box hS (fun _ => by rfl) _ rfl ?_; clear hS; intro b3 wW hS; simp only [Act.put, List.setIfInBounds_toArray, List.set_cons_zero, List.set_cons_succ]; replace hS := hS.split17))
      refine wp_loop_rounds 3 ?_
      rw [rounds_succ]
      go_wp2_with (first
  | ((with_reducible refine to_load 32 rfl ?_); refine Wl_load hS (fun _ => by rfl) _ _ rfl _ Try.underlying32 rfl ?_; (repeat (first | (refine Row.here ⟨rcnI.trans rfl, ?_⟩) | refine Row.next ?_)); (with_reducible show wpList _ _ _ _ _ _); simp only [Act.put, List.setIfInBounds_toArray, List.set_cons_zero, List.set_cons_succ]))
      refine (HX.out _).mono ?_
      rintro e w1 ⟨rfl, hb⟩
      replace hS := hS.call hb
      clear hb
      go_wp2_with (first
  | ((with_reducible refine to_alloc 32 rfl ?_); refine Wl_alloc hS (fun _ => by rfl) _ rcnZ ?_; clear hS; intro b7 wW hS; simp only [Act.put, List.setIfInBounds_toArray, List.set_cons_zero, List.set_cons_succ])
  | ((with_reducible refine to_load 32 rfl ?_); refine Wl_load hS (fun _ => by rfl) _ _ rfl _ Try.underlying32 rfl ?_; (repeat (first | (refine Row.here ⟨rcnI.trans rfl, ?_⟩) | refine Row.next ?_)); (with_reducible show wpList _ _ _ _ _ _); simp only [Act.put, List.setIfInBounds_toArray, List.set_cons_zero, List.set_cons_succ])
  | ((with_reducible refine to_store 32 rfl ?_); refine Wl_store hS (fun _ => by rfl) _ _ _ rfl rfl (rcnI.trans rfl) (cn_one _) ?_; (repeat (first | refine Turn.here rfl ?_ | refine Turn.next ?_)); clear hS; intro wW hS; try simp only [Act.put, List.setIfInBounds_toArray, List.set_cons_zero, List.set_cons_succ]))
      refine (HX3.out _).mono ?_
      rintro e w1 ⟨rfl, hb⟩
      replace hS := hS.call hb
      clear hb
      go_wp2_with (first
  | ((with_reducible refine to_load 32 rfl ?_); refine Wl_load hS (fun _ => by rfl) _ _ rfl _ Try.underlying32 rfl ?_; (repeat (first | (refine Row.here ⟨rcnI.trans rfl, ?_⟩) | refine Row.next ?_)); (with_reducible show wpList _ _ _ _ _ _); simp only [Act.put, List.setIfInBounds_toArray, List.set_cons_zero, List.set_cons_succ]))
      refine (HX4.out _).mono ?_
      rintro e w1 ⟨rfl, hb⟩
      replace hS := hS.call hb
      clear hb
      go_wp2_with (first
  | ((with_reducible first | refine to_load 3 rfl ?_ | refine to_load 4 rfl ?_ | refine to_load 5 rfl ?_); refine Wl_load1 hS (fun _ => by rfl) _ _ rfl (scT _ rfl) ?_; (repeat (first | refine Look.here (of_decide_eq_true rfl) rfl ?_ | refine Look.next ?_)); (with_reducible show wpList _ _ _ _ _ _); simp only [Act.put, List.setIfInBounds_toArray, List.set_cons_zero, List.set_cons_succ])
  | ((with_reducible first | refine to_store 3 rfl ?_ | refine to_store 4 rfl ?_ | refine to_store 5 rfl ?_); (first | refine Wl_store1 hS (fun _ => by rfl) _ _ (.int _ _) rfl rfl (scT _ rfl) rfl rfl ?_ | refine Wl_store1 hS (fun _ => by rfl) _ _ (.bool _) rfl rfl (scT _ rfl) rfl rfl ?_); (repeat (first | refine Turn1.here (of_decide_eq_true rfl) (of_decide_eq_true rfl) ?_ | refine Turn1.next ?_)); clear hS; intro wW hS; (try simp only [Act.put, List.setIfInBounds_toArray, List.set_cons_zero, List.set_cons_succ]); try simp only [Nat.sub_zero, Nat.reduceSub, cn_ss] at hS))
      go_returns
      exact ⟨rfl, hS.below⟩
  · rw [c2]
    subst c3
    clear c2 hd
    go_enter Try.func23, Try.ntmps23
    go_wp2_with (first
  | ((with_reducible refine to_boxT 35 rfl ?_); refine Wl_box hS (fun _ => by rfl) _ rfl ?_; clear hS; intro b3 wW hS; simp only [Act.put, List.setIfInBounds_toArray, List.set_cons_zero, List.set_cons_succ]; replace hS := hS.split17))
    refine wp_loop_rounds 3 ?_
    rw [rounds_succ]
    go_wp2_with (first
  | ((with_reducible refine to_load 32 rfl ?_); refine Wl_load hS (fun _ => by rfl) _ _ rfl _ Try.underlying32 rfl ?_; (repeat (first | (refine Row.here ⟨rcnI.trans rfl, ?_⟩) | refine Row.next ?_)); (with_reducible show wpList _ _ _ _ _ _); simp only [Act.put, List.setIfInBounds_toArray, List.set_cons_zero, List.set_cons_succ]))
    refine (HX.out _).mono ?_
    rintro e w1 ⟨rfl, hb⟩
    replace hS := hS.call hb
    clear hb
    go_wp2_with (first
  | ((with_reducible refine to_alloc 32 rfl ?_); refine Wl_alloc hS (fun _ => by rfl) _ rcnZ ?_; clear hS; intro b7 wW hS; simp only [Act.put, List.setIfInBounds_toArray, List.set_cons_zero, List.set_cons_succ])
  | ((with_reducible refine to_load 32 rfl ?_); refine Wl_load hS (fun _ => by rfl) _ _ rfl _ Try.underlying32 rfl ?_; (repeat (first | (refine Row.here ⟨rcnI.trans rfl, ?_⟩) | refine Row.next ?_)); (with_reducible show wpList _ _ _ _ _ _); simp only [Act.put, List.setIfInBounds_toArray, List.set_cons_zero, List.set_cons_succ])
  | ((with_reducible refine to_store 32 rfl ?_); refine Wl_store hS (fun _ => by rfl) _ _ _ rfl rfl (rcnI.trans rfl) (cn_one _) ?_; (repeat (first | refine Turn.here rfl ?_ | refine Turn.next ?_)); clear hS; intro wW hS; try simp only [Act.put, List.setIfInBounds_toArray, List.set_cons_zero, List.set_cons_succ]))
    refine (HX3.out _).mono ?_
    rintro e w1 ⟨rfl, hb⟩
    replace hS := hS.call hb
    clear hb
    go_wp2_with (first
  | ((with_reducible refine to_load 32 rfl ?_); refine Wl_load hS (fun _ => by rfl) _ _ rfl _ Try.underlying32 rfl ?_; (repeat (first | (refine Row.here ⟨rcnI.trans rfl, ?_⟩) | refine Row.next ?_)); (with_reducible show wpList _ _ _ _ _ _); simp only [Act.put, List.setIfInBounds_toArray, List.set_cons_zero, List.set_cons_succ]))
    refine (HX4.out _).mono ?_
    rintro e w1 ⟨rfl, hb⟩
    replace hS := hS.call hb
    clear hb
    go_wp2_with (first
  | ((with_reducible first | refine to_load 3 rfl ?_ | refine to_load 4 rfl ?_ | refine to_load 5 rfl ?_); refine Wl_load1 hS (fun _ => by rfl) _ _ rfl (scT _ rfl) ?_; (repeat (first | refine Look.here (of_decide_eq_true rfl) rfl ?_ | refine Look.next ?_)); (with_reducible show wpList _ _ _ _ _ _); simp only [Act.put, List.setIfInBounds_toArray, List.set_cons_zero, List.set_cons_succ])
  | ((with_reducible first | refine to_store 3 rfl ?_ | refine to_store 4 rfl ?_ | refine to_store 5 rfl ?_); (first | refine Wl_store1 hS (fun _ => by rfl) _ _ (.int _ _) rfl rfl (scT _ rfl) rfl rfl ?_ | refine Wl_store1 hS (fun _ => by rfl) _ _ (.bool _) rfl rfl (scT _ rfl) rfl rfl ?_); (repeat (first | refine Turn1.here (of_decide_eq_true rfl) (of_decide_eq_true rfl) ?_ | refine Turn1.next ?_)); clear hS; intro wW hS; (try simp only [Act.put, List.setIfInBounds_toArray, List.set_cons_zero, List.set_cons_succ]); try simp only [Nat.sub_zero, Nat.reduceSub, cn_ss] at hS))
    go_returns
    exact ⟨rfl, hS.below⟩
  · rw [c2]
    subst c3 c4
    clear c2 hd
    go_enter Try.func23, Try.ntmps23
    go_wp2_with (first
  | ((with_reducible refine to_boxT 35 rfl ?_); refine Wl_box hS (fun _ => by rfl) _ rfl ?_; clear hS; intro b3 wW hS; simp only [Act.put, List.setIfInBounds_toArray, List.set_cons_zero, List.set_cons_succ]; replace hS := hS.split17))
    refine wp_loop_rounds 3 ?_
    rw [rounds_succ]
    go_wp2_with (first
  | ((with_reducible refine to_load 32 rfl ?_); refine Wl_load hS (fun _ => by rfl) _ _ rfl _ Try.underlying32 rfl ?_; (repeat (first | (refine Row.here ⟨rcnI.trans rfl, ?_⟩) | refine Row.next ?_)); (with_reducible show wpList _ _ _ _ _ _); simp only [Act.put, List.setIfInBounds_toArray, List.set_cons_zero, List.set_cons_succ]))
    refine (HX.out _).mono ?_
    rintro e w1 ⟨rfl, hb⟩
    replace hS := hS.call hb
    clear hb
    go_wp2_with (first
  | ((with_reducible refine to_alloc 32 rfl ?_); refine Wl_alloc hS (fun _ => by rfl) _ rcnZ ?_; clear hS; intro b7 wW hS; simp only [Act.put, List.setIfInBounds_toArray, List.set_cons_zero, List.set_cons_succ])
  | ((with_reducible refine to_load 32 rfl ?_); refine Wl_load hS (fun _ => by rfl) _ _ rfl _ Try.underlying32 rfl ?_; (repeat (first | (refine Row.here ⟨rcnI.trans rfl, ?_⟩) | refine Row.next ?_)); (with_reducible show wpList _ _ _ _ _ _); simp only [Act.put, List.setIfInBounds_toArray, List.set_cons_zero, List.set_cons_succ])
  | ((with_reducible refine to_store 32 rfl ?_); refine Wl_store hS (fun _ => by rfl) _ _ _ rfl rfl (rcnI.trans rfl) (cn_one _) ?_; (repeat (first | refine Turn.here rfl ?_ | refine Turn.next ?_)); clear hS; intro wW hS; try simp only [Act.put, List.setIfInBounds_toArray, List.set_cons_zero, List.set_cons_succ]))
    refine (HX3.out _).mono ?_
    rintro e w1 ⟨rfl, hb⟩
    replace hS := hS.call hb
    clear hb
    go_wp2_with (first
  | ((with_reducible refine to_load 32 rfl ?_); refine Wl_load hS (fun _ => by rfl) _ _ rfl _ Try.underlying32 rfl ?_; (repeat (first | (refine Row.here ⟨rcnI.trans rfl, ?_⟩) | refine Row.next ?_)); (with_reducible show wpList _ _ _ _ _ _); simp only [Act.put, List.setIfInBounds_toArray, List.set_cons_zero, List.set_cons_succ]))
    refine (HX4.out _).mono ?_
    rintro e w1 ⟨rfl, hb⟩
    replace hS := hS.call hb
    clear hb
    go_wp2_with (first
  | ((with_reducible first | refine to_load 3 rfl ?_ | refine to_load 4 rfl ?_ | refine to_load 5 rfl ?_); refine Wl_load1 hS (fun _ => by rfl) _ _ rfl (scT _ rfl) ?_; (repeat (first | refine Look.here (of_decide_eq_true rfl) rfl ?_ | refine Look.next ?_)); (with_reducible show wpList _ _ _ _ _ _); simp only [Act.put, List.setIfInBounds_toArray, List.set_cons_zero, List.set_cons_succ])
  | ((with_reducible first | refine to_store 3 rfl ?_ | refine to_store 4 rfl ?_ | refine to_store 5 rfl ?_); (first | refine Wl_store1 hS (fun _ => by rfl) _ _ (.int _ _) rfl rfl (scT _ rfl) rfl rfl ?_ | refine Wl_store1 hS (fun _ => by rfl) _ _ (.bool _) rfl rfl (scT _ rfl) rfl rfl ?_); (repeat (first | refine Turn1.here (of_decide_eq_true rfl) (of_decide_eq_true rfl) ?_ | refine Turn1.next ?_)); clear hS; intro wW hS; (try simp only [Act.put, List.setIfInBounds_toArray, List.set_cons_zero, List.set_cons_succ]); try simp only [Nat.sub_zero, Nat.reduceSub, cn_ss] at hS))
    go_returns
    exact ⟨rfl, hS.below⟩
  · rw [c2]
    subst c3 c4
    clear c2
    cases xgone
    · rcases hd with ⟨d1, d2⟩ | ⟨d1, d2, d3⟩ | ⟨d1, d2, d3, d4⟩ | ⟨d1, d2, d3, d4⟩
      · dsimp only
        rw [d2]
        clear d2
        cases ygone
        all_goals
          go_enter Try.func23, Try.ntmps23
          go_wp2_with (first
  | ((with_reducible refine to_boxT 35 rfl ?_); refine Wl_box hS (fun _ => by rfl) _ rfl ?_; clear hS; intro b3 wW hS; simp only [Act.put, List.setIfInBounds_toArray, List.set_cons_zero, List.set_cons_succ]; replace hS := hS.split17))
          refine wp_loop_rounds 3 ?_
          rw [rounds_succ]
          go_wp2_with (first
  | ((with_reducible refine to_load 32 rfl ?_); refine Wl_load hS (fun _ => by rfl) _ _ rfl _ Try.underlying32 rfl ?_; (repeat (first | (refine Row.here ⟨rcnI.trans rfl, ?_⟩) | refine Row.next ?_)); (with_reducible show wpList _ _ _ _ _ _); simp only [Act.put, List.setIfInBounds_toArray, List.set_cons_zero, List.set_cons_succ]))
          refine (HX.out _).mono ?_
          rintro e w1 ⟨rfl, hb⟩
          replace hS := hS.call hb
          clear hb
          go_wp2_with (first
  | ((with_reducible refine to_alloc 32 rfl ?_); refine Wl_alloc hS (fun _ => by rfl) _ rcnZ ?_; clear hS; intro b7 wW hS; simp only [Act.put, List.setIfInBounds_toArray, List.set_cons_zero, List.set_cons_succ])
  | ((with_reducible refine to_load 32 rfl ?_); refine Wl_load hS (fun _ => by rfl) _ _ rfl _ Try.underlying32 rfl ?_; (repeat (first | (refine Row.here ⟨rcnI.trans rfl, ?_⟩) | refine Row.next ?_)); (with_reducible show wpList _ _ _ _ _ _); simp only [Act.put, List.setIfInBounds_toArray, List.set_cons_zero, List.set_cons_succ])
  | ((with_reducible refine to_store 32 rfl ?_); refine Wl_store hS (fun _ => by rfl) _ _ _ rfl rfl (rcnI.trans rfl) (cn_one _) ?_; (repeat (first | refine Turn.here rfl ?_ | refine Turn.next ?_)); clear hS; intro wW hS; try simp only [Act.put, List.setIfInBounds_toArray, List.set_cons_zero, List.set_cons_succ]))
          refine (HX3.out _).mono ?_
          rintro e w1 ⟨rfl, hb⟩
          replace hS := hS.call hb
          clear hb
          go_wp2_with (first
  | ((with_reducible refine to_load 32 rfl ?_); refine Wl_load hS (fun _ => by rfl) _ _ rfl _ Try.underlying32 rfl ?_; (repeat (first | (refine Row.here ⟨rcnI.trans rfl, ?_⟩) | refine Row.next ?_)); (with_reducible show wpList _ _ _ _ _ _); simp only [Act.put, List.setIfInBounds_toArray, List.set_cons_zero, List.set_cons_succ]))
          refine (HX4.out _).mono ?_
          rintro e w1 ⟨rfl, hb⟩
          replace hS := hS.call hb
          clear hb
          go_wp2_with (first
  | ((with_reducible first | refine to_load 3 rfl ?_ | refine to_load 4 rfl ?_ | refine to_load 5 rfl ?_); refine Wl_load1 hS (fun _ => by rfl) _ _ rfl (scT _ rfl) ?_; (repeat (first | refine Look.here (of_decide_eq_true rfl) rfl ?_ | refine Look.next ?_)); (with_reducible show wpList _ _ _ _ _ _); simp only [Act.put, List.setIfInBounds_toArray, List.set_cons_zero, List.set_cons_succ])
  | ((with_reducible first | refine to_store 3 rfl ?_ | refine to_store 4 rfl ?_ | refine to_store 5 rfl ?_); (first | refine Wl_store1 hS (fun _ => by rfl) _ _ (.int _ _) rfl rfl (scT _ rfl) rfl rfl ?_ | refine Wl_store1 hS (fun _ => by rfl) _ _ (.bool _) rfl rfl (scT _ rfl) rfl rfl ?_); (repeat (first | refine Turn1.here (of_decide_eq_true rfl) (of_decide_eq_true rfl) ?_ | refine Turn1.next ?_)); clear hS; intro wW hS; (try simp only [Act.put, List.setIfInBounds_toArray, List.set_cons_zero, List.set_cons_succ]); try simp only [Nat.sub_zero, Nat.reduceSub, cn_ss] at hS))
          rw [rounds_succ]
          go_wp2_with (first
  | ((with_reducible refine to_load 32 rfl ?_); refine Wl_load hS (fun _ => by rfl) _ _ rfl _ Try.underlying32 rfl ?_; (repeat (first | (refine Row.here ⟨rcnI.trans rfl, ?_⟩) | refine Row.next ?_)); (with_reducible show wpList _ _ _ _ _ _); simp only [Act.put, List.setIfInBounds_toArray, List.set_cons_zero, List.set_cons_succ]))
          refine (HY.out _).mono ?_
          rintro e w1 ⟨rfl, hb⟩
          replace hS := hS.call hb
          clear hb
          go_wp2_with (first
  | ((with_reducible refine to_alloc 32 rfl ?_); refine Wl_alloc hS (fun _ => by rfl) _ rcnZ ?_; clear hS; intro b7 wW hS; simp only [Act.put, List.setIfInBounds_toArray, List.set_cons_zero, List.set_cons_succ])
  | ((with_reducible refine to_load 32 rfl ?_); refine Wl_load hS (fun _ => by rfl) _ _ rfl _ Try.underlying32 rfl ?_; (repeat (first | (refine Row.here ⟨rcnI.trans rfl, ?_⟩) | refine Row.next ?_)); (with_reducible show wpList _ _ _ _ _ _); simp only [Act.put, List.setIfInBounds_toArray, List.set_cons_zero, List.set_cons_succ])
  | ((with_reducible refine to_store 32 rfl ?_); refine Wl_store hS (fun _ => by rfl) _ _ _ rfl rfl (rcnI.trans rfl) (cn_one _) ?_; (repeat (first | refine Turn.here rfl ?_ | refine Turn.next ?_)); clear hS; intro wW hS; try simp only [Act.put, List.setIfInBounds_toArray, List.set_cons_zero, List.set_cons_succ]))
          refine (HY3.out _).mono ?_
          rintro e w1 ⟨rfl, hb⟩
          replace hS := hS.call hb
          clear hb
          go_wp2_with (first
  | ((with_reducible refine to_load 32 rfl ?_); refine Wl_load hS (fun _ => by rfl) _ _ rfl _ Try.underlying32 rfl ?_; (repeat (first | (refine Row.here ⟨rcnI.trans rfl, ?_⟩) | refine Row.next ?_)); (with_reducible show wpList _ _ _ _ _ _); simp only [Act.put, List.setIfInBounds_toArray, List.set_cons_zero, List.set_cons_succ]))
          refine (HY4.out _).mono ?_
          rintro e w1 ⟨rfl, hb⟩
          replace hS := hS.call hb
          clear hb
          go_wp2_with (first
  | ((with_reducible first | refine to_load 3 rfl ?_ | refine to_load 4 rfl ?_ | refine to_load 5 rfl ?_); refine Wl_load1 hS (fun _ => by rfl) _ _ rfl (scT _ rfl) ?_; (repeat (first | refine Look.here (of_decide_eq_true rfl) rfl ?_ | refine Look.next ?_)); (with_reducible show wpList _ _ _ _ _ _); simp only [Act.put, List.setIfInBounds_toArray, List.set_cons_zero, List.set_cons_succ])
  | ((with_reducible first | refine to_store 3 rfl ?_ | refine to_store 4 rfl ?_ | refine to_store 5 rfl ?_); (first | refine Wl_store1 hS (fun _ => by rfl) _ _ (.int _ _) rfl rfl (scT _ rfl) rfl rfl ?_ | refine Wl_store1 hS (fun _ => by rfl) _ _ (.bool _) rfl rfl (scT _ rfl) rfl rfl ?_); (repeat (first | refine Turn1.here (of_decide_eq_true rfl) (of_decide_eq_true rfl) ?_ | refine Turn1.next ?_)); clear hS; intro wW hS; (try simp only [Act.put, List.setIfInBounds_toArray, List.set_cons_zero, List.set_cons_succ]); try simp only [Nat.sub_zero, Nat.reduceSub, cn_ss] at hS))
          try rw [rounds_succ]
          go_wp2_with fail
          go_returns
          exact ⟨rfl, hS.below⟩
      · dsimp only
        rw [d2]
        clear d2
        subst d3
        go_enter Try.func23, Try.ntmps23
        go_wp2_with (first
  | ((with_reducible refine to_boxT 35 rfl ?_); refine Wl_box hS (fun _ => by rfl) _ rfl ?_; clear hS; intro b3 wW hS; simp only [Act.put, List.setIfInBounds_toArray, List.set_cons_zero, List.set_cons_succ]; replace hS := hS.split17))
        refine wp_loop_rounds 3 ?_
        rw [rounds_succ]
        go_wp2_with (first
  | ((with_reducible refine to_load 32 rfl ?_); refine Wl_load hS (fun _ => by rfl) _ _ rfl _ Try.underlying32 rfl ?_; (repeat (first | (refine Row.here ⟨rcnI.trans rfl, ?_⟩) | refine Row.next ?_)); (with_reducible show wpList _ _ _ _ _ _); simp only [Act.put, List.setIfInBounds_toArray, List.set_cons_zero, List.set_cons_succ]))
        refine (HX.out _).mono ?_
        rintro e w1 ⟨rfl, hb⟩
        replace hS := hS.call hb
        clear hb
        go_wp2_with (first
  | ((with_reducible refine to_alloc 32 rfl ?_); refine Wl_alloc hS (fun _ => by rfl) _ rcnZ ?_; clear hS; intro b7 wW hS; simp only [Act.put, List.setIfInBounds_toArray, List.set_cons_zero, List.set_cons_succ])
  | ((with_reducible refine to_load 32 rfl ?_); refine Wl_load hS (fun _ => by rfl) _ _ rfl _ Try.underlying32 rfl ?_; (repeat (first | (refine Row.here ⟨rcnI.trans rfl, ?_⟩) | refine Row.next ?_)); (with_reducible show wpList _ _ _ _ _ _); simp only [Act.put, List.setIfInBounds_toArray, List.set_cons_zero, List.set_cons_succ])
  | ((with_reducible refine to_store 32 rfl ?_); refine Wl_store hS (fun _ => by rfl) _ _ _ rfl rfl (rcnI.trans rfl) (cn_one _) ?_; (repeat (first | refine Turn.here rfl ?_ | refine Turn.next ?_)); clear hS; intro wW hS; try simp only [Act.put, List.setIfInBounds_toArray, List.set_cons_zero, List.set_cons_succ]))
        refine (HX3.out _).mono ?_
        rintro e w1 ⟨rfl, hb⟩
        replace hS := hS.call hb
        clear hb
        go_wp2_with (first
  | ((with_reducible refine to_load 32 rfl ?_); refine Wl_load hS (fun _ => by rfl) _ _ rfl _ Try.underlying32 rfl ?_; (repeat (first | (refine Row.here ⟨rcnI.trans rfl, ?_⟩) | refine Row.next ?_)); (with_reducible show wpList _ _ _ _ _ _); simp only [Act.put, List.setIfInBounds_toArray, List.set_cons_zero, List.set_cons_succ]))
        refine (HX4.out _).mono ?_
        rintro e w1 ⟨rfl, hb⟩
        replace hS := hS.call hb
        clear hb
        go_wp2_with (first
  | ((with_reducible first | refine to_load 3 rfl ?_ | refine to_load 4 rfl ?_ | refine to_load 5 rfl ?_); refine Wl_load1 hS (fun _ => by rfl) _ _ rfl (scT _ rfl) ?_; (repeat (first | refine Look.here (of_decide_eq_true rfl) rfl ?_ | refine Look.next ?_)); (with_reducible show wpList _ _ _ _ _ _); simp only [Act.put, List.setIfInBounds_toArray, List.set_cons_zero, List.set_cons_succ])
  | ((with_reducible first | refine to_store 3 rfl ?_ | refine to_store 4 rfl ?_ | refine to_store 5 rfl ?_); (first | refine Wl_store1 hS (fun _ => by rfl) _ _ (.int _ _) rfl rfl (scT _ rfl) rfl rfl ?_ | refine Wl_store1 hS (fun _ => by rfl) _ _ (.bool _) rfl rfl (scT _ rfl) rfl rfl ?_); (repeat (first | refine Turn1.here (of_decide_eq_true rfl) (of_decide_eq_true rfl) ?_ | refine Turn1.next ?_)); clear hS; intro wW hS; (try simp only [Act.put, List.setIfInBounds_toArray, List.set_cons_zero, List.set_cons_succ]); try simp only [Nat.sub_zero, Nat.reduceSub, cn_ss] at hS))
        rw [rounds_succ]
        go_wp2_with (first
  | ((with_reducible refine to_load 32 rfl ?_); refine Wl_load hS (fun _ => by rfl) _ _ rfl _ Try.underlying32 rfl ?_; (repeat (first | (refine Row.here ⟨rcnI.trans rfl, ?_⟩) | refine Row.next ?_)); (with_reducible show wpList _ _ _ _ _ _); simp only [Act.put, List.setIfInBounds_toArray, List.set_cons_zero, List.set_cons_succ]))
        refine (HY.out _).mono ?_
        rintro e w1 ⟨rfl, hb⟩
        replace hS := hS.call hb
        clear hb
        go_wp2_with (first
  | ((with_reducible refine to_alloc 32 rfl ?_); refine Wl_alloc hS (fun _ => by rfl) _ rcnZ ?_; clear hS; intro b7 wW hS; simp only [Act.put, List.setIfInBounds_toArray, List.set_cons_zero, List.set_cons_succ])
  | ((with_reducible refine to_load 32 rfl ?_); refine Wl_load hS (fun _ => by rfl) _ _ rfl _ Try.underlying32 rfl ?_; (repeat (first | (refine Row.here ⟨rcnI.trans rfl, ?_⟩) | refine Row.next ?_)); (with_reducible show wpList _ _ _ _ _ _); simp only [Act.put, List.setIfInBounds_toArray, List.set_cons_zero, List.set_cons_succ])
  | ((with_reducible refine to_store 32 rfl ?_); refine Wl_store hS (fun _ => by rfl) _ _ _ rfl rfl (rcnI.trans rfl) (cn_one _) ?_; (repeat (first | refine Turn.here rfl ?_ | refine Turn.next ?_)); clear hS; intro wW hS; try simp only [Act.put, List.setIfInBounds_toArray, List.set_cons_zero, List.set_cons_succ]))
        refine (HY3.out _).mono ?_
        rintro e w1 ⟨rfl, hb⟩
        replace hS := hS.call hb
        clear hb
        go_wp2_with (first
  | ((with_reducible refine to_load 32 rfl ?_); refine Wl_load hS (fun _ => by rfl) _ _ rfl _ Try.underlying32 rfl ?_; (repeat (first | (refine Row.here ⟨rcnI.trans rfl, ?_⟩) | refine Row.next ?_)); (with_reducible show wpList _ _ _ _ _ _); simp only [Act.put, List.setIfInBounds_toArray, List.set_cons_zero, List.set_cons_succ]))
        refine (HY4.out _).mono ?_
        rintro e w1 ⟨rfl, hb⟩
        replace hS := hS.call hb
        clear hb
        go_wp2_with (first
  | ((with_reducible first | refine to_load 3 rfl ?_ | refine to_load 4 rfl ?_ | refine to_load 5 rfl ?_); refine Wl_load1 hS (fun _ => by rfl) _ _ rfl (scT _ rfl) ?_; (repeat (first | refine Look.here (of_decide_eq_true rfl) rfl ?_ | refine Look.next ?_)); (with_reducible show wpList _ _ _ _ _ _); simp only [Act.put, List.setIfInBounds_toArray, List.set_cons_zero, List.set_cons_succ])
  | ((with_reducible first | refine to_store 3 rfl ?_ | refine to_store 4 rfl ?_ | refine to_store 5 rfl ?_); (first | refine Wl_store1 hS (fun _ => by rfl) _ _ (.int _ _) rfl rfl (scT _ rfl) rfl rfl ?_ | refine Wl_store1 hS (fun _ => by rfl) _ _ (.bool _) rfl rfl (scT _ rfl) rfl rfl ?_); (repeat (first | refine Turn1.here (of_decide_eq_true rfl) (of_decide_eq_true rfl) ?_ | refine Turn1.next ?_)); clear hS; intro wW hS; (try simp only [Act.put, List.setIfInBounds_toArray, List.set_cons_zero, List.set_cons_succ]); try simp only [Nat.sub_zero, Nat.reduceSub, cn_ss] at hS))
        go_returns
        exact ⟨rfl, hS.below⟩
      · dsimp only
        rw [d2]
        clear d2
        subst d3 d4
        go_enter Try.func23, Try.ntmps23
        go_wp2_with (first
  | ((with_reducible refine to_boxT 35 rfl ?_); refine Wl_box hS (fun _ => by rfl) _ rfl ?_; clear hS; intro b3 wW hS; simp only [Act.put, List.setIfInBounds_toArray, List.set_cons_zero, List.set_cons_succ]; replace hS := hS.split17))
        refine wp_loop_rounds 3 ?_
        rw [rounds_succ]
        go_wp2_with (first
  | ((with_reducible refine to_load 32 rfl ?_); refine Wl_load hS (fun _ => by rfl) _ _ rfl _ Try.underlying32 rfl ?_; (repeat (first | (refine Row.here ⟨rcnI.trans rfl, ?_⟩) | refine Row.next ?_)); (with_reducible show wpList _ _ _ _ _ _); simp only [Act.put, List.setIfInBounds_toArray, List.set_cons_zero, List.set_cons_succ]))
        refine (HX.out _).mono ?_
        rintro e w1 ⟨rfl, hb⟩
        replace hS := hS.call hb
        clear hb
        go_wp2_with (first
  | ((with_reducible refine to_alloc 32 rfl ?_); refine Wl_alloc hS (fun _ => by rfl) _ rcnZ ?_; clear hS; intro b7 wW hS; simp only [Act.put, List.setIfInBounds_toArray, List.set_cons_zero, List.set_cons_succ])
  | ((with_reducible refine to_load 32 rfl ?_); refine Wl_load hS (fun _ => by rfl) _ _ rfl _ Try.underlying32 rfl ?_; (repeat (first | (refine Row.here ⟨rcnI.trans rfl, ?_⟩) | refine Row.next ?_)); (with_reducible show wpList _ _ _ _ _ _); simp only [Act.put, List.setIfInBounds_toArray, List.set_cons_zero, List.set_cons_succ])
  | ((with_reducible refine to_store 32 rfl ?_); refine Wl_store hS (fun _ => by rfl) _ _ _ rfl rfl (rcnI.trans rfl) (cn_one _) ?_; (repeat (first | refine Turn.here rfl ?_ | refine Turn.next ?_)); clear hS; intro wW hS; try simp only [Act.put, List.setIfInBounds_toArray, List.set_cons_zero, List.set_cons_succ]))
        refine (HX3.out _).mono ?_
        rintro e w1 ⟨rfl, hb⟩
        replace hS := hS.call hb
        clear hb
        go_wp2_with (first
  | ((with_reducible refine to_load 32 rfl ?_); refine Wl_load hS (fun _ => by rfl) _ _ rfl _ Try.underlying32 rfl ?_; (repeat (first | (refine Row.here ⟨rcnI.trans rfl, ?_⟩) | refine Row.next ?_)); (with_reducible show wpList _ _ _ _ _ _); simp only [Act.put, List.setIfInBounds_toArray, List.set_cons_zero, List.set_cons_succ]))
        refine (HX4.out _).mono ?_
        rintro e w1 ⟨rfl, hb⟩
        replace hS := hS.call hb
        clear hb
        go_wp2_with (first
  | ((with_reducible first | refine to_load 3 rfl ?_ | refine to_load 4 rfl ?_ | refine to_load 5 rfl ?_); refine Wl_load1 hS (fun _ => by rfl) _ _ rfl (scT _ rfl) ?_; (repeat (first | refine Look.here (of_decide_eq_true rfl) rfl ?_ | refine Look.next ?_)); (with_reducible show wpList _ _ _ _ _ _); simp only [Act.put, List.setIfInBounds_toArray, List.set_cons_zero, List.set_cons_succ])
  | ((with_reducible first | refine to_store 3 rfl ?_ | refine to_store 4 rfl ?_ | refine to_store 5 rfl ?_); (first | refine Wl_store1 hS (fun _ => by rfl) _ _ (.int _ _) rfl rfl (scT _ rfl) rfl rfl ?_ | refine Wl_store1 hS (fun _ => by rfl) _ _ (.bool _) rfl rfl (scT _ rfl) rfl rfl ?_); (repeat (first | refine Turn1.here (of_decide_eq_true rfl) (of_decide_eq_true rfl) ?_ | refine Turn1.next ?_)); clear hS; intro wW hS; (try simp only [Act.put, List.setIfInBounds_toArray, List.set_cons_zero, List.set_cons_succ]); try simp only [Nat.sub_zero, Nat.reduceSub, cn_ss] at hS))
        rw [rounds_succ]
        go_wp2_with (first
  | ((with_reducible refine to_load 32 rfl ?_); refine Wl_load hS (fun _ => by rfl) _ _ rfl _ Try.underlying32 rfl ?_; (repeat (first | (refine Row.here ⟨rcnI.trans rfl, ?_⟩) | refine Row.next ?_)); (with_reducible show wpList _ _ _ _ _ _); simp only [Act.put, List.setIfInBounds_toArray, List.set_cons_zero, List.set_cons_succ]))
        refine (HY.out _).mono ?_
        rintro e w1 ⟨rfl, hb⟩
        replace hS := hS.call hb
        clear hb
        go_wp2_with (first
  | ((with_reducible refine to_alloc 32 rfl ?_); refine Wl_alloc hS (fun _ => by rfl) _ rcnZ ?_; clear hS; intro b7 wW hS; simp only [Act.put, List.setIfInBounds_toArray, List.set_cons_zero, List.set_cons_succ])
  | ((with_reducible refine to_load 32 rfl ?_); refine Wl_load hS (fun _ => by rfl) _ _ rfl _ Try.underlying32 rfl ?_; (repeat (first | (refine Row.here ⟨rcnI.trans rfl, ?_⟩) | refine Row.next ?_)); (with_reducible show wpList _ _ _ _ _ _); simp only [Act.put, List.setIfInBounds_toArray, List.set_cons_zero, List.set_cons_succ])
  | ((with_reducible refine to_store 32 rfl ?_); refine Wl_store hS (fun _ => by rfl) _ _ _ rfl rfl (rcnI.trans rfl) (cn_one _) ?_; (repeat (first | refine Turn.here rfl ?_ | refine Turn.next ?_)); clear hS; intro wW hS; try simp only [Act.put, List.setIfInBounds_toArray, List.set_cons_zero, List.set_cons_succ]))
        refine (HY3.out _).mono ?_
        rintro e w1 ⟨rfl, hb⟩
        replace hS := hS.call hb
        clear hb
        go_wp2_with (first
  | ((with_reducible refine to_load 32 rfl ?_); refine Wl_load hS (fun _ => by rfl) _ _ rfl _ Try.underlying32 rfl ?_; (repeat (first | (refine Row.here ⟨rcnI.trans rfl, ?_⟩) | refine Row.next ?_)); (with_reducible show wpList _ _ _ _ _ _); simp only [Act.put, List.setIfInBounds_toArray, List.set_cons_zero, List.set_cons_succ]))
        refine (HY4.out _).mono ?_
        rintro e w1 ⟨rfl, hb⟩
        replace hS := hS.call hb
        clear hb
        go_wp2_with (first
  | ((with_reducible first | refine to_load 3 rfl ?_ | refine to_load 4 rfl ?_ | refine to_load 5 rfl ?_); refine Wl_load1 hS (fun _ => by rfl) _ _ rfl (scT _ rfl) ?_; (repeat (first | refine Look.here (of_decide_eq_true rfl) rfl ?_ | refine Look.next ?_)); (with_reducible show wpList _ _ _ _ _ _); simp only [Act.put, List.setIfInBounds_toArray, List.set_cons_zero, List.set_cons_succ])
  | ((with_reducible first | refine to_store 3 rfl ?_ | refine to_store 4 rfl ?_ | refine to_store 5 rfl ?_); (first | refine Wl_store1 hS (fun _ => by rfl) _ _ (.int _ _) rfl rfl (scT _ rfl) rfl rfl ?_ | refine Wl_store1 hS (fun _ => by rfl) _ _ (.bool _) rfl rfl (scT _ rfl) rfl rfl ?_); (repeat (first | refine Turn1.here (of_decide_eq_true rfl) (of_decide_eq_true rfl) ?_ | refine Turn1.next ?_)); clear hS; intro wW hS; (try simp only [Act.put, List.setIfInBounds_toArray, List.set_cons_zero, List.set_cons_succ]); try simp only [Nat.sub_zero, Nat.reduceSub, cn_ss] at hS))
        go_returns
        exact ⟨rfl, hS.below⟩
      · dsimp only
        rw [d2]
        clear d2
        subst d3 d4
        cases ygone
        all_goals
          go_enter Try.func23, Try.ntmps23
          go_wp2_with (first
  | ((with_reducible refine to_boxT 35 rfl ?_); refine Wl_box hS (fun _ => by rfl) _ rfl ?_; clear hS; intro b3 wW hS; simp only [Act.put, List.setIfInBounds_toArray, List.set_cons_zero, List.set_cons_succ]; replace hS := hS.split17))
          refine wp_loop_rounds 3 ?_
          rw [rounds_succ]
          go_wp2_with (first
  | ((with_reducible refine to_load 32 rfl ?_); refine Wl_load hS (fun _ => by rfl) _ _ rfl _ Try.underlying32 rfl ?_; (repeat (first | (refine Row.here ⟨rcnI.trans rfl, ?_⟩) | refine Row.next ?_)); (with_reducible show wpList _ _ _ _ _ _); simp only [Act.put, List.setIfInBounds_toArray, List.set_cons_zero, List.set_cons_succ]))
          refine (HX.out _).mono ?_
          rintro e w1 ⟨rfl, hb⟩
          replace hS := hS.call hb
          clear hb
          go_wp2_with (first
  | ((with_reducible refine to_alloc 32 rfl ?_); refine Wl_alloc hS (fun _ => by rfl) _ rcnZ ?_; clear hS; intro b7 wW hS; simp only [Act.put, List.setIfInBounds_toArray, List.set_cons_zero, List.set_cons_succ])
  | ((with_reducible refine to_load 32 rfl ?_); refine Wl_load hS (fun _ => by rfl) _ _ rfl _ Try.underlying32 rfl ?_; (repeat (first | (refine Row.here ⟨rcnI.trans rfl, ?_⟩) | refine Row.next ?_)); (with_reducible show wpList _ _ _ _ _ _); simp only [Act.put, List.setIfInBounds_toArray, List.set_cons_zero, List.set_cons_succ])
  | ((with_reducible refine to_store 32 rfl ?_); refine Wl_store hS (fun _ => by rfl) _ _ _ rfl rfl (rcnI.trans rfl) (cn_one _) ?_; (repeat (first | refine Turn.here rfl ?_ | refine Turn.next ?_)); clear hS; intro wW hS; try simp only [Act.put, List.setIfInBounds_toArray, List.set_cons_zero, List.set_cons_succ]))
          refine (HX3.out _).mono ?_
          rintro e w1 ⟨rfl, hb⟩
          replace hS := hS.call hb
          clear hb
          go_wp2_with (first
  | ((with_reducible refine to_load 32 rfl ?_); refine Wl_load hS (fun _ => by rfl) _ _ rfl _ Try.underlying32 rfl ?_; (repeat (first | (refine Row.here ⟨rcnI.trans rfl, ?_⟩) | refine Row.next ?_)); (with_reducible show wpList _ _ _ _ _ _); simp only [Act.put, List.setIfInBounds_toArray, List.set_cons_zero, List.set_cons_succ]))
          refine (HX4.out _).mono ?_
          rintro e w1 ⟨rfl, hb⟩
          replace hS := hS.call hb
          clear hb
          go_wp2_with (first
  | ((with_reducible first | refine to_load 3 rfl ?_ | refine to_load 4 rfl ?_ | refine to_load 5 rfl ?_); refine Wl_load1 hS (fun _ => by rfl) _ _ rfl (scT _ rfl) ?_; (repeat (first | refine Look.here (of_decide_eq_true rfl) rfl ?_ | refine Look.next ?_)); (with_reducible show wpList _ _ _ _ _ _); simp only [Act.put, List.setIfInBounds_toArray, List.set_cons_zero, List.set_cons_succ])
  | ((with_reducible first | refine to_store 3 rfl ?_ | refine to_store 4 rfl ?_ | refine to_store 5 rfl ?_); (first | refine Wl_store1 hS (fun _ => by rfl) _ _ (.int _ _) rfl rfl (scT _ rfl) rfl rfl ?_ | refine Wl_store1 hS (fun _ => by rfl) _ _ (.bool _) rfl rfl (scT _ rfl) rfl rfl ?_); (repeat (first | refine Turn1.here (of_decide_eq_true rfl) (of_decide_eq_true rfl) ?_ | refine Turn1.next ?_)); clear hS; intro wW hS; (try simp only [Act.put, List.setIfInBounds_toArray, List.set_cons_zero, List.set_cons_succ]); try simp only [Nat.sub_zero, Nat.reduceSub, cn_ss] at hS))
          rw [rounds_succ]
          go_wp2_with (first
  | ((with_reducible refine to_load 32 rfl ?_); refine Wl_load hS (fun _ => by rfl) _ _ rfl _ Try.underlying32 rfl ?_; (repeat (first | (refine Row.here ⟨rcnI.trans rfl, ?_⟩) | refine Row.next ?_)); (with_reducible show wpList _ _ _ _ _ _); simp only [Act.put, List.setIfInBounds_toArray, List.set_cons_zero, List.set_cons_succ]))
          refine (HY.out _).mono ?_
          rintro e w1 ⟨rfl, hb⟩
          replace hS := hS.call hb
          clear hb
          go_wp2_with (first
  | ((with_reducible refine to_alloc 32 rfl ?_); refine Wl_alloc hS (fun _ => by rfl) _ rcnZ ?_; clear hS; intro b7 wW hS; simp only [Act.put, List.setIfInBounds_toArray, List.set_cons_zero, List.set_cons_succ])
  | ((with_reducible refine to_load 32 rfl ?_); refine Wl_load hS (fun _ => by rfl) _ _ rfl _ Try.underlying32 rfl ?_; (repeat (first | (refine Row.here ⟨rcnI.trans rfl, ?_⟩) | refine Row.next ?_)); (with_reducible show wpList _ _ _ _ _ _); simp only [Act.put, List.setIfInBounds_toArray, List.set_cons_zero, List.set_cons_succ])
  | ((with_reducible refine to_store 32 rfl ?_); refine Wl_store hS (fun _ => by rfl) _ _ _ rfl rfl (rcnI.trans rfl) (cn_one _) ?_; (repeat (first | refine Turn.here rfl ?_ | refine Turn.next ?_)); clear hS; intro wW hS; try simp only [Act.put, List.setIfInBounds_toArray, List.set_cons_zero, List.set_cons_succ]))
          refine (HY3.out _).mono ?_
          rintro e w1 ⟨rfl, hb⟩
          replace hS := hS.call hb
          clear hb
          go_wp2_with (first
  | ((with_reducible refine to_load 32 rfl ?_); refine Wl_load hS (fun _ => by rfl) _ _ rfl _ Try.underlying32 rfl ?_; (repeat (first | (refine Row.here ⟨rcnI.trans rfl, ?_⟩) | refine Row.next ?_)); (with_reducible show wpList _ _ _ _ _ _); simp only [Act.put, List.setIfInBounds_toArray, List.set_cons_zero, List.set_cons_succ]))
          refine (HY4.out _).mono ?_
          rintro e w1 ⟨rfl, hb⟩
          replace hS := hS.call hb
          clear hb
          go_wp2_with (first
  | ((with_reducible first | refine to_load 3 rfl ?_ | refine to_load 4 rfl ?_ | refine to_load 5 rfl ?_); refine Wl_load1 hS (fun _ => by rfl) _ _ rfl (scT _ rfl) ?_; (repeat (first | refine Look.here (of_decide_eq_true rfl) rfl ?_ | refine Look.next ?_)); (with_reducible show wpList _ _ _ _ _ _); simp only [Act.put, List.setIfInBounds_toArray, List.set_cons_zero, List.set_cons_succ])
  | ((with_reducible first | refine to_store 3 rfl ?_ | refine to_store 4 rfl ?_ | refine to_store 5 rfl ?_); (first | refine Wl_store1 hS (fun _ => by rfl) _ _ (.int _ _) rfl rfl (scT _ rfl) rfl rfl ?_ | refine Wl_store1 hS (fun _ => by rfl) _ _ (.bool _) rfl rfl (scT _ rfl) rfl rfl ?_); (repeat (first | refine Turn1.here (of_decide_eq_true rfl) (of_decide_eq_true rfl) ?_ | refine Turn1.next ?_)); clear hS; intro wW hS; (try simp only [Act.put, List.setIfInBounds_toArray, List.set_cons_zero, List.set_cons_succ]); try simp only [Nat.sub_zero, Nat.reduceSub, cn_ss] at hS))
          try rw [rounds_succ]
          go_wp2_with fail
          go_returns
          exact ⟨rfl, hS.below⟩
    · clear hd
      go_enter Try.func23, Try.ntmps23
      go_wp2_with (first
  | ((with_reducible refine to_boxT 35 rfl ?_); refine Wl_box hS (fun _ => by rfl) _ rfl ?_; clear hS; intro b3 wW hS; simp only [Act.put, List.setIfInBounds_toArray, List.set_cons_zero, List.set_cons_succ]; replace hS := hS.split17))
      refine wp_loop_rounds 3 ?_
      rw [rounds_succ]
      go_wp2_with (first
  | ((with_reducible refine to_load 32 rfl ?_); refine Wl_load hS (fun _ => by rfl) _ _ rfl _ Try.underlying32 rfl ?_; (repeat (first | (refine Row.here ⟨rcnI.trans rfl, ?_⟩) | refine Row.next ?_)); (with_reducible show wpList _ _ _ _ _ _); simp only [Act.put, List.setIfInBounds_toArray, List.set_cons_zero, List.set_cons_succ]))
      refine (HX.out _).mono ?_
      rintro e w1 ⟨rfl, hb⟩
      replace hS := hS.call hb
      clear hb
      go_wp2_with (first
  | ((with_reducible refine to_alloc 32 rfl ?_); refine Wl_alloc hS (fun _ => by rfl) _ rcnZ ?_; clear hS; intro b7 wW hS; simp only [Act.put, List.setIfInBounds_toArray, List.set_cons_zero, List.set_cons_succ])
  | ((with_reducible refine to_load 32 rfl ?_); refine Wl_load hS (fun _ => by rfl) _ _ rfl _ Try.underlying32 rfl ?_; (repeat (first | (refine Row.here ⟨rcnI.trans rfl, ?_⟩) | refine Row.next ?_)); (with_reducible show wpList _ _ _ _ _ _); simp only [Act.put, List.setIfInBounds_toArray, List.set_cons_zero, List.set_cons_succ])
  | ((with_reducible refine to_store 32 rfl ?_); refine Wl_store hS (fun _ => by rfl) _ _ _ rfl rfl (rcnI.trans rfl) (cn_one _) ?_; (repeat (first | refine Turn.here rfl ?_ | refine Turn.next ?_)); clear hS; intro wW hS; try simp only [Act.put, List.setIfInBounds_toArray, List.set_cons_zero, List.set_cons_succ]))
      refine (HX3.out _).mono ?_
      rintro e w1 ⟨rfl, hb⟩
      replace hS := hS.call hb
      clear hb
      go_wp2_with (first
  | ((with_reducible refine to_load 32 rfl ?_); refine Wl_load hS (fun _ => by rfl) _ _ rfl _ Try.underlying32 rfl ?_; (repeat (first | (refine Row.here ⟨rcnI.trans rfl, ?_⟩) | refine Row.next ?_)); (with_reducible show wpList _ _ _ _ _ _); simp only [Act.put, List.setIfInBounds_toArray, List.set_cons_zero, List.set_cons_succ]))
      refine (HX4.out _).mono ?_
      rintro e w1 ⟨rfl, hb⟩
      replace hS := hS.call hb
      clear hb
      go_wp2_with (first
  | ((with_reducible first | refine to_load 3 rfl ?_ | refine to_load 4 rfl ?_ | refine to_load 5 rfl ?_); refine Wl_load1 hS (fun _ => by rfl) _ _ rfl (scT _ rfl) ?_; (repeat (first | refine Look.here (of_decide_eq_true rfl) rfl ?_ | refine Look.next ?_)); (with_reducible show wpList _ _ _ _ _ _); simp only [Act.put, List.setIfInBounds_toArray, List.set_cons_zero, List.set_cons_succ])
  | ((with_reducible first | refine to_store 3 rfl ?_ | refine to_store 4 rfl ?_ | refine to_store 5 rfl ?_); (first | refine Wl_store1 hS (fun _ => by rfl) _ _ (.int _ _) rfl rfl (scT _ rfl) rfl rfl ?_ | refine Wl_store1 hS (fun _ => by rfl) _ _ (.bool _) rfl rfl (scT _ rfl) rfl rfl ?_); (repeat (first | refine Turn1.here (of_decide_eq_true rfl) (of_decide_eq_true rfl) ?_ | refine Turn1.next ?_)); clear hS; intro wW hS; (try simp only [Act.put, List.setIfInBounds_toArray, List.set_cons_zero, List.set_cons_succ]); try simp only [Nat.sub_zero, Nat.reduceSub, cn_ss] at hS))
      go_returns
      exact ⟨rfl, hS.below⟩
theorem rpend_any (s : M.Si) (hs : s.ok) (w : World) : Calls Try.prog 23 #[.agg s.a] w fun e w' => e = .returned (.int .i64 (M.sPend s)) ∧ Below w.heap.size w w' := rpend_walk s hs _ _ rfl rfl _ _ _ _ rfl rfl rfl rfl _ _ rfl rfl w
end Go.Proofs.Ytlpoldnidojgmaa
