/- The reference's Write (charabancref25) by its contract. -/
import Derived.Test.YtlpoldnidojgmaaSioRef1
namespace Go.Proofs.Ytlpoldnidojgmaa
open Go.RowKit
set_option linter.unusedVariables false
set_option linter.unusedSimpArgs false
set_option maxRecDepth 100000
set_option maxHeartbeats 8000000 in
theorem rwrite_out (s : M.Si) (reg b : Int) (hreg : reg < 0 ∨ 3 < reg) (w : World) : Calls Try.prog 15 #[.agg s.a, .int .i64 reg, .int .u8 b] w fun e w' => e = .returned (.agg s.a) ∧ Below w.heap.size w w' := by
  have hS := St.start w.heap.size 0 0 w
  obtain ⟨c0, c1⟩ := s
  rcases hreg with h | h
  · have d1 : decide (reg < 0) = true := decide_eq_true h
    clear h
    go_enter Try.func15, Try.ntmps15
    go_wp2_with (first
  | ((with_reducible refine to_boxT 35 rfl ?_); refine Wl_box hS (fun _ => by rfl) _ rfl ?_; clear hS; intro b3 wW hS; simp only [Act.put, List.setIfInBounds_toArray, List.set_cons_zero, List.set_cons_succ]; replace hS := hS.split17)
  | ((with_reducible refine to_boxT 32 rfl ?_); refine Wl_box hS (fun _ => by rfl) _ rfl ?_; clear hS; intro b1 wW hS; simp only [Act.put, List.setIfInBounds_toArray, List.set_cons_zero, List.set_cons_succ])
  | ((with_reducible refine to_alloc 35 rfl ?_); refine Wl_alloc hS (fun _ => by rfl) _ rsiZ ?_; clear hS; intro b6 wW hS; simp only [Act.put, List.setIfInBounds_toArray, List.set_cons_zero, List.set_cons_succ])
  | ((with_reducible refine to_alloc 32 rfl ?_); refine Wl_alloc hS (fun _ => by rfl) _ rcnZ ?_; clear hS; intro b7 wW hS; simp only [Act.put, List.setIfInBounds_toArray, List.set_cons_zero, List.set_cons_succ])
  | ((with_reducible refine to_load 35 rfl ?_); refine Wl_load2 hS (fun _ => by rfl) _ rfl _ Try.underlying35 rfl rsiI ?_; (repeat (first | (refine Row2.here ?_) | refine Row2.next ?_)); (with_reducible show wpList _ _ _ _ _ _); simp only [Act.put, List.setIfInBounds_toArray, List.set_cons_zero, List.set_cons_succ])
  | ((with_reducible refine to_load 32 rfl ?_); refine Wl_load hS (fun _ => by rfl) _ _ rfl _ Try.underlying32 rfl ?_; (repeat (first | (refine Row.here ⟨rcnI.trans rfl, ?_⟩) | refine Row.next ?_)); (with_reducible show wpList _ _ _ _ _ _); simp only [Act.put, List.setIfInBounds_toArray, List.set_cons_zero, List.set_cons_succ])
  | ((with_reducible refine to_store 35 rfl ?_); refine Wl_store hS (fun _ => by rfl) _ _ _ rfl rfl (rsiI.trans rfl) (si_one _) ?_; (repeat (first | refine Turn.here rfl ?_ | refine Turn.next ?_)); clear hS; intro wW hS; try simp only [Act.put, List.setIfInBounds_toArray, List.set_cons_zero, List.set_cons_succ])
  | ((with_reducible refine to_store 32 rfl ?_); refine Wl_store hS (fun _ => by rfl) _ _ _ rfl rfl (rcnI.trans rfl) (cn_one _) ?_; (repeat (first | refine Turn.here rfl ?_ | refine Turn.next ?_)); clear hS; intro wW hS; try simp only [Act.put, List.setIfInBounds_toArray, List.set_cons_zero, List.set_cons_succ])
  | ((with_reducible first | refine to_load 3 rfl ?_ | refine to_load 4 rfl ?_ | refine to_load 5 rfl ?_); refine Wl_load1 hS (fun _ => by rfl) _ _ rfl (scT _ rfl) ?_; (repeat (first | refine Look.here (of_decide_eq_true rfl) rfl ?_ | refine Look.next ?_)); (with_reducible show wpList _ _ _ _ _ _); simp only [Act.put, List.setIfInBounds_toArray, List.set_cons_zero, List.set_cons_succ])
  | ((with_reducible first | refine to_store 3 rfl ?_ | refine to_store 4 rfl ?_ | refine to_store 5 rfl ?_); (first | refine Wl_store1 hS (fun _ => by rfl) _ _ (.int _ _) rfl rfl (scT _ rfl) rfl rfl ?_ | refine Wl_store1 hS (fun _ => by rfl) _ _ (.bool _) rfl rfl (scT _ rfl) rfl rfl ?_); (repeat (first | refine Turn1.here (of_decide_eq_true rfl) (of_decide_eq_true rfl) ?_ | refine Turn1.next ?_)); clear hS; intro wW hS; (try simp only [Act.put, List.setIfInBounds_toArray, List.set_cons_zero, List.set_cons_succ]); try simp only [Nat.sub_zero, Nat.reduceSub, cn_ss] at hS))
    refine ret_st hS rfl _ _ rfl rfl _ Try.underlying35 rfl ?_
    repeat (first | (refine Row.here ⟨rsiI.trans rfl, ?_⟩) | refine Row.next ?_)
    exact ⟨rfl, hS.below⟩
  · have d1 : decide (reg < 0) = false := decide_eq_false (by omega)
    have d2 : decide (3 < reg) = true := decide_eq_true h
    clear h
    go_enter Try.func15, Try.ntmps15
    go_wp2_with (first
  | ((with_reducible refine to_boxT 35 rfl ?_); refine Wl_box hS (fun _ => by rfl) _ rfl ?_; clear hS; intro b3 wW hS; simp only [Act.put, List.setIfInBounds_toArray, List.set_cons_zero, List.set_cons_succ]; replace hS := hS.split17)
  | ((with_reducible refine to_boxT 32 rfl ?_); refine Wl_box hS (fun _ => by rfl) _ rfl ?_; clear hS; intro b1 wW hS; simp only [Act.put, List.setIfInBounds_toArray, List.set_cons_zero, List.set_cons_succ])
  | ((with_reducible refine to_alloc 35 rfl ?_); refine Wl_alloc hS (fun _ => by rfl) _ rsiZ ?_; clear hS; intro b6 wW hS; simp only [Act.put, List.setIfInBounds_toArray, List.set_cons_zero, List.set_cons_succ])
  | ((with_reducible refine to_alloc 32 rfl ?_); refine Wl_alloc hS (fun _ => by rfl) _ rcnZ ?_; clear hS; intro b7 wW hS; simp only [Act.put, List.setIfInBounds_toArray, List.set_cons_zero, List.set_cons_succ])
  | ((with_reducible refine to_load 35 rfl ?_); refine Wl_load2 hS (fun _ => by rfl) _ rfl _ Try.underlying35 rfl rsiI ?_; (repeat (first | (refine Row2.here ?_) | refine Row2.next ?_)); (with_reducible show wpList _ _ _ _ _ _); simp only [Act.put, List.setIfInBounds_toArray, List.set_cons_zero, List.set_cons_succ])
  | ((with_reducible refine to_load 32 rfl ?_); refine Wl_load hS (fun _ => by rfl) _ _ rfl _ Try.underlying32 rfl ?_; (repeat (first | (refine Row.here ⟨rcnI.trans rfl, ?_⟩) | refine Row.next ?_)); (with_reducible show wpList _ _ _ _ _ _); simp only [Act.put, List.setIfInBounds_toArray, List.set_cons_zero, List.set_cons_succ])
  | ((with_reducible refine to_store 35 rfl ?_); refine Wl_store hS (fun _ => by rfl) _ _ _ rfl rfl (rsiI.trans rfl) (si_one _) ?_; (repeat (first | refine Turn.here rfl ?_ | refine Turn.next ?_)); clear hS; intro wW hS; try simp only [Act.put, List.setIfInBounds_toArray, List.set_cons_zero, List.set_cons_succ])
  | ((with_reducible refine to_store 32 rfl ?_); refine Wl_store hS (fun _ => by rfl) _ _ _ rfl rfl (rcnI.trans rfl) (cn_one _) ?_; (repeat (first | refine Turn.here rfl ?_ | refine Turn.next ?_)); clear hS; intro wW hS; try simp only [Act.put, List.setIfInBounds_toArray, List.set_cons_zero, List.set_cons_succ])
  | ((with_reducible first | refine to_load 3 rfl ?_ | refine to_load 4 rfl ?_ | refine to_load 5 rfl ?_); refine Wl_load1 hS (fun _ => by rfl) _ _ rfl (scT _ rfl) ?_; (repeat (first | refine Look.here (of_decide_eq_true rfl) rfl ?_ | refine Look.next ?_)); (with_reducible show wpList _ _ _ _ _ _); simp only [Act.put, List.setIfInBounds_toArray, List.set_cons_zero, List.set_cons_succ])
  | ((with_reducible first | refine to_store 3 rfl ?_ | refine to_store 4 rfl ?_ | refine to_store 5 rfl ?_); (first | refine Wl_store1 hS (fun _ => by rfl) _ _ (.int _ _) rfl rfl (scT _ rfl) rfl rfl ?_ | refine Wl_store1 hS (fun _ => by rfl) _ _ (.bool _) rfl rfl (scT _ rfl) rfl rfl ?_); (repeat (first | refine Turn1.here (of_decide_eq_true rfl) (of_decide_eq_true rfl) ?_ | refine Turn1.next ?_)); clear hS; intro wW hS; (try simp only [Act.put, List.setIfInBounds_toArray, List.set_cons_zero, List.set_cons_succ]); try simp only [Nat.sub_zero, Nat.reduceSub, cn_ss] at hS))
    refine ret_st hS rfl _ _ rfl rfl _ Try.underlying35 rfl ?_
    repeat (first | (refine Row.here ⟨rsiI.trans rfl, ?_⟩) | refine Row.next ?_)
    exact ⟨rfl, hS.below⟩
set_option maxHeartbeats 8000000 in
theorem rwrite_tx (s : M.Si) (k : Nat) (hk : k < 2) (reg : Int) (hreg : reg = 2 * k) (b : Int) (X : M.Cn) (hX : M.right (s.at k) = X) (w : World) : Calls Try.prog 15 #[.agg s.a, .int .i64 reg, .int .u8 b] w fun e w' => e = .returned (.agg (s.set (M.sTx X b) k).a) ∧ Below w.heap.size w w' := by
  have hS := St.start w.heap.size 0 0 w
  obtain ⟨c0, c1⟩ := s
  have hC := fun W => rright_any (M.Si.at ⟨c0, c1⟩ k) W
  rw [hX] at hC
  have HC := Lib.hid hC
  clear hX hC
  rcases (show k = 0 ∨ k = 1 by omega) with rfl | rfl
  · obtain rfl : reg = 0 := by omega
    clear hreg
    go_enter Try.func15, Try.ntmps15
    go_wp2_with (first
  | ((with_reducible refine to_boxT 35 rfl ?_); refine Wl_box hS (fun _ => by rfl) _ rfl ?_; clear hS; intro b3 wW hS; simp only [Act.put, List.setIfInBounds_toArray, List.set_cons_zero, List.set_cons_succ]; replace hS := hS.split17)
  | ((with_reducible refine to_boxT 32 rfl ?_); refine Wl_box hS (fun _ => by rfl) _ rfl ?_; clear hS; intro b1 wW hS; simp only [Act.put, List.setIfInBounds_toArray, List.set_cons_zero, List.set_cons_succ])
  | ((with_reducible refine to_alloc 35 rfl ?_); refine Wl_alloc hS (fun _ => by rfl) _ rsiZ ?_; clear hS; intro b6 wW hS; simp only [Act.put, List.setIfInBounds_toArray, List.set_cons_zero, List.set_cons_succ])
  | ((with_reducible refine to_alloc 32 rfl ?_); refine Wl_alloc hS (fun _ => by rfl) _ rcnZ ?_; clear hS; intro b7 wW hS; simp only [Act.put, List.setIfInBounds_toArray, List.set_cons_zero, List.set_cons_succ])
  | ((with_reducible refine to_load 35 rfl ?_); refine Wl_load2 hS (fun _ => by rfl) _ rfl _ Try.underlying35 rfl rsiI ?_; (repeat (first | (refine Row2.here ?_) | refine Row2.next ?_)); (with_reducible show wpList _ _ _ _ _ _); simp only [Act.put, List.setIfInBounds_toArray, List.set_cons_zero, List.set_cons_succ])
  | ((with_reducible refine to_load 32 rfl ?_); refine Wl_load hS (fun _ => by rfl) _ _ rfl _ Try.underlying32 rfl ?_; (repeat (first | (refine Row.here ⟨rcnI.trans rfl, ?_⟩) | refine Row.next ?_)); (with_reducible show wpList _ _ _ _ _ _); simp only [Act.put, List.setIfInBounds_toArray, List.set_cons_zero, List.set_cons_succ])
  | ((with_reducible refine to_store 35 rfl ?_); refine Wl_store hS (fun _ => by rfl) _ _ _ rfl rfl (rsiI.trans rfl) (si_one _) ?_; (repeat (first | refine Turn.here rfl ?_ | refine Turn.next ?_)); clear hS; intro wW hS; try simp only [Act.put, List.setIfInBounds_toArray, List.set_cons_zero, List.set_cons_succ])
  | ((with_reducible refine to_store 32 rfl ?_); refine Wl_store hS (fun _ => by rfl) _ _ _ rfl rfl (rcnI.trans rfl) (cn_one _) ?_; (repeat (first | refine Turn.here rfl ?_ | refine Turn.next ?_)); clear hS; intro wW hS; try simp only [Act.put, List.setIfInBounds_toArray, List.set_cons_zero, List.set_cons_succ])
  | ((with_reducible first | refine to_load 3 rfl ?_ | refine to_load 4 rfl ?_ | refine to_load 5 rfl ?_); refine Wl_load1 hS (fun _ => by rfl) _ _ rfl (scT _ rfl) ?_; (repeat (first | refine Look.here (of_decide_eq_true rfl) rfl ?_ | refine Look.next ?_)); (with_reducible show wpList _ _ _ _ _ _); simp only [Act.put, List.setIfInBounds_toArray, List.set_cons_zero, List.set_cons_succ])
  | ((with_reducible first | refine to_store 3 rfl ?_ | refine to_store 4 rfl ?_ | refine to_store 5 rfl ?_); (first | refine Wl_store1 hS (fun _ => by rfl) _ _ (.int _ _) rfl rfl (scT _ rfl) rfl rfl ?_ | refine Wl_store1 hS (fun _ => by rfl) _ _ (.bool _) rfl rfl (scT _ rfl) rfl rfl ?_); (repeat (first | refine Turn1.here (of_decide_eq_true rfl) (of_decide_eq_true rfl) ?_ | refine Turn1.next ?_)); clear hS; intro wW hS; (try simp only [Act.put, List.setIfInBounds_toArray, List.set_cons_zero, List.set_cons_succ]); try simp only [Nat.sub_zero, Nat.reduceSub, cn_ss] at hS))
    refine (HC.out _).mono ?_
    rintro e w1 ⟨rfl, hb⟩
    replace hS := hS.call hb
    clear hb
    go_wp2_with (first
  | ((with_reducible refine to_boxT 35 rfl ?_); refine Wl_box hS (fun _ => by rfl) _ rfl ?_; clear hS; intro b3 wW hS; simp only [Act.put, List.setIfInBounds_toArray, List.set_cons_zero, List.set_cons_succ]; replace hS := hS.split17)
  | ((with_reducible refine to_boxT 32 rfl ?_); refine Wl_box hS (fun _ => by rfl) _ rfl ?_; clear hS; intro b1 wW hS; simp only [Act.put, List.setIfInBounds_toArray, List.set_cons_zero, List.set_cons_succ])
  | ((with_reducible refine to_alloc 35 rfl ?_); refine Wl_alloc hS (fun _ => by rfl) _ rsiZ ?_; clear hS; intro b6 wW hS; simp only [Act.put, List.setIfInBounds_toArray, List.set_cons_zero, List.set_cons_succ])
  | ((with_reducible refine to_alloc 32 rfl ?_); refine Wl_alloc hS (fun _ => by rfl) _ rcnZ ?_; clear hS; intro b7 wW hS; simp only [Act.put, List.setIfInBounds_toArray, List.set_cons_zero, List.set_cons_succ])
  | ((with_reducible refine to_load 35 rfl ?_); refine Wl_load2 hS (fun _ => by rfl) _ rfl _ Try.underlying35 rfl rsiI ?_; (repeat (first | (refine Row2.here ?_) | refine Row2.next ?_)); (with_reducible show wpList _ _ _ _ _ _); simp only [Act.put, List.setIfInBounds_toArray, List.set_cons_zero, List.set_cons_succ])
  | ((with_reducible refine to_load 32 rfl ?_); refine Wl_load hS (fun _ => by rfl) _ _ rfl _ Try.underlying32 rfl ?_; (repeat (first | (refine Row.here ⟨rcnI.trans rfl, ?_⟩) | refine Row.next ?_)); (with_reducible show wpList _ _ _ _ _ _); simp only [Act.put, List.setIfInBounds_toArray, List.set_cons_zero, List.set_cons_succ])
  | ((with_reducible refine to_store 35 rfl ?_); refine Wl_store hS (fun _ => by rfl) _ _ _ rfl rfl (rsiI.trans rfl) (si_one _) ?_; (repeat (first | refine Turn.here rfl ?_ | refine Turn.next ?_)); clear hS; intro wW hS; try simp only [Act.put, List.setIfInBounds_toArray, List.set_cons_zero, List.set_cons_succ])
  | ((with_reducible refine to_store 32 rfl ?_); refine Wl_store hS (fun _ => by rfl) _ _ _ rfl rfl (rcnI.trans rfl) (cn_one _) ?_; (repeat (first | refine Turn.here rfl ?_ | refine Turn.next ?_)); clear hS; intro wW hS; try simp only [Act.put, List.setIfInBounds_toArray, List.set_cons_zero, List.set_cons_succ])
  | ((with_reducible first | refine to_load 3 rfl ?_ | refine to_load 4 rfl ?_ | refine to_load 5 rfl ?_); refine Wl_load1 hS (fun _ => by rfl) _ _ rfl (scT _ rfl) ?_; (repeat (first | refine Look.here (of_decide_eq_true rfl) rfl ?_ | refine Look.next ?_)); (with_reducible show wpList _ _ _ _ _ _); simp only [Act.put, List.setIfInBounds_toArray, List.set_cons_zero, List.set_cons_succ])
  | ((with_reducible first | refine to_store 3 rfl ?_ | refine to_store 4 rfl ?_ | refine to_store 5 rfl ?_); (first | refine Wl_store1 hS (fun _ => by rfl) _ _ (.int _ _) rfl rfl (scT _ rfl) rfl rfl ?_ | refine Wl_store1 hS (fun _ => by rfl) _ _ (.bool _) rfl rfl (scT _ rfl) rfl rfl ?_); (repeat (first | refine Turn1.here (of_decide_eq_true rfl) (of_decide_eq_true rfl) ?_ | refine Turn1.next ?_)); clear hS; intro wW hS; (try simp only [Act.put, List.setIfInBounds_toArray, List.set_cons_zero, List.set_cons_succ]); try simp only [Nat.sub_zero, Nat.reduceSub, cn_ss] at hS))
    refine ret_st hS rfl _ _ rfl rfl _ Try.underlying35 rfl ?_
    repeat (first | (refine Row.here ⟨rsiI.trans rfl, ?_⟩) | refine Row.next ?_)
    exact ⟨rfl, hS.below⟩
  · obtain rfl : reg = 2 := by omega
    clear hreg
    go_enter Try.func15, Try.ntmps15
    go_wp2_with (first
  | ((with_reducible refine to_boxT 35 rfl ?_); refine Wl_box hS (fun _ => by rfl) _ rfl ?_; clear hS; intro b3 wW hS; simp only [Act.put, List.setIfInBounds_toArray, List.set_cons_zero, List.set_cons_succ]; replace hS := hS.split17)
  | ((with_reducible refine to_boxT 32 rfl ?_); refine Wl_box hS (fun _ => by rfl) _ rfl ?_; clear hS; intro b1 wW hS; simp only [Act.put, List.setIfInBounds_toArray, List.set_cons_zero, List.set_cons_succ])
  | ((with_reducible refine to_alloc 35 rfl ?_); refine Wl_alloc hS (fun _ => by rfl) _ rsiZ ?_; clear hS; intro b6 wW hS; simp only [Act.put, List.setIfInBounds_toArray, List.set_cons_zero, List.set_cons_succ])
  | ((with_reducible refine to_alloc 32 rfl ?_); refine Wl_alloc hS (fun _ => by rfl) _ rcnZ ?_; clear hS; intro b7 wW hS; simp only [Act.put, List.setIfInBounds_toArray, List.set_cons_zero, List.set_cons_succ])
  | ((with_reducible refine to_load 35 rfl ?_); refine Wl_load2 hS (fun _ => by rfl) _ rfl _ Try.underlying35 rfl rsiI ?_; (repeat (first | (refine Row2.here ?_) | refine Row2.next ?_)); (with_reducible show wpList _ _ _ _ _ _); simp only [Act.put, List.setIfInBounds_toArray, List.set_cons_zero, List.set_cons_succ])
  | ((with_reducible refine to_load 32 rfl ?_); refine Wl_load hS (fun _ => by rfl) _ _ rfl _ Try.underlying32 rfl ?_; (repeat (first | (refine Row.here ⟨rcnI.trans rfl, ?_⟩) | refine Row.next ?_)); (with_reducible show wpList _ _ _ _ _ _); simp only [Act.put, List.setIfInBounds_toArray, List.set_cons_zero, List.set_cons_succ])
  | ((with_reducible refine to_store 35 rfl ?_); refine Wl_store hS (fun _ => by rfl) _ _ _ rfl rfl (rsiI.trans rfl) (si_one _) ?_; (repeat (first | refine Turn.here rfl ?_ | refine Turn.next ?_)); clear hS; intro wW hS; try simp only [Act.put, List.setIfInBounds_toArray, List.set_cons_zero, List.set_cons_succ])
  | ((with_reducible refine to_store 32 rfl ?_); refine Wl_store hS (fun _ => by rfl) _ _ _ rfl rfl (rcnI.trans rfl) (cn_one _) ?_; (repeat (first | refine Turn.here rfl ?_ | refine Turn.next ?_)); clear hS; intro wW hS; try simp only [Act.put, List.setIfInBounds_toArray, List.set_cons_zero, List.set_cons_succ])
  | ((with_reducible first | refine to_load 3 rfl ?_ | refine to_load 4 rfl ?_ | refine to_load 5 rfl ?_); refine Wl_load1 hS (fun _ => by rfl) _ _ rfl (scT _ rfl) ?_; (repeat (first | refine Look.here (of_decide_eq_true rfl) rfl ?_ | refine Look.next ?_)); (with_reducible show wpList _ _ _ _ _ _); simp only [Act.put, List.setIfInBounds_toArray, List.set_cons_zero, List.set_cons_succ])
  | ((with_reducible first | refine to_store 3 rfl ?_ | refine to_store 4 rfl ?_ | refine to_store 5 rfl ?_); (first | refine Wl_store1 hS (fun _ => by rfl) _ _ (.int _ _) rfl rfl (scT _ rfl) rfl rfl ?_ | refine Wl_store1 hS (fun _ => by rfl) _ _ (.bool _) rfl rfl (scT _ rfl) rfl rfl ?_); (repeat (first | refine Turn1.here (of_decide_eq_true rfl) (of_decide_eq_true rfl) ?_ | refine Turn1.next ?_)); clear hS; intro wW hS; (try simp only [Act.put, List.setIfInBounds_toArray, List.set_cons_zero, List.set_cons_succ]); try simp only [Nat.sub_zero, Nat.reduceSub, cn_ss] at hS))
    refine (HC.out _).mono ?_
    rintro e w1 ⟨rfl, hb⟩
    replace hS := hS.call hb
    clear hb
    go_wp2_with (first
  | ((with_reducible refine to_boxT 35 rfl ?_); refine Wl_box hS (fun _ => by rfl) _ rfl ?_; clear hS; intro b3 wW hS; simp only [Act.put, List.setIfInBounds_toArray, List.set_cons_zero, List.set_cons_succ]; replace hS := hS.split17)
  | ((with_reducible refine to_boxT 32 rfl ?_); refine Wl_box hS (fun _ => by rfl) _ rfl ?_; clear hS; intro b1 wW hS; simp only [Act.put, List.setIfInBounds_toArray, List.set_cons_zero, List.set_cons_succ])
  | ((with_reducible refine to_alloc 35 rfl ?_); refine Wl_alloc hS (fun _ => by rfl) _ rsiZ ?_; clear hS; intro b6 wW hS; simp only [Act.put, List.setIfInBounds_toArray, List.set_cons_zero, List.set_cons_succ])
  | ((with_reducible refine to_alloc 32 rfl ?_); refine Wl_alloc hS (fun _ => by rfl) _ rcnZ ?_; clear hS; intro b7 wW hS; simp only [Act.put, List.setIfInBounds_toArray, List.set_cons_zero, List.set_cons_succ])
  | ((with_reducible refine to_load 35 rfl ?_); refine Wl_load2 hS (fun _ => by rfl) _ rfl _ Try.underlying35 rfl rsiI ?_; (repeat (first | (refine Row2.here ?_) | refine Row2.next ?_)); (with_reducible show wpList _ _ _ _ _ _); simp only [Act.put, List.setIfInBounds_toArray, List.set_cons_zero, List.set_cons_succ])
  | ((with_reducible refine to_load 32 rfl ?_); refine Wl_load hS (fun _ => by rfl) _ _ rfl _ Try.underlying32 rfl ?_; (repeat (first | (refine Row.here ⟨rcnI.trans rfl, ?_⟩) | refine Row.next ?_)); (with_reducible show wpList _ _ _ _ _ _); simp only [Act.put, List.setIfInBounds_toArray, List.set_cons_zero, List.set_cons_succ])
  | ((with_reducible refine to_store 35 rfl ?_); refine Wl_store hS (fun _ => by rfl) _ _ _ rfl rfl (rsiI.trans rfl) (si_one _) ?_; (repeat (first | refine Turn.here rfl ?_ | refine Turn.next ?_)); clear hS; intro wW hS; try simp only [Act.put, List.setIfInBounds_toArray, List.set_cons_zero, List.set_cons_succ])
  | ((with_reducible refine to_store 32 rfl ?_); refine Wl_store hS (fun _ => by rfl) _ _ _ rfl rfl (rcnI.trans rfl) (cn_one _) ?_; (repeat (first | refine Turn.here rfl ?_ | refine Turn.next ?_)); clear hS; intro wW hS; try simp only [Act.put, List.setIfInBounds_toArray, List.set_cons_zero, List.set_cons_succ])
  | ((with_reducible first | refine to_load 3 rfl ?_ | refine to_load 4 rfl ?_ | refine to_load 5 rfl ?_); refine Wl_load1 hS (fun _ => by rfl) _ _ rfl (scT _ rfl) ?_; (repeat (first | refine Look.here (of_decide_eq_true rfl) rfl ?_ | refine Look.next ?_)); (with_reducible show wpList _ _ _ _ _ _); simp only [Act.put, List.setIfInBounds_toArray, List.set_cons_zero, List.set_cons_succ])
  | ((with_reducible first | refine to_store 3 rfl ?_ | refine to_store 4 rfl ?_ | refine to_store 5 rfl ?_); (first | refine Wl_store1 hS (fun _ => by rfl) _ _ (.int _ _) rfl rfl (scT _ rfl) rfl rfl ?_ | refine Wl_store1 hS (fun _ => by rfl) _ _ (.bool _) rfl rfl (scT _ rfl) rfl rfl ?_); (repeat (first | refine Turn1.here (of_decide_eq_true rfl) (of_decide_eq_true rfl) ?_ | refine Turn1.next ?_)); clear hS; intro wW hS; (try simp only [Act.put, List.setIfInBounds_toArray, List.set_cons_zero, List.set_cons_succ]); try simp only [Nat.sub_zero, Nat.reduceSub, cn_ss] at hS))
    refine ret_st hS rfl _ _ rfl rfl _ Try.underlying35 rfl ?_
    repeat (first | (refine Row.here ⟨rsiI.trans rfl, ?_⟩) | refine Row.next ?_)
    exact ⟨rfl, hS.below⟩
set_option maxHeartbeats 8000000 in
theorem rwrite_ctl (s : M.Si) (k : Nat) (hk : k < 2) (reg : Int) (hreg : reg = 2 * k + 1) (b : Int) (h0 : 0 ≤ b) (h1 : b ≤ 255) (X : M.Cn) (hX : M.right (s.at k) = X) (hp0 : 0 ≤ X.pt) (hp7 : X.pt ≤ 7) (w : World) : Calls Try.prog 15 #[.agg s.a, .int .i64 reg, .int .u8 b] w fun e w' => e = .returned (.agg (s.set (M.sCtl X b) k).a) ∧ Below w.heap.size w w' := by
  have hS := St.start w.heap.size 0 0 w
  obtain ⟨c0, c1⟩ := s
  have hC := fun W => rright_any (M.Si.at ⟨c0, c1⟩ k) W
  rw [hX] at hC
  have HC := Lib.hid hC
  have hD := fun W => rctl_any X b h0 h1 hp0 hp7 W
  generalize M.sCtl X b = Y at hD ⊢
  have HD := Lib.hid hD
  clear hX hC hD
  rcases (show k = 0 ∨ k = 1 by omega) with rfl | rfl
  · obtain rfl : reg = 1 := by omega
    clear hreg
    go_enter Try.func15, Try.ntmps15
    go_wp2_with (first
  | ((with_reducible refine to_boxT 35 rfl ?_); refine Wl_box hS (fun _ => by rfl) _ rfl ?_; clear hS; intro b3 wW hS; simp only [Act.put, List.setIfInBounds_toArray, List.set_cons_zero, List.set_cons_succ]; replace hS := hS.split17)
  | ((with_reducible refine to_boxT 32 rfl ?_); refine Wl_box hS (fun _ => by rfl) _ rfl ?_; clear hS; intro b1 wW hS; simp only [Act.put, List.setIfInBounds_toArray, List.set_cons_zero, List.set_cons_succ])
  | ((with_reducible refine to_alloc 35 rfl ?_); refine Wl_alloc hS (fun _ => by rfl) _ rsiZ ?_; clear hS; intro b6 wW hS; simp only [Act.put, List.setIfInBounds_toArray, List.set_cons_zero, List.set_cons_succ])
  | ((with_reducible refine to_alloc 32 rfl ?_); refine Wl_alloc hS (fun _ => by rfl) _ rcnZ ?_; clear hS; intro b7 wW hS; simp only [Act.put, List.setIfInBounds_toArray, List.set_cons_zero, List.set_cons_succ])
  | ((with_reducible refine to_load 35 rfl ?_); refine Wl_load2 hS (fun _ => by rfl) _ rfl _ Try.underlying35 rfl rsiI ?_; (repeat (first | (refine Row2.here ?_) | refine Row2.next ?_)); (with_reducible show wpList _ _ _ _ _ _); simp only [Act.put, List.setIfInBounds_toArray, List.set_cons_zero, List.set_cons_succ])
  | ((with_reducible refine to_load 32 rfl ?_); refine Wl_load hS (fun _ => by rfl) _ _ rfl _ Try.underlying32 rfl ?_; (repeat (first | (refine Row.here ⟨rcnI.trans rfl, ?_⟩) | refine Row.next ?_)); (with_reducible show wpList _ _ _ _ _ _); simp only [Act.put, List.setIfInBounds_toArray, List.set_cons_zero, List.set_cons_succ])
  | ((with_reducible refine to_store 35 rfl ?_); refine Wl_store hS (fun _ => by rfl) _ _ _ rfl rfl (rsiI.trans rfl) (si_one _) ?_; (repeat (first | refine Turn.here rfl ?_ | refine Turn.next ?_)); clear hS; intro wW hS; try simp only [Act.put, List.setIfInBounds_toArray, List.set_cons_zero, List.set_cons_succ])
  | ((with_reducible refine to_store 32 rfl ?_); refine Wl_store hS (fun _ => by rfl) _ _ _ rfl rfl (rcnI.trans rfl) (cn_one _) ?_; (repeat (first | refine Turn.here rfl ?_ | refine Turn.next ?_)); clear hS; intro wW hS; try simp only [Act.put, List.setIfInBounds_toArray, List.set_cons_zero, List.set_cons_succ])
  | ((with_reducible first | refine to_load 3 rfl ?_ | refine to_load 4 rfl ?_ | refine to_load 5 rfl ?_); refine Wl_load1 hS (fun _ => by rfl) _ _ rfl (scT _ rfl) ?_; (repeat (first | refine Look.here (of_decide_eq_true rfl) rfl ?_ | refine Look.next ?_)); (with_reducible show wpList _ _ _ _ _ _); simp only [Act.put, List.setIfInBounds_toArray, List.set_cons_zero, List.set_cons_succ])
  | ((with_reducible first | refine to_store 3 rfl ?_ | refine to_store 4 rfl ?_ | refine to_store 5 rfl ?_); (first | refine Wl_store1 hS (fun _ => by rfl) _ _ (.int _ _) rfl rfl (scT _ rfl) rfl rfl ?_ | refine Wl_store1 hS (fun _ => by rfl) _ _ (.bool _) rfl rfl (scT _ rfl) rfl rfl ?_); (repeat (first | refine Turn1.here (of_decide_eq_true rfl) (of_decide_eq_true rfl) ?_ | refine Turn1.next ?_)); clear hS; intro wW hS; (try simp only [Act.put, List.setIfInBounds_toArray, List.set_cons_zero, List.set_cons_succ]); try simp only [Nat.sub_zero, Nat.reduceSub, cn_ss] at hS))
    refine (HC.out _).mono ?_
    rintro e w1 ⟨rfl, hb⟩
    replace hS := hS.call hb
    clear hb
    go_wp2_with (first
  | ((with_reducible refine to_boxT 35 rfl ?_); refine Wl_box hS (fun _ => by rfl) _ rfl ?_; clear hS; intro b3 wW hS; simp only [Act.put, List.setIfInBounds_toArray, List.set_cons_zero, List.set_cons_succ]; replace hS := hS.split17)
  | ((with_reducible refine to_boxT 32 rfl ?_); refine Wl_box hS (fun _ => by rfl) _ rfl ?_; clear hS; intro b1 wW hS; simp only [Act.put, List.setIfInBounds_toArray, List.set_cons_zero, List.set_cons_succ])
  | ((with_reducible refine to_alloc 35 rfl ?_); refine Wl_alloc hS (fun _ => by rfl) _ rsiZ ?_; clear hS; intro b6 wW hS; simp only [Act.put, List.setIfInBounds_toArray, List.set_cons_zero, List.set_cons_succ])
  | ((with_reducible refine to_alloc 32 rfl ?_); refine Wl_alloc hS (fun _ => by rfl) _ rcnZ ?_; clear hS; intro b7 wW hS; simp only [Act.put, List.setIfInBounds_toArray, List.set_cons_zero, List.set_cons_succ])
  | ((with_reducible refine to_load 35 rfl ?_); refine Wl_load2 hS (fun _ => by rfl) _ rfl _ Try.underlying35 rfl rsiI ?_; (repeat (first | (refine Row2.here ?_) | refine Row2.next ?_)); (with_reducible show wpList _ _ _ _ _ _); simp only [Act.put, List.setIfInBounds_toArray, List.set_cons_zero, List.set_cons_succ])
  | ((with_reducible refine to_load 32 rfl ?_); refine Wl_load hS (fun _ => by rfl) _ _ rfl _ Try.underlying32 rfl ?_; (repeat (first | (refine Row.here ⟨rcnI.trans rfl, ?_⟩) | refine Row.next ?_)); (with_reducible show wpList _ _ _ _ _ _); simp only [Act.put, List.setIfInBounds_toArray, List.set_cons_zero, List.set_cons_succ])
  | ((with_reducible refine to_store 35 rfl ?_); refine Wl_store hS (fun _ => by rfl) _ _ _ rfl rfl (rsiI.trans rfl) (si_one _) ?_; (repeat (first | refine Turn.here rfl ?_ | refine Turn.next ?_)); clear hS; intro wW hS; try simp only [Act.put, List.setIfInBounds_toArray, List.set_cons_zero, List.set_cons_succ])
  | ((with_reducible refine to_store 32 rfl ?_); refine Wl_store hS (fun _ => by rfl) _ _ _ rfl rfl (rcnI.trans rfl) (cn_one _) ?_; (repeat (first | refine Turn.here rfl ?_ | refine Turn.next ?_)); clear hS; intro wW hS; try simp only [Act.put, List.setIfInBounds_toArray, List.set_cons_zero, List.set_cons_succ])
  | ((with_reducible first | refine to_load 3 rfl ?_ | refine to_load 4 rfl ?_ | refine to_load 5 rfl ?_); refine Wl_load1 hS (fun _ => by rfl) _ _ rfl (scT _ rfl) ?_; (repeat (first | refine Look.here (of_decide_eq_true rfl) rfl ?_ | refine Look.next ?_)); (with_reducible show wpList _ _ _ _ _ _); simp only [Act.put, List.setIfInBounds_toArray, List.set_cons_zero, List.set_cons_succ])
  | ((with_reducible first | refine to_store 3 rfl ?_ | refine to_store 4 rfl ?_ | refine to_store 5 rfl ?_); (first | refine Wl_store1 hS (fun _ => by rfl) _ _ (.int _ _) rfl rfl (scT _ rfl) rfl rfl ?_ | refine Wl_store1 hS (fun _ => by rfl) _ _ (.bool _) rfl rfl (scT _ rfl) rfl rfl ?_); (repeat (first | refine Turn1.here (of_decide_eq_true rfl) (of_decide_eq_true rfl) ?_ | refine Turn1.next ?_)); clear hS; intro wW hS; (try simp only [Act.put, List.setIfInBounds_toArray, List.set_cons_zero, List.set_cons_succ]); try simp only [Nat.sub_zero, Nat.reduceSub, cn_ss] at hS))
    refine (HD.out _).mono ?_
    rintro e w1 ⟨rfl, hb⟩
    replace hS := hS.call hb
    clear hb
    go_wp2_with (first
  | ((with_reducible refine to_boxT 35 rfl ?_); refine Wl_box hS (fun _ => by rfl) _ rfl ?_; clear hS; intro b3 wW hS; simp only [Act.put, List.setIfInBounds_toArray, List.set_cons_zero, List.set_cons_succ]; replace hS := hS.split17)
  | ((with_reducible refine to_boxT 32 rfl ?_); refine Wl_box hS (fun _ => by rfl) _ rfl ?_; clear hS; intro b1 wW hS; simp only [Act.put, List.setIfInBounds_toArray, List.set_cons_zero, List.set_cons_succ])
  | ((with_reducible refine to_alloc 35 rfl ?_); refine Wl_alloc hS (fun _ => by rfl) _ rsiZ ?_; clear hS; intro b6 wW hS; simp only [Act.put, List.setIfInBounds_toArray, List.set_cons_zero, List.set_cons_succ])
  | ((with_reducible refine to_alloc 32 rfl ?_); refine Wl_alloc hS (fun _ => by rfl) _ rcnZ ?_; clear hS; intro b7 wW hS; simp only [Act.put, List.setIfInBounds_toArray, List.set_cons_zero, List.set_cons_succ])
  | ((with_reducible refine to_load 35 rfl ?_); refine Wl_load2 hS (fun _ => by rfl) _ rfl _ Try.underlying35 rfl rsiI ?_; (repeat (first | (refine Row2.here ?_) | refine Row2.next ?_)); (with_reducible show wpList _ _ _ _ _ _); simp only [Act.put, List.setIfInBounds_toArray, List.set_cons_zero, List.set_cons_succ])
  | ((with_reducible refine to_load 32 rfl ?_); refine Wl_load hS (fun _ => by rfl) _ _ rfl _ Try.underlying32 rfl ?_; (repeat (first | (refine Row.here ⟨rcnI.trans rfl, ?_⟩) | refine Row.next ?_)); (with_reducible show wpList _ _ _ _ _ _); simp only [Act.put, List.setIfInBounds_toArray, List.set_cons_zero, List.set_cons_succ])
  | ((with_reducible refine to_store 35 rfl ?_); refine Wl_store hS (fun _ => by rfl) _ _ _ rfl rfl (rsiI.trans rfl) (si_one _) ?_; (repeat (first | refine Turn.here rfl ?_ | refine Turn.next ?_)); clear hS; intro wW hS; try simp only [Act.put, List.setIfInBounds_toArray, List.set_cons_zero, List.set_cons_succ])
  | ((with_reducible refine to_store 32 rfl ?_); refine Wl_store hS (fun _ => by rfl) _ _ _ rfl rfl (rcnI.trans rfl) (cn_one _) ?_; (repeat (first | refine Turn.here rfl ?_ | refine Turn.next ?_)); clear hS; intro wW hS; try simp only [Act.put, List.setIfInBounds_toArray, List.set_cons_zero, List.set_cons_succ])
  | ((with_reducible first | refine to_load 3 rfl ?_ | refine to_load 4 rfl ?_ | refine to_load 5 rfl ?_); refine Wl_load1 hS (fun _ => by rfl) _ _ rfl (scT _ rfl) ?_; (repeat (first | refine Look.here (of_decide_eq_true rfl) rfl ?_ | refine Look.next ?_)); (with_reducible show wpList _ _ _ _ _ _); simp only [Act.put, List.setIfInBounds_toArray, List.set_cons_zero, List.set_cons_succ])
  | ((with_reducible first | refine to_store 3 rfl ?_ | refine to_store 4 rfl ?_ | refine to_store 5 rfl ?_); (first | refine Wl_store1 hS (fun _ => by rfl) _ _ (.int _ _) rfl rfl (scT _ rfl) rfl rfl ?_ | refine Wl_store1 hS (fun _ => by rfl) _ _ (.bool _) rfl rfl (scT _ rfl) rfl rfl ?_); (repeat (first | refine Turn1.here (of_decide_eq_true rfl) (of_decide_eq_true rfl) ?_ | refine Turn1.next ?_)); clear hS; intro wW hS; (try simp only [Act.put, List.setIfInBounds_toArray, List.set_cons_zero, List.set_cons_succ]); try simp only [Nat.sub_zero, Nat.reduceSub, cn_ss] at hS))
    refine ret_st hS rfl _ _ rfl rfl _ Try.underlying35 rfl ?_
    repeat (first | (refine Row.here ⟨rsiI.trans rfl, ?_⟩) | refine Row.next ?_)
    exact ⟨rfl, hS.below⟩
  · obtain rfl : reg = 3 := by omega
    clear hreg
    go_enter Try.func15, Try.ntmps15
    go_wp2_with (first
  | ((with_reducible refine to_boxT 35 rfl ?_); refine Wl_box hS (fun _ => by rfl) _ rfl ?_; clear hS; intro b3 wW hS; simp only [Act.put, List.setIfInBounds_toArray, List.set_cons_zero, List.set_cons_succ]; replace hS := hS.split17)
  | ((with_reducible refine to_boxT 32 rfl ?_); refine Wl_box hS (fun _ => by rfl) _ rfl ?_; clear hS; intro b1 wW hS; simp only [Act.put, List.setIfInBounds_toArray, List.set_cons_zero, List.set_cons_succ])
  | ((with_reducible refine to_alloc 35 rfl ?_); refine Wl_alloc hS (fun _ => by rfl) _ rsiZ ?_; clear hS; intro b6 wW hS; simp only [Act.put, List.setIfInBounds_toArray, List.set_cons_zero, List.set_cons_succ])
  | ((with_reducible refine to_alloc 32 rfl ?_); refine Wl_alloc hS (fun _ => by rfl) _ rcnZ ?_; clear hS; intro b7 wW hS; simp only [Act.put, List.setIfInBounds_toArray, List.set_cons_zero, List.set_cons_succ])
  | ((with_reducible refine to_load 35 rfl ?_); refine Wl_load2 hS (fun _ => by rfl) _ rfl _ Try.underlying35 rfl rsiI ?_; (repeat (first | (refine Row2.here ?_) | refine Row2.next ?_)); (with_reducible show wpList _ _ _ _ _ _); simp only [Act.put, List.setIfInBounds_toArray, List.set_cons_zero, List.set_cons_succ])
  | ((with_reducible refine to_load 32 rfl ?_); refine Wl_load hS (fun _ => by rfl) _ _ rfl _ Try.underlying32 rfl ?_; (repeat (first | (refine Row.here ⟨rcnI.trans rfl, ?_⟩) | refine Row.next ?_)); (with_reducible show wpList _ _ _ _ _ _); simp only [Act.put, List.setIfInBounds_toArray, List.set_cons_zero, List.set_cons_succ])
  | ((with_reducible refine to_store 35 rfl ?_); refine Wl_store hS (fun _ => by rfl) _ _ _ rfl rfl (rsiI.trans rfl) (si_one _) ?_; (repeat (first | refine Turn.here rfl ?_ | refine Turn.next ?_)); clear hS; intro wW hS; try simp only [Act.put, List.setIfInBounds_toArray, List.set_cons_zero, List.set_cons_succ])
  | ((with_reducible refine to_store 32 rfl ?_); refine Wl_store hS (fun _ => by rfl) _ _ _ rfl rfl (rcnI.trans rfl) (cn_one _) ?_; (repeat (first | refine Turn.here rfl ?_ | refine Turn.next ?_)); clear hS; intro wW hS; try simp only [Act.put, List.setIfInBounds_toArray, List.set_cons_zero, List.set_cons_succ])
  | ((with_reducible first | refine to_load 3 rfl ?_ | refine to_load 4 rfl ?_ | refine to_load 5 rfl ?_); refine Wl_load1 hS (fun _ => by rfl) _ _ rfl (scT _ rfl) ?_; (repeat (first | refine Look.here (of_decide_eq_true rfl) rfl ?_ | refine Look.next ?_)); (with_reducible show wpList _ _ _ _ _ _); simp only [Act.put, List.setIfInBounds_toArray, List.set_cons_zero, List.set_cons_succ])
  | ((with_reducible first | refine to_store 3 rfl ?_ | refine to_store 4 rfl ?_ | refine to_store 5 rfl ?_); (first | refine Wl_store1 hS (fun _ => by rfl) _ _ (.int _ _) rfl rfl (scT _ rfl) rfl rfl ?_ | refine Wl_store1 hS (fun _ => by rfl) _ _ (.bool _) rfl rfl (scT _ rfl) rfl rfl ?_); (repeat (first | refine Turn1.here (of_decide_eq_true rfl) (of_decide_eq_true rfl) ?_ | refine Turn1.next ?_)); clear hS; intro wW hS; (try simp only [Act.put, List.setIfInBounds_toArray, List.set_cons_zero, List.set_cons_succ]); try simp only [Nat.sub_zero, Nat.reduceSub, cn_ss] at hS))
    refine (HC.out _).mono ?_
    rintro e w1 ⟨rfl, hb⟩
    replace hS := hS.call hb
    clear hb
    go_wp2_with (first
  | ((with_reducible refine to_boxT 35 rfl ?_); refine Wl_box hS (fun _ => by rfl) _ rfl ?_; clear hS; intro b3 wW hS; simp only [Act.put, List.setIfInBounds_toArray, List.set_cons_zero, List.set_cons_succ]; replace hS := hS.split17)
  | ((with_reducible refine to_boxT 32 rfl ?_); refine Wl_box hS (fun _ => by rfl) _ rfl ?_; clear hS; intro b1 wW hS; simp only [Act.put, List.setIfInBounds_toArray, List.set_cons_zero, List.set_cons_succ])
  | ((with_reducible refine to_alloc 35 rfl ?_); refine Wl_alloc hS (fun _ => by rfl) _ rsiZ ?_; clear hS; intro b6 wW hS; simp only [Act.put, List.setIfInBounds_toArray, List.set_cons_zero, List.set_cons_succ])
  | ((with_reducible refine to_alloc 32 rfl ?_); refine Wl_alloc hS (fun _ => by rfl) _ rcnZ ?_; clear hS; intro b7 wW hS; simp only [Act.put, List.setIfInBounds_toArray, List.set_cons_zero, List.set_cons_succ])
  | ((with_reducible refine to_load 35 rfl ?_); refine Wl_load2 hS (fun _ => by rfl) _ rfl _ Try.underlying35 rfl rsiI ?_; (repeat (first | (refine Row2.here ?_) | refine Row2.next ?_)); (with_reducible show wpList _ _ _ _ _ _); simp only [Act.put, List.setIfInBounds_toArray, List.set_cons_zero, List.set_cons_succ])
  | ((with_reducible refine to_load 32 rfl ?_); refine Wl_load hS (fun _ => by rfl) _ _ rfl _ Try.underlying32 rfl ?_; (repeat (first | (refine Row.here ⟨rcnI.trans rfl, ?_⟩) | refine Row.next ?_)); (with_reducible show wpList _ _ _ _ _ _); simp only [Act.put, List.setIfInBounds_toArray, List.set_cons_zero, List.set_cons_succ])
  | ((with_reducible refine to_store 35 rfl ?_); refine Wl_store hS (fun _ => by rfl) _ _ _ rfl rfl (rsiI.trans rfl) (si_one _) ?_; (repeat (first | refine Turn.here rfl ?_ | refine Turn.next ?_)); clear hS; intro wW hS; try simp only [Act.put, List.setIfInBounds_toArray, List.set_cons_zero, List.set_cons_succ])
  | ((with_reducible refine to_store 32 rfl ?_); refine Wl_store hS (fun _ => by rfl) _ _ _ rfl rfl (rcnI.trans rfl) (cn_one _) ?_; (repeat (first | refine Turn.here rfl ?_ | refine Turn.next ?_)); clear hS; intro wW hS; try simp only [Act.put, List.setIfInBounds_toArray, List.set_cons_zero, List.set_cons_succ])
  | ((with_reducible first | refine to_load 3 rfl ?_ | refine to_load 4 rfl ?_ | refine to_load 5 rfl ?_); refine Wl_load1 hS (fun _ => by rfl) _ _ rfl (scT _ rfl) ?_; (repeat (first | refine Look.here (of_decide_eq_true rfl) rfl ?_ | refine Look.next ?_)); (with_reducible show wpList _ _ _ _ _ _); simp only [Act.put, List.setIfInBounds_toArray, List.set_cons_zero, List.set_cons_succ])
  | ((with_reducible first | refine to_store 3 rfl ?_ | refine to_store 4 rfl ?_ | refine to_store 5 rfl ?_); (first | refine Wl_store1 hS (fun _ => by rfl) _ _ (.int _ _) rfl rfl (scT _ rfl) rfl rfl ?_ | refine Wl_store1 hS (fun _ => by rfl) _ _ (.bool _) rfl rfl (scT _ rfl) rfl rfl ?_); (repeat (first | refine Turn1.here (of_decide_eq_true rfl) (of_decide_eq_true rfl) ?_ | refine Turn1.next ?_)); clear hS; intro wW hS; (try simp only [Act.put, List.setIfInBounds_toArray, List.set_cons_zero, List.set_cons_succ]); try simp only [Nat.sub_zero, Nat.reduceSub, cn_ss] at hS))
    refine (HD.out _).mono ?_
    rintro e w1 ⟨rfl, hb⟩
    replace hS := hS.call hb
    clear hb
    go_wp2_with (first
  | ((with_reducible refine to_boxT 35 rfl ?_); refine Wl_box hS (fun _ => by rfl) _ rfl ?_; clear hS; intro b3 wW hS; simp only [Act.put, List.setIfInBounds_toArray, List.set_cons_zero, List.set_cons_succ]; replace hS := hS.split17)
  | ((with_reducible refine to_boxT 32 rfl ?_); refine Wl_box hS (fun _ => by rfl) _ rfl ?_; clear hS; intro b1 wW hS; simp only [Act.put, List.setIfInBounds_toArray, List.set_cons_zero, List.set_cons_succ])
  | ((with_reducible refine to_alloc 35 rfl ?_); refine Wl_alloc hS (fun _ => by rfl) _ rsiZ ?_; clear hS; intro b6 wW hS; simp only [Act.put, List.setIfInBounds_toArray, List.set_cons_zero, List.set_cons_succ])
  | ((with_reducible refine to_alloc 32 rfl ?_); refine Wl_alloc hS (fun _ => by rfl) _ rcnZ ?_; clear hS; intro b7 wW hS; simp only [Act.put, List.setIfInBounds_toArray, List.set_cons_zero, List.set_cons_succ])
  | ((with_reducible refine to_load 35 rfl ?_); refine Wl_load2 hS (fun _ => by rfl) _ rfl _ Try.underlying35 rfl rsiI ?_; (repeat (first | (refine Row2.here ?_) | refine Row2.next ?_)); (with_reducible show wpList _ _ _ _ _ _); simp only [Act.put, List.setIfInBounds_toArray, List.set_cons_zero, List.set_cons_succ])
  | ((with_reducible refine to_load 32 rfl ?_); refine Wl_load hS (fun _ => by rfl) _ _ rfl _ Try.underlying32 rfl ?_; (repeat (first | (refine Row.here ⟨rcnI.trans rfl, ?_⟩) | refine Row.next ?_)); (with_reducible show wpList _ _ _ _ _ _); simp only [Act.put, List.setIfInBounds_toArray, List.set_cons_zero, List.set_cons_succ])
  | ((with_reducible refine to_store 35 rfl ?_); refine Wl_store hS (fun _ => by rfl) _ _ _ rfl rfl (rsiI.trans rfl) (si_one _) ?_; (repeat (first | refine Turn.here rfl ?_ | refine Turn.next ?_)); clear hS; intro wW hS; try simp only [Act.put, List.setIfInBounds_toArray, List.set_cons_zero, List.set_cons_succ])
  | ((with_reducible refine to_store 32 rfl ?_); refine Wl_store hS (fun _ => by rfl) _ _ _ rfl rfl (rcnI.trans rfl) (cn_one _) ?_; (repeat (first | refine Turn.here rfl ?_ | refine Turn.next ?_)); clear hS; intro wW hS; try simp only [Act.put, List.setIfInBounds_toArray, List.set_cons_zero, List.set_cons_succ])
  | ((with_reducible first | refine to_load 3 rfl ?_ | refine to_load 4 rfl ?_ | refine to_load 5 rfl ?_); refine Wl_load1 hS (fun _ => by rfl) _ _ rfl (scT _ rfl) ?_; (repeat (first | refine Look.here (of_decide_eq_true rfl) rfl ?_ | refine Look.next ?_)); (with_reducible show wpList _ _ _ _ _ _); simp only [Act.put, List.setIfInBounds_toArray, List.set_cons_zero, List.set_cons_succ])
  | ((with_reducible first | refine to_store 3 rfl ?_ | refine to_store 4 rfl ?_ | refine to_store 5 rfl ?_); (first | refine Wl_store1 hS (fun _ => by rfl) _ _ (.int _ _) rfl rfl (scT _ rfl) rfl rfl ?_ | refine Wl_store1 hS (fun _ => by rfl) _ _ (.bool _) rfl rfl (scT _ rfl) rfl rfl ?_); (repeat (first | refine Turn1.here (of_decide_eq_true rfl) (of_decide_eq_true rfl) ?_ | refine Turn1.next ?_)); clear hS; intro wW hS; (try simp only [Act.put, List.setIfInBounds_toArray, List.set_cons_zero, List.set_cons_succ]); try simp only [Nat.sub_zero, Nat.reduceSub, cn_ss] at hS))
    refine ret_st hS rfl _ _ rfl rfl _ Try.underlying35 rfl ?_
    repeat (first | (refine Row.here ⟨rsiI.trans rfl, ?_⟩) | refine Row.next ?_)
    exact ⟨rfl, hS.below⟩
/-- charabancref25.Write: whatever the register, whatever the byte. -/
theorem rwrite_any (s : M.Si) (reg b : Int) (h0 : 0 ≤ b) (h1 : b ≤ 255) (w : World) : Calls Try.prog 15 #[.agg s.a, .int .i64 reg, .int .u8 b] w fun e w' => e = .returned (.agg (M.sWrite s reg b).a) ∧ Below w.heap.size w w' := by
  unfold M.sWrite
  by_cases hin : 0 ≤ reg ∧ reg ≤ 3
  · rw [if_pos hin]
    rcases (show (reg % 2 = 1 ∧ reg = 2 * (reg / 2).toNat + 1) ∨ (¬ reg % 2 = 1 ∧ reg = 2 * (reg / 2).toNat) by omega) with ⟨ho, hr⟩ | ⟨ho, hr⟩
    · rw [if_pos ho]
      have hf := M.fix_range (s.at (reg / 2).toNat).pt 7 (by omega)
      exact rwrite_ctl s _ (by omega) reg hr b h0 h1 _ rfl hf.1 hf.2 w
    · rw [if_neg ho]
      exact rwrite_tx s _ (by omega) reg hr b _ rfl w
  · rw [if_neg hin]
    exact rwrite_out s reg b (by omega) w
end Go.Proofs.Ytlpoldnidojgmaa
