/- sio.Read by its contract. -/
import Derived.Test.YtlpoldnidojgmaaSioStat
import Derived.Test.YtlpoldnidojgmaaSioTake
namespace Go.Proofs.Ytlpoldnidojgmaa
open Go.RowKit
set_option linter.unusedVariables false
set_option linter.unusedSimpArgs false
set_option maxRecDepth 100000
theorem M.fix_fix (n hi : Int) (h : 0 ≤ hi) : M.fix (M.fix n hi) hi = M.fix n hi := by
  have := M.fix_range n hi h
  exact M.fix_in this.1 this.2
theorem M.right_right (x : M.Cn) : M.right (M.right x) = M.right x := by
  unfold M.right
  simp only [M.fix_fix _ _ (show (0 : Int) ≤ 7 by omega), M.fix_fix _ _ (show (0 : Int) ≤ 3 by omega)]
theorem M.right_ok {x : M.Cn} (h : x.ok) : (M.right x).ok := by
  have h1 := M.fix_range x.pt 7 (by omega)
  have h2 := M.fix_range x.n 3 (by omega)
  exact ⟨h.w0, h.w1, h.w2, h.w3, h.w4, h.w5, h.w6, h.w7, by show _ ≤ M.fix x.pt 7 ∧ M.fix x.pt 7 ≤ _; omega, h.f0, h.f1, h.f2, by show _ ≤ M.fix x.n 3 ∧ M.fix x.n 3 ≤ _; omega, h.tx⟩
theorem M.set_ok {s : M.Si} {x : M.Cn} (hs : s.ok) (hx : x.ok) (k : Nat) : (s.set x k).ok := by
  unfold M.Si.set
  split
  · exact ⟨hx, hs.2⟩
  · exact ⟨hs.1, hx⟩
theorem M.sPend_right (s : M.Si) (k : Nat) : M.sPend (s.set (M.right (s.at k)) k) = M.sPend s := by
  unfold M.Si.set M.Si.at
  split
  · unfold M.sPend
    simp only [M.right_right]
    rfl
  · unfold M.sPend
    simp only [M.right_right]
    rfl
theorem M.sVec_right (s : M.Si) (k : Nat) : M.sVec (s.set (M.right (s.at k)) k) = M.sVec s := by
  have hp := M.sPend_right s k
  have h1 : (s.set (M.right (s.at k)) k).c1.w1 = s.c1.w1 := by cases k <;> rfl
  have h2 : (s.set (M.right (s.at k)) k).c1.w2 = s.c1.w2 := by cases k <;> rfl
  unfold M.sVec M.sWhat
  rw [hp, h1, h2]
theorem M.statB_told (s : M.Si) (k : Nat) (hk : k < 2) : M.statB (s.set (M.right (s.at k)) k) k (M.right (s.at k)).pt = M.sTold s k (M.right (s.at k)) := by
  have ha : (s.set (M.right (s.at k)) k).at k = M.right (s.at k) := by
    rcases (show k = 0 ∨ k = 1 by omega) with rfl | rfl <;> rfl
  unfold M.statB M.sTold
  rw [ha, M.sPend_right, M.sVec_right]
  have hd : decide (k = 0) = decide ((k : Int) = 0) := by
    rcases (show k = 0 ∨ k = 1 by omega) with rfl | rfl <;> rfl
  have h1 : ((M.right (s.at k)).pt = 2 ∧ k = 1) = ((M.right (s.at k)).pt = 2 ∧ (k : Int) = 1) := by
    rcases (show k = 0 ∨ k = 1 by omega) with rfl | rfl <;> simp
  rw [hd]
  simp only [h1]
theorem sread_out (s : M.Si) (reg : Int) (hreg : reg < 0 ∨ 3 < reg) (w : World) : Calls Try.prog 11 #[.agg s.a, .int .i64 reg] w fun e w' => e = .returned (.tuple #[.agg s.a, .int .u8 255]) ∧ Below w.heap.size w w' := by
  have hS := St.start w.heap.size 0 0 w
  go_enter Try.func11, Try.ntmps11
  go_wp2_with (first
  | ((with_reducible refine to_box ?_); refine Wl_box hS (fun _ => by rfl) _ rfl ?_; clear hS; intro b2 wW hS; simp only [Act.put, List.setIfInBounds_toArray, List.set_cons_zero, List.set_cons_succ]; replace hS := hS.split17)
  | ((with_reducible refine to_alloc 28 rfl ?_); refine Wl_alloc hS (fun _ => by rfl) _ siZ ?_; clear hS; intro b4 wW hS; simp only [Act.put, List.setIfInBounds_toArray, List.set_cons_zero, List.set_cons_succ])
  | ((with_reducible refine to_load 28 rfl ?_); refine Wl_load2 hS (fun _ => by rfl) _ rfl _ Try.underlying28 rfl siI ?_; (repeat (first | (refine Row2.here ?_) | refine Row2.next ?_)); (with_reducible show wpList _ _ _ _ _ _); simp only [Act.put, List.setIfInBounds_toArray, List.set_cons_zero, List.set_cons_succ])
  | ((with_reducible refine to_store 28 rfl ?_); refine Wl_store hS (fun _ => by rfl) _ _ _ rfl rfl (siI.trans rfl) (si_one _) ?_; (repeat (first | refine Turn.here rfl ?_ | refine Turn.next ?_)); clear hS; intro wW hS; try simp only [Act.put, List.setIfInBounds_toArray, List.set_cons_zero, List.set_cons_succ])
  | ((with_reducible first | refine to_load 3 rfl ?_ | refine to_load 4 rfl ?_ | refine to_load 5 rfl ?_); refine Wl_load1 hS (fun _ => by rfl) _ _ rfl (scT _ rfl) ?_; (repeat (first | refine Look.here (of_decide_eq_true rfl) rfl ?_ | refine Look.next ?_)); (with_reducible show wpList _ _ _ _ _ _); simp only [Act.put, List.setIfInBounds_toArray, List.set_cons_zero, List.set_cons_succ])
  | ((with_reducible first | refine to_store 3 rfl ?_ | refine to_store 4 rfl ?_ | refine to_store 5 rfl ?_); (first | refine Wl_store1 hS (fun _ => by rfl) _ _ (.int _ _) rfl rfl (scT _ rfl) rfl rfl ?_ | refine Wl_store1 hS (fun _ => by rfl) _ _ (.bool _) rfl rfl (scT _ rfl) rfl rfl ?_); (repeat (first | refine Turn1.here (of_decide_eq_true rfl) (of_decide_eq_true rfl) ?_ | refine Turn1.next ?_)); clear hS; intro wW hS; (try simp only [Act.put, List.setIfInBounds_toArray, List.set_cons_zero, List.set_cons_succ]); try simp only [Nat.sub_zero, Nat.reduceSub, cn_ss] at hS))
  refine (channel_out reg hreg b2 _).mono ?_
  rintro e w1 ⟨rfl, rfl⟩
  go_wp2_with (first
  | ((with_reducible refine to_box ?_); refine Wl_box hS (fun _ => by rfl) _ rfl ?_; clear hS; intro b2 wW hS; simp only [Act.put, List.setIfInBounds_toArray, List.set_cons_zero, List.set_cons_succ]; replace hS := hS.split17)
  | ((with_reducible refine to_alloc 28 rfl ?_); refine Wl_alloc hS (fun _ => by rfl) _ siZ ?_; clear hS; intro b4 wW hS; simp only [Act.put, List.setIfInBounds_toArray, List.set_cons_zero, List.set_cons_succ])
  | ((with_reducible refine to_load 28 rfl ?_); refine Wl_load2 hS (fun _ => by rfl) _ rfl _ Try.underlying28 rfl siI ?_; (repeat (first | (refine Row2.here ?_) | refine Row2.next ?_)); (with_reducible show wpList _ _ _ _ _ _); simp only [Act.put, List.setIfInBounds_toArray, List.set_cons_zero, List.set_cons_succ])
  | ((with_reducible refine to_store 28 rfl ?_); refine Wl_store hS (fun _ => by rfl) _ _ _ rfl rfl (siI.trans rfl) (si_one _) ?_; (repeat (first | refine Turn.here rfl ?_ | refine Turn.next ?_)); clear hS; intro wW hS; try simp only [Act.put, List.setIfInBounds_toArray, List.set_cons_zero, List.set_cons_succ])
  | ((with_reducible first | refine to_load 3 rfl ?_ | refine to_load 4 rfl ?_ | refine to_load 5 rfl ?_); refine Wl_load1 hS (fun _ => by rfl) _ _ rfl (scT _ rfl) ?_; (repeat (first | refine Look.here (of_decide_eq_true rfl) rfl ?_ | refine Look.next ?_)); (with_reducible show wpList _ _ _ _ _ _); simp only [Act.put, List.setIfInBounds_toArray, List.set_cons_zero, List.set_cons_succ])
  | ((with_reducible first | refine to_store 3 rfl ?_ | refine to_store 4 rfl ?_ | refine to_store 5 rfl ?_); (first | refine Wl_store1 hS (fun _ => by rfl) _ _ (.int _ _) rfl rfl (scT _ rfl) rfl rfl ?_ | refine Wl_store1 hS (fun _ => by rfl) _ _ (.bool _) rfl rfl (scT _ rfl) rfl rfl ?_); (repeat (first | refine Turn1.here (of_decide_eq_true rfl) (of_decide_eq_true rfl) ?_ | refine Turn1.next ?_)); clear hS; intro wW hS; (try simp only [Act.put, List.setIfInBounds_toArray, List.set_cons_zero, List.set_cons_succ]); try simp only [Nat.sub_zero, Nat.reduceSub, cn_ss] at hS))
  refine ret_tmp_st hS rfl _ _ rfl _ rfl rfl _ Try.underlying28 rfl ?_
  repeat (first | (refine Row.here ⟨siI.trans rfl, ?_⟩) | refine Row.next ?_)
  exact ⟨rfl, hS.below⟩
set_option maxHeartbeats 8000000 in
theorem sread_take (s : M.Si) (k : Nat) (hk : k < 2) (reg : Int) (hreg : reg = 2 * k) (X : M.Cn) (hX : M.right (s.at k) = X) (hn0 : 0 ≤ X.n) (hn3 : X.n ≤ 3) (w : World) : Calls Try.prog 11 #[.agg s.a, .int .i64 reg] w fun e w' => e = .returned (.tuple #[.agg (s.set (M.sTake X) k).a, .int .u8 (M.sTakeV X)]) ∧ Below w.heap.size w w' := by
  have hS := St.start w.heap.size 0 0 w
  obtain ⟨t0, t1, t2, t3⟩ := and1_tab
  obtain ⟨c0, c1⟩ := s
  have HX := Lib.hid hX
  clear hX
  rcases (show k = 0 ∨ k = 1 by omega) with rfl | rfl
  · obtain rfl : reg = 0 := by omega
    clear hreg
    have HX : Hid (M.right c0 = X) := HX
    go_enter Try.func11, Try.ntmps11
    go_wp2_with (first
  | ((with_reducible refine to_box ?_); refine Wl_box hS (fun _ => by rfl) _ rfl ?_; clear hS; intro b2 wW hS; simp only [Act.put, List.setIfInBounds_toArray, List.set_cons_zero, List.set_cons_succ]; replace hS := hS.split17)
  | ((with_reducible refine to_alloc 28 rfl ?_); refine Wl_alloc hS (fun _ => by rfl) _ siZ ?_; clear hS; intro b4 wW hS; simp only [Act.put, List.setIfInBounds_toArray, List.set_cons_zero, List.set_cons_succ])
  | ((with_reducible refine to_load 28 rfl ?_); refine Wl_load2 hS (fun _ => by rfl) _ rfl _ Try.underlying28 rfl siI ?_; (repeat (first | (refine Row2.here ?_) | refine Row2.next ?_)); (with_reducible show wpList _ _ _ _ _ _); simp only [Act.put, List.setIfInBounds_toArray, List.set_cons_zero, List.set_cons_succ])
  | ((with_reducible refine to_store 28 rfl ?_); refine Wl_store hS (fun _ => by rfl) _ _ _ rfl rfl (siI.trans rfl) (si_one _) ?_; (repeat (first | refine Turn.here rfl ?_ | refine Turn.next ?_)); clear hS; intro wW hS; try simp only [Act.put, List.setIfInBounds_toArray, List.set_cons_zero, List.set_cons_succ])
  | ((with_reducible first | refine to_load 3 rfl ?_ | refine to_load 4 rfl ?_ | refine to_load 5 rfl ?_); refine Wl_load1 hS (fun _ => by rfl) _ _ rfl (scT _ rfl) ?_; (repeat (first | refine Look.here (of_decide_eq_true rfl) rfl ?_ | refine Look.next ?_)); (with_reducible show wpList _ _ _ _ _ _); simp only [Act.put, List.setIfInBounds_toArray, List.set_cons_zero, List.set_cons_succ])
  | ((with_reducible first | refine to_store 3 rfl ?_ | refine to_store 4 rfl ?_ | refine to_store 5 rfl ?_); (first | refine Wl_store1 hS (fun _ => by rfl) _ _ (.int _ _) rfl rfl (scT _ rfl) rfl rfl ?_ | refine Wl_store1 hS (fun _ => by rfl) _ _ (.bool _) rfl rfl (scT _ rfl) rfl rfl ?_); (repeat (first | refine Turn1.here (of_decide_eq_true rfl) (of_decide_eq_true rfl) ?_ | refine Turn1.next ?_)); clear hS; intro wW hS; (try simp only [Act.put, List.setIfInBounds_toArray, List.set_cons_zero, List.set_cons_succ]); try simp only [Nat.sub_zero, Nat.reduceSub, cn_ss] at hS))
    refine (channel_in 0 (by omega) _ (.inl rfl) _ c0 _ (hS.chan (.tail _ (.head _))).1 (hS.chan (.tail _ (.head _))).2.1 (hS.chan (.tail _ (.head _))).2.2).mono ?_
    rintro e w1 ⟨rfl, hr, ht⟩
    replace hS := hS.callT (.tail _ (.head _ _ _ _ _)) hr ht rfl
    clear hr ht
    rw [HX.out] at hS
    go_wp2_with (first
  | ((with_reducible refine to_box ?_); refine Wl_box hS (fun _ => by rfl) _ rfl ?_; clear hS; intro b2 wW hS; simp only [Act.put, List.setIfInBounds_toArray, List.set_cons_zero, List.set_cons_succ]; replace hS := hS.split17)
  | ((with_reducible refine to_alloc 28 rfl ?_); refine Wl_alloc hS (fun _ => by rfl) _ siZ ?_; clear hS; intro b4 wW hS; simp only [Act.put, List.setIfInBounds_toArray, List.set_cons_zero, List.set_cons_succ])
  | ((with_reducible refine to_load 28 rfl ?_); refine Wl_load2 hS (fun _ => by rfl) _ rfl _ Try.underlying28 rfl siI ?_; (repeat (first | (refine Row2.here ?_) | refine Row2.next ?_)); (with_reducible show wpList _ _ _ _ _ _); simp only [Act.put, List.setIfInBounds_toArray, List.set_cons_zero, List.set_cons_succ])
  | ((with_reducible refine to_store 28 rfl ?_); refine Wl_store hS (fun _ => by rfl) _ _ _ rfl rfl (siI.trans rfl) (si_one _) ?_; (repeat (first | refine Turn.here rfl ?_ | refine Turn.next ?_)); clear hS; intro wW hS; try simp only [Act.put, List.setIfInBounds_toArray, List.set_cons_zero, List.set_cons_succ])
  | ((with_reducible first | refine to_load 3 rfl ?_ | refine to_load 4 rfl ?_ | refine to_load 5 rfl ?_); refine Wl_load1 hS (fun _ => by rfl) _ _ rfl (scT _ rfl) ?_; (repeat (first | refine Look.here (of_decide_eq_true rfl) rfl ?_ | refine Look.next ?_)); (with_reducible show wpList _ _ _ _ _ _); simp only [Act.put, List.setIfInBounds_toArray, List.set_cons_zero, List.set_cons_succ])
  | ((with_reducible first | refine to_store 3 rfl ?_ | refine to_store 4 rfl ?_ | refine to_store 5 rfl ?_); (first | refine Wl_store1 hS (fun _ => by rfl) _ _ (.int _ _) rfl rfl (scT _ rfl) rfl rfl ?_ | refine Wl_store1 hS (fun _ => by rfl) _ _ (.bool _) rfl rfl (scT _ rfl) rfl rfl ?_); (repeat (first | refine Turn1.here (of_decide_eq_true rfl) (of_decide_eq_true rfl) ?_ | refine Turn1.next ?_)); clear hS; intro wW hS; (try simp only [Act.put, List.setIfInBounds_toArray, List.set_cons_zero, List.set_cons_succ]); try simp only [Nat.sub_zero, Nat.reduceSub, cn_ss] at hS))
    refine (take_any 0 (by omega) _ X hn0 hn3 _ (hS.chan (.tail _ (.head _))).1 (hS.chan (.tail _ (.head _))).2.1 (hS.chan (.tail _ (.head _))).2.2).mono ?_
    rintro e w1 ⟨rfl, hr, ht⟩
    first
      | replace hS := hS.callT (.head _ _ _ _ _) hr ht rfl
      | replace hS := hS.callT (.tail _ (.head _ _ _ _ _)) hr ht rfl
      | replace hS := hS.callT (.tail _ (.tail _ (.head _ _ _ _ _))) hr ht rfl
      | replace hS := hS.callT (.tail _ (.tail _ (.tail _ (.head _ _ _ _ _)))) hr ht rfl
      | replace hS := hS.callT (.tail _ (.tail _ (.tail _ (.tail _ (.head _ _ _ _ _))))) hr ht rfl
    clear hr ht
    go_wp2_with (first
  | ((with_reducible refine to_box ?_); refine Wl_box hS (fun _ => by rfl) _ rfl ?_; clear hS; intro b2 wW hS; simp only [Act.put, List.setIfInBounds_toArray, List.set_cons_zero, List.set_cons_succ]; replace hS := hS.split17)
  | ((with_reducible refine to_alloc 28 rfl ?_); refine Wl_alloc hS (fun _ => by rfl) _ siZ ?_; clear hS; intro b4 wW hS; simp only [Act.put, List.setIfInBounds_toArray, List.set_cons_zero, List.set_cons_succ])
  | ((with_reducible refine to_load 28 rfl ?_); refine Wl_load2 hS (fun _ => by rfl) _ rfl _ Try.underlying28 rfl siI ?_; (repeat (first | (refine Row2.here ?_) | refine Row2.next ?_)); (with_reducible show wpList _ _ _ _ _ _); simp only [Act.put, List.setIfInBounds_toArray, List.set_cons_zero, List.set_cons_succ])
  | ((with_reducible refine to_store 28 rfl ?_); refine Wl_store hS (fun _ => by rfl) _ _ _ rfl rfl (siI.trans rfl) (si_one _) ?_; (repeat (first | refine Turn.here rfl ?_ | refine Turn.next ?_)); clear hS; intro wW hS; try simp only [Act.put, List.setIfInBounds_toArray, List.set_cons_zero, List.set_cons_succ])
  | ((with_reducible first | refine to_load 3 rfl ?_ | refine to_load 4 rfl ?_ | refine to_load 5 rfl ?_); refine Wl_load1 hS (fun _ => by rfl) _ _ rfl (scT _ rfl) ?_; (repeat (first | refine Look.here (of_decide_eq_true rfl) rfl ?_ | refine Look.next ?_)); (with_reducible show wpList _ _ _ _ _ _); simp only [Act.put, List.setIfInBounds_toArray, List.set_cons_zero, List.set_cons_succ])
  | ((with_reducible first | refine to_store 3 rfl ?_ | refine to_store 4 rfl ?_ | refine to_store 5 rfl ?_); (first | refine Wl_store1 hS (fun _ => by rfl) _ _ (.int _ _) rfl rfl (scT _ rfl) rfl rfl ?_ | refine Wl_store1 hS (fun _ => by rfl) _ _ (.bool _) rfl rfl (scT _ rfl) rfl rfl ?_); (repeat (first | refine Turn1.here (of_decide_eq_true rfl) (of_decide_eq_true rfl) ?_ | refine Turn1.next ?_)); clear hS; intro wW hS; (try simp only [Act.put, List.setIfInBounds_toArray, List.set_cons_zero, List.set_cons_succ]); try simp only [Nat.sub_zero, Nat.reduceSub, cn_ss] at hS))
    refine ret_tmp_st hS rfl _ _ rfl _ rfl rfl _ Try.underlying28 rfl ?_
    repeat (first | (refine Row.here ⟨siI.trans rfl, ?_⟩) | refine Row.next ?_)
    exact ⟨rfl, hS.below⟩
  · obtain rfl : reg = 2 := by omega
    clear hreg
    have HX : Hid (M.right c1 = X) := HX
    go_enter Try.func11, Try.ntmps11
    go_wp2_with (first
  | ((with_reducible refine to_box ?_); refine Wl_box hS (fun _ => by rfl) _ rfl ?_; clear hS; intro b2 wW hS; simp only [Act.put, List.setIfInBounds_toArray, List.set_cons_zero, List.set_cons_succ]; replace hS := hS.split17)
  | ((with_reducible refine to_alloc 28 rfl ?_); refine Wl_alloc hS (fun _ => by rfl) _ siZ ?_; clear hS; intro b4 wW hS; simp only [Act.put, List.setIfInBounds_toArray, List.set_cons_zero, List.set_cons_succ])
  | ((with_reducible refine to_load 28 rfl ?_); refine Wl_load2 hS (fun _ => by rfl) _ rfl _ Try.underlying28 rfl siI ?_; (repeat (first | (refine Row2.here ?_) | refine Row2.next ?_)); (with_reducible show wpList _ _ _ _ _ _); simp only [Act.put, List.setIfInBounds_toArray, List.set_cons_zero, List.set_cons_succ])
  | ((with_reducible refine to_store 28 rfl ?_); refine Wl_store hS (fun _ => by rfl) _ _ _ rfl rfl (siI.trans rfl) (si_one _) ?_; (repeat (first | refine Turn.here rfl ?_ | refine Turn.next ?_)); clear hS; intro wW hS; try simp only [Act.put, List.setIfInBounds_toArray, List.set_cons_zero, List.set_cons_succ])
  | ((with_reducible first | refine to_load 3 rfl ?_ | refine to_load 4 rfl ?_ | refine to_load 5 rfl ?_); refine Wl_load1 hS (fun _ => by rfl) _ _ rfl (scT _ rfl) ?_; (repeat (first | refine Look.here (of_decide_eq_true rfl) rfl ?_ | refine Look.next ?_)); (with_reducible show wpList _ _ _ _ _ _); simp only [Act.put, List.setIfInBounds_toArray, List.set_cons_zero, List.set_cons_succ])
  | ((with_reducible first | refine to_store 3 rfl ?_ | refine to_store 4 rfl ?_ | refine to_store 5 rfl ?_); (first | refine Wl_store1 hS (fun _ => by rfl) _ _ (.int _ _) rfl rfl (scT _ rfl) rfl rfl ?_ | refine Wl_store1 hS (fun _ => by rfl) _ _ (.bool _) rfl rfl (scT _ rfl) rfl rfl ?_); (repeat (first | refine Turn1.here (of_decide_eq_true rfl) (of_decide_eq_true rfl) ?_ | refine Turn1.next ?_)); clear hS; intro wW hS; (try simp only [Act.put, List.setIfInBounds_toArray, List.set_cons_zero, List.set_cons_succ]); try simp only [Nat.sub_zero, Nat.reduceSub, cn_ss] at hS))
    refine (channel_in 1 (by omega) _ (.inl rfl) _ c1 _ (hS.chan (.tail _ (.tail _ (.head _)))).1 (hS.chan (.tail _ (.tail _ (.head _)))).2.1 (hS.chan (.tail _ (.tail _ (.head _)))).2.2).mono ?_
    rintro e w1 ⟨rfl, hr, ht⟩
    replace hS := hS.callT (.tail _ (.tail _ (.head _ _ _ _ _))) hr ht rfl
    clear hr ht
    rw [HX.out] at hS
    go_wp2_with (first
  | ((with_reducible refine to_box ?_); refine Wl_box hS (fun _ => by rfl) _ rfl ?_; clear hS; intro b2 wW hS; simp only [Act.put, List.setIfInBounds_toArray, List.set_cons_zero, List.set_cons_succ]; replace hS := hS.split17)
  | ((with_reducible refine to_alloc 28 rfl ?_); refine Wl_alloc hS (fun _ => by rfl) _ siZ ?_; clear hS; intro b4 wW hS; simp only [Act.put, List.setIfInBounds_toArray, List.set_cons_zero, List.set_cons_succ])
  | ((with_reducible refine to_load 28 rfl ?_); refine Wl_load2 hS (fun _ => by rfl) _ rfl _ Try.underlying28 rfl siI ?_; (repeat (first | (refine Row2.here ?_) | refine Row2.next ?_)); (with_reducible show wpList _ _ _ _ _ _); simp only [Act.put, List.setIfInBounds_toArray, List.set_cons_zero, List.set_cons_succ])
  | ((with_reducible refine to_store 28 rfl ?_); refine Wl_store hS (fun _ => by rfl) _ _ _ rfl rfl (siI.trans rfl) (si_one _) ?_; (repeat (first | refine Turn.here rfl ?_ | refine Turn.next ?_)); clear hS; intro wW hS; try simp only [Act.put, List.setIfInBounds_toArray, List.set_cons_zero, List.set_cons_succ])
  | ((with_reducible first | refine to_load 3 rfl ?_ | refine to_load 4 rfl ?_ | refine to_load 5 rfl ?_); refine Wl_load1 hS (fun _ => by rfl) _ _ rfl (scT _ rfl) ?_; (repeat (first | refine Look.here (of_decide_eq_true rfl) rfl ?_ | refine Look.next ?_)); (with_reducible show wpList _ _ _ _ _ _); simp only [Act.put, List.setIfInBounds_toArray, List.set_cons_zero, List.set_cons_succ])
  | ((with_reducible first | refine to_store 3 rfl ?_ | refine to_store 4 rfl ?_ | refine to_store 5 rfl ?_); (first | refine Wl_store1 hS (fun _ => by rfl) _ _ (.int _ _) rfl rfl (scT _ rfl) rfl rfl ?_ | refine Wl_store1 hS (fun _ => by rfl) _ _ (.bool _) rfl rfl (scT _ rfl) rfl rfl ?_); (repeat (first | refine Turn1.here (of_decide_eq_true rfl) (of_decide_eq_true rfl) ?_ | refine Turn1.next ?_)); clear hS; intro wW hS; (try simp only [Act.put, List.setIfInBounds_toArray, List.set_cons_zero, List.set_cons_succ]); try simp only [Nat.sub_zero, Nat.reduceSub, cn_ss] at hS))
    refine (take_any 1 (by omega) _ X hn0 hn3 _ (hS.chan (.tail _ (.tail _ (.head _)))).1 (hS.chan (.tail _ (.tail _ (.head _)))).2.1 (hS.chan (.tail _ (.tail _ (.head _)))).2.2).mono ?_
    rintro e w1 ⟨rfl, hr, ht⟩
    first
      | replace hS := hS.callT (.head _ _ _ _ _) hr ht rfl
      | replace hS := hS.callT (.tail _ (.head _ _ _ _ _)) hr ht rfl
      | replace hS := hS.callT (.tail _ (.tail _ (.head _ _ _ _ _))) hr ht rfl
      | replace hS := hS.callT (.tail _ (.tail _ (.tail _ (.head _ _ _ _ _)))) hr ht rfl
      | replace hS := hS.callT (.tail _ (.tail _ (.tail _ (.tail _ (.head _ _ _ _ _))))) hr ht rfl
    clear hr ht
    go_wp2_with (first
  | ((with_reducible refine to_box ?_); refine Wl_box hS (fun _ => by rfl) _ rfl ?_; clear hS; intro b2 wW hS; simp only [Act.put, List.setIfInBounds_toArray, List.set_cons_zero, List.set_cons_succ]; replace hS := hS.split17)
  | ((with_reducible refine to_alloc 28 rfl ?_); refine Wl_alloc hS (fun _ => by rfl) _ siZ ?_; clear hS; intro b4 wW hS; simp only [Act.put, List.setIfInBounds_toArray, List.set_cons_zero, List.set_cons_succ])
  | ((with_reducible refine to_load 28 rfl ?_); refine Wl_load2 hS (fun _ => by rfl) _ rfl _ Try.underlying28 rfl siI ?_; (repeat (first | (refine Row2.here ?_) | refine Row2.next ?_)); (with_reducible show wpList _ _ _ _ _ _); simp only [Act.put, List.setIfInBounds_toArray, List.set_cons_zero, List.set_cons_succ])
  | ((with_reducible refine to_store 28 rfl ?_); refine Wl_store hS (fun _ => by rfl) _ _ _ rfl rfl (siI.trans rfl) (si_one _) ?_; (repeat (first | refine Turn.here rfl ?_ | refine Turn.next ?_)); clear hS; intro wW hS; try simp only [Act.put, List.setIfInBounds_toArray, List.set_cons_zero, List.set_cons_succ])
  | ((with_reducible first | refine to_load 3 rfl ?_ | refine to_load 4 rfl ?_ | refine to_load 5 rfl ?_); refine Wl_load1 hS (fun _ => by rfl) _ _ rfl (scT _ rfl) ?_; (repeat (first | refine Look.here (of_decide_eq_true rfl) rfl ?_ | refine Look.next ?_)); (with_reducible show wpList _ _ _ _ _ _); simp only [Act.put, List.setIfInBounds_toArray, List.set_cons_zero, List.set_cons_succ])
  | ((with_reducible first | refine to_store 3 rfl ?_ | refine to_store 4 rfl ?_ | refine to_store 5 rfl ?_); (first | refine Wl_store1 hS (fun _ => by rfl) _ _ (.int _ _) rfl rfl (scT _ rfl) rfl rfl ?_ | refine Wl_store1 hS (fun _ => by rfl) _ _ (.bool _) rfl rfl (scT _ rfl) rfl rfl ?_); (repeat (first | refine Turn1.here (of_decide_eq_true rfl) (of_decide_eq_true rfl) ?_ | refine Turn1.next ?_)); clear hS; intro wW hS; (try simp only [Act.put, List.setIfInBounds_toArray, List.set_cons_zero, List.set_cons_succ]); try simp only [Nat.sub_zero, Nat.reduceSub, cn_ss] at hS))
    refine ret_tmp_st hS rfl _ _ rfl _ rfl rfl _ Try.underlying28 rfl ?_
    repeat (first | (refine Row.here ⟨siI.trans rfl, ?_⟩) | refine Row.next ?_)
    exact ⟨rfl, hS.below⟩
theorem St.cellq {B o n : Nat} {w W : World} {es : List Ent} {b q j : Nat} {fr : Bool} {cs : Array Value} {v : Value} (h : St B o n w es W) (hm : (⟨b, q, fr, cs⟩ : Ent) ∈ es) (hq : q ≤ j) (hv : nth cs.toList (j - q) = some v) : W.cell? ⟨b, j, none⟩ = some v := by
  have := h.cell hm (j := j - q) (v := v) (by rw [nth_get] at hv; simpa using hv)
  rwa [show q + (j - q) = j by omega] at this
set_option maxHeartbeats 8000000 in
theorem sread_told (s : M.Si) (hs : s.ok) (k : Nat) (hk : k < 2) (reg : Int) (hreg : reg = 2 * k + 1) (X : M.Cn) (hX : M.right (s.at k) = X) (hp0 : 0 ≤ X.pt) (V : Int) (hV : M.statB (s.set X k) k X.pt = V) (w : World) : Calls Try.prog 11 #[.agg s.a, .int .i64 reg] w fun e w' => e = .returned (.tuple #[.agg (s.set { X with pt := 0 } k).a, .int .u8 V]) ∧ Below w.heap.size w w' := by
  have hS := St.start w.heap.size 0 0 w
  obtain ⟨t0, t1, t2, t3⟩ := and1_tab
  have hso : (s.set X k).ok := by rw [← hX]; exact M.set_ok hs (M.right_ok (by unfold M.Si.at; split; exact hs.1; exact hs.2)) k
  have ht := fun W => status_any (s.set X k) hso k hk X.pt hp0 W
  rw [hV] at ht
  obtain ⟨c0, c1⟩ := s
  have HX := Lib.hid hX
  have HT := Lib.hid ht
  clear hX ht hV hso hs
  rcases (show k = 0 ∨ k = 1 by omega) with rfl | rfl
  · obtain rfl : reg = 1 := by omega
    clear hreg
    have HX : Hid (M.right c0 = X) := HX
    have HT : Hid (∀ W, Calls Try.prog 38 #[.agg (M.Si.mk X c1).a, .int .i64 0, .int .i64 X.pt] W fun e w' => e = .returned (.int .u8 V) ∧ Below W.heap.size W w') := HT
    go_enter Try.func11, Try.ntmps11
    go_wp2_with (first
  | ((with_reducible refine to_box ?_); refine Wl_box hS (fun _ => by rfl) _ rfl ?_; clear hS; intro b2 wW hS; simp only [Act.put, List.setIfInBounds_toArray, List.set_cons_zero, List.set_cons_succ]; replace hS := hS.split17)
  | ((with_reducible refine to_alloc 28 rfl ?_); refine Wl_alloc hS (fun _ => by rfl) _ siZ ?_; clear hS; intro b4 wW hS; simp only [Act.put, List.setIfInBounds_toArray, List.set_cons_zero, List.set_cons_succ])
  | ((with_reducible refine to_load 28 rfl ?_); refine Wl_load2 hS (fun _ => by rfl) _ rfl _ Try.underlying28 rfl siI ?_; (repeat (first | (refine Row2.here ?_) | refine Row2.next ?_)); (with_reducible show wpList _ _ _ _ _ _); simp only [Act.put, List.setIfInBounds_toArray, List.set_cons_zero, List.set_cons_succ])
  | ((with_reducible refine to_store 28 rfl ?_); refine Wl_store hS (fun _ => by rfl) _ _ _ rfl rfl (siI.trans rfl) (si_one _) ?_; (repeat (first | refine Turn.here rfl ?_ | refine Turn.next ?_)); clear hS; intro wW hS; try simp only [Act.put, List.setIfInBounds_toArray, List.set_cons_zero, List.set_cons_succ])
  | ((with_reducible first | refine to_load 3 rfl ?_ | refine to_load 4 rfl ?_ | refine to_load 5 rfl ?_); refine Wl_load1 hS (fun _ => by rfl) _ _ rfl (scT _ rfl) ?_; (repeat (first | refine Look.here (of_decide_eq_true rfl) rfl ?_ | refine Look.next ?_)); (with_reducible show wpList _ _ _ _ _ _); simp only [Act.put, List.setIfInBounds_toArray, List.set_cons_zero, List.set_cons_succ])
  | ((with_reducible first | refine to_store 3 rfl ?_ | refine to_store 4 rfl ?_ | refine to_store 5 rfl ?_); (first | refine Wl_store1 hS (fun _ => by rfl) _ _ (.int _ _) rfl rfl (scT _ rfl) rfl rfl ?_ | refine Wl_store1 hS (fun _ => by rfl) _ _ (.bool _) rfl rfl (scT _ rfl) rfl rfl ?_); (repeat (first | refine Turn1.here (of_decide_eq_true rfl) (of_decide_eq_true rfl) ?_ | refine Turn1.next ?_)); clear hS; intro wW hS; (try simp only [Act.put, List.setIfInBounds_toArray, List.set_cons_zero, List.set_cons_succ]); try simp only [Nat.sub_zero, Nat.reduceSub, cn_ss] at hS))
    refine (channel_in 0 (by omega) _ (.inr rfl) _ c0 _ (hS.chan (.tail _ (.head _))).1 (hS.chan (.tail _ (.head _))).2.1 (hS.chan (.tail _ (.head _))).2.2).mono ?_
    rintro e w1 ⟨rfl, hr, ht⟩
    replace hS := hS.callT (.tail _ (.head _ _ _ _ _)) hr ht rfl
    clear hr ht
    rw [HX.out] at hS
    go_wp2_with (first
  | ((with_reducible refine to_box ?_); refine Wl_box hS (fun _ => by rfl) _ rfl ?_; clear hS; intro b2 wW hS; simp only [Act.put, List.setIfInBounds_toArray, List.set_cons_zero, List.set_cons_succ]; replace hS := hS.split17)
  | ((with_reducible refine to_alloc 28 rfl ?_); refine Wl_alloc hS (fun _ => by rfl) _ siZ ?_; clear hS; intro b4 wW hS; simp only [Act.put, List.setIfInBounds_toArray, List.set_cons_zero, List.set_cons_succ])
  | ((with_reducible refine to_load 28 rfl ?_); refine Wl_load2 hS (fun _ => by rfl) _ rfl _ Try.underlying28 rfl siI ?_; (repeat (first | (refine Row2.here ?_) | refine Row2.next ?_)); (with_reducible show wpList _ _ _ _ _ _); simp only [Act.put, List.setIfInBounds_toArray, List.set_cons_zero, List.set_cons_succ])
  | ((with_reducible refine to_store 28 rfl ?_); refine Wl_store hS (fun _ => by rfl) _ _ _ rfl rfl (siI.trans rfl) (si_one _) ?_; (repeat (first | refine Turn.here rfl ?_ | refine Turn.next ?_)); clear hS; intro wW hS; try simp only [Act.put, List.setIfInBounds_toArray, List.set_cons_zero, List.set_cons_succ])
  | ((with_reducible first | refine to_load 3 rfl ?_ | refine to_load 4 rfl ?_ | refine to_load 5 rfl ?_); refine Wl_load1 hS (fun _ => by rfl) _ _ rfl (scT _ rfl) ?_; (repeat (first | refine Look.here (of_decide_eq_true rfl) rfl ?_ | refine Look.next ?_)); (with_reducible show wpList _ _ _ _ _ _); simp only [Act.put, List.setIfInBounds_toArray, List.set_cons_zero, List.set_cons_succ])
  | ((with_reducible first | refine to_store 3 rfl ?_ | refine to_store 4 rfl ?_ | refine to_store 5 rfl ?_); (first | refine Wl_store1 hS (fun _ => by rfl) _ _ (.int _ _) rfl rfl (scT _ rfl) rfl rfl ?_ | refine Wl_store1 hS (fun _ => by rfl) _ _ (.bool _) rfl rfl (scT _ rfl) rfl rfl ?_); (repeat (first | refine Turn1.here (of_decide_eq_true rfl) (of_decide_eq_true rfl) ?_ | refine Turn1.next ?_)); clear hS; intro wW hS; (try simp only [Act.put, List.setIfInBounds_toArray, List.set_cons_zero, List.set_cons_succ]); try simp only [Nat.sub_zero, Nat.reduceSub, cn_ss] at hS))
    refine wp_region_held_drew (S := fun W => St w.heap.size 0 0 w [⟨b2, 0, true, X.a⟩, ⟨b2, 17, true, c1.a⟩] W) (by kernel_rfl) (hS.drew.sub (by repeat (first | exact List.Sublist.slnil | apply List.Sublist.cons_cons | apply List.Sublist.cons))) ?_
    intro _
    replace hS := hS.drew
    generalize World.drew _ = wX at hS ⊢
    first
      | refine wpAnyH_take (i := 0) rfl (by kernel_rfl) (by kernel_rfl) (by kernel_rfl) (fun _ _ _ h => h) (yields_row2 (by rfl) _ _ rfl _ rfl _ Try.underlying28 rfl siI _ _ _ _ _ _ _ _ _ (fun W hW => hW) (.head _) (.tail _ (.head _))) (hS.sub (by repeat (first | exact List.Sublist.slnil | apply List.Sublist.cons_cons | apply List.Sublist.cons))) ?_
      | refine wpAnyH_take (i := 0) rfl (by kernel_rfl) (by kernel_rfl) (by kernel_rfl) (fun _ _ _ h => h) (yields_row2 (by rfl) _ _ rfl _ rfl _ Try.underlying28 rfl siI _ _ _ _ _ _ _ _ _ (fun W hW => hW) (.tail _ (.head _)) (.tail _ (.tail _ (.head _)))) (hS.sub (by repeat (first | exact List.Sublist.slnil | apply List.Sublist.cons_cons | apply List.Sublist.cons))) ?_
      | refine wpAnyH_take (i := 0) rfl (by kernel_rfl) (by kernel_rfl) (by kernel_rfl) (fun _ _ _ h => h) (yields_row2 (by rfl) _ _ rfl _ rfl _ Try.underlying28 rfl siI _ _ _ _ _ _ _ _ _ (fun W hW => hW) (.tail _ (.tail _ (.head _))) (.tail _ (.tail _ (.tail _ (.head _))))) (hS.sub (by repeat (first | exact List.Sublist.slnil | apply List.Sublist.cons_cons | apply List.Sublist.cons))) ?_
    try simp only [Act.put, List.setIfInBounds_toArray, List.set_cons_zero, List.set_cons_succ, List.getElem_toArray, List.getElem_cons_succ, List.getElem_cons_zero]
    refine wpAnyH_take (i := 1) (v := ?_) rfl (by kernel_rfl) (by kernel_rfl) (by kernel_rfl) (fun _ _ _ h => h) (Or.inl ⟨by rfl, ?_⟩) (hS.sub (by repeat (first | exact List.Sublist.slnil | apply List.Sublist.cons_cons | apply List.Sublist.cons))) ?_
    rotate_left 1
    · intro W hW
      clear hW
      go_simp
      all_goals with_reducible rfl
    try simp only [Act.put, List.setIfInBounds_toArray, List.set_cons_zero, List.set_cons_succ, List.getElem_toArray, List.getElem_cons_succ, List.getElem_cons_zero]
    refine wpAnyH_take (i := 2) (v := ?_) rfl (by kernel_rfl) (by kernel_rfl) (by kernel_rfl) (fun _ _ _ h => h) (Or.inl ⟨by rfl, ?_⟩) (hS.sub (by repeat (first | exact List.Sublist.slnil | apply List.Sublist.cons_cons | apply List.Sublist.cons))) ?_
    rotate_left 1
    · intro W hW
      clear hW
      go_simp
      all_goals with_reducible rfl
    try simp only [Act.put, List.setIfInBounds_toArray, List.set_cons_zero, List.set_cons_succ, List.getElem_toArray, List.getElem_cons_succ, List.getElem_cons_zero]
    refine wpAnyH_take (i := 3) (v := ?_) rfl (by kernel_rfl) (by kernel_rfl) (by kernel_rfl) (fun _ _ _ h => h) (Or.inl ⟨by rfl, ?_⟩) (hS.sub (by repeat (first | exact List.Sublist.slnil | apply List.Sublist.cons_cons | apply List.Sublist.cons))) ?_
    rotate_left 1
    · intro W hW
      clear hW
      go_simp
      all_goals with_reducible rfl
    try simp only [Act.put, List.setIfInBounds_toArray, List.set_cons_zero, List.set_cons_succ, List.getElem_toArray, List.getElem_cons_succ, List.getElem_cons_zero]
    refine wpAnyH_take (i := 4) (v := ?_) rfl (by kernel_rfl) (by kernel_rfl) (by kernel_rfl) (fun _ _ _ h => h) (Or.inl ⟨by rfl, ?_⟩) (hS.sub (by repeat (first | exact List.Sublist.slnil | apply List.Sublist.cons_cons | apply List.Sublist.cons))) ?_
    rotate_left 1
    · intro W hW
      clear hW
      go_simp
      all_goals with_reducible rfl
    try simp only [Act.put, List.setIfInBounds_toArray, List.set_cons_zero, List.set_cons_succ, List.getElem_toArray, List.getElem_cons_succ, List.getElem_cons_zero]
    refine wpAnyH_take (i := 5) (v := ?_) rfl (by kernel_rfl) (by kernel_rfl) (by kernel_rfl) (fun _ _ _ h => h) (Or.inl ⟨by rfl, ?_⟩) (hS.sub (by repeat (first | exact List.Sublist.slnil | apply List.Sublist.cons_cons | apply List.Sublist.cons))) ?_
    rotate_left 1
    · intro W hW
      clear hW
      go_simp
      all_goals with_reducible rfl
    try simp only [Act.put, List.setIfInBounds_toArray, List.set_cons_zero, List.set_cons_succ, List.getElem_toArray, List.getElem_cons_succ, List.getElem_cons_zero]
    refine wpAnyH_take (i := 6) rfl (by kernel_rfl) (by kernel_rfl) (by kernel_rfl) (fun _ _ _ h => h) (yields_one (by rfl) _ _ rfl _ _ rfl sc3 _ (fun W hW => St.cellq hW (.head _) (of_decide_eq_true rfl) rfl)) (hS.sub (by repeat (first | exact List.Sublist.slnil | apply List.Sublist.cons_cons | apply List.Sublist.cons))) ?_
    try simp only [Act.put, List.setIfInBounds_toArray, List.set_cons_zero, List.set_cons_succ, List.getElem_toArray, List.getElem_cons_succ, List.getElem_cons_zero]
    refine wpAnyH_ready (rs := [7]) (by kernel_rfl) (by simp) (AllReadyH.cons rfl ?_ AllReadyH.nil)
    intro K1 hK1
    rw [if_pos (by rfl)]
    try simp only [Act.put, List.setIfInBounds_toArray, List.set_cons_zero, List.set_cons_succ, List.getElem_toArray, List.getElem_cons_succ, List.getElem_cons_zero]
    go_simp
    refine (HT.out _).mono ?_
    rintro e1 v2 ⟨rfl, hb⟩
    replace hS := hS.call hb
    clear hb
    refine hK1.out _ _ (hS.sub (by repeat (first | exact List.Sublist.slnil | apply List.Sublist.cons_cons | apply List.Sublist.cons))) (fun _ => ?_)
    clear hK1
    try simp only [Act.put, List.setIfInBounds_toArray, List.set_cons_zero, List.set_cons_succ, List.getElem_toArray, List.getElem_cons_succ, List.getElem_cons_zero]
    refine wpAnyH_take (i := 8) (v := ?_) rfl (by kernel_rfl) (by kernel_rfl) (by kernel_rfl) (fun _ _ _ h => h) (Or.inl ⟨by rfl, ?_⟩) (hS.sub (by repeat (first | exact List.Sublist.slnil | apply List.Sublist.cons_cons | apply List.Sublist.cons))) ?_
    rotate_left 1
    · intro W hW
      clear hW
      go_simp
      all_goals with_reducible rfl
    try simp only [Act.put, List.setIfInBounds_toArray, List.set_cons_zero, List.set_cons_succ, List.getElem_toArray, List.getElem_cons_succ, List.getElem_cons_zero]
    refine wpAnyH_done (by kernel_rfl) ?_ _
    go_wp2_with (first
  | ((with_reducible refine to_box ?_); refine Wl_box hS (fun _ => by rfl) _ rfl ?_; clear hS; intro b2 wW hS; simp only [Act.put, List.setIfInBounds_toArray, List.set_cons_zero, List.set_cons_succ]; replace hS := hS.split17)
  | ((with_reducible refine to_alloc 28 rfl ?_); refine Wl_alloc hS (fun _ => by rfl) _ siZ ?_; clear hS; intro b4 wW hS; simp only [Act.put, List.setIfInBounds_toArray, List.set_cons_zero, List.set_cons_succ])
  | ((with_reducible refine to_load 28 rfl ?_); refine Wl_load2 hS (fun _ => by rfl) _ rfl _ Try.underlying28 rfl siI ?_; (repeat (first | (refine Row2.here ?_) | refine Row2.next ?_)); (with_reducible show wpList _ _ _ _ _ _); simp only [Act.put, List.setIfInBounds_toArray, List.set_cons_zero, List.set_cons_succ])
  | ((with_reducible refine to_store 28 rfl ?_); refine Wl_store hS (fun _ => by rfl) _ _ _ rfl rfl (siI.trans rfl) (si_one _) ?_; (repeat (first | refine Turn.here rfl ?_ | refine Turn.next ?_)); clear hS; intro wW hS; try simp only [Act.put, List.setIfInBounds_toArray, List.set_cons_zero, List.set_cons_succ])
  | ((with_reducible first | refine to_load 3 rfl ?_ | refine to_load 4 rfl ?_ | refine to_load 5 rfl ?_); refine Wl_load1 hS (fun _ => by rfl) _ _ rfl (scT _ rfl) ?_; (repeat (first | refine Look.here (of_decide_eq_true rfl) rfl ?_ | refine Look.next ?_)); (with_reducible show wpList _ _ _ _ _ _); simp only [Act.put, List.setIfInBounds_toArray, List.set_cons_zero, List.set_cons_succ])
  | ((with_reducible first | refine to_store 3 rfl ?_ | refine to_store 4 rfl ?_ | refine to_store 5 rfl ?_); (first | refine Wl_store1 hS (fun _ => by rfl) _ _ (.int _ _) rfl rfl (scT _ rfl) rfl rfl ?_ | refine Wl_store1 hS (fun _ => by rfl) _ _ (.bool _) rfl rfl (scT _ rfl) rfl rfl ?_); (repeat (first | refine Turn1.here (of_decide_eq_true rfl) (of_decide_eq_true rfl) ?_ | refine Turn1.next ?_)); clear hS; intro wW hS; (try simp only [Act.put, List.setIfInBounds_toArray, List.set_cons_zero, List.set_cons_succ]); try simp only [Nat.sub_zero, Nat.reduceSub, cn_ss] at hS))
    refine ret_tmp_st hS rfl _ _ rfl _ rfl rfl _ Try.underlying28 rfl ?_
    repeat (first | (refine Row.here ⟨siI.trans rfl, ?_⟩) | refine Row.next ?_)
    exact ⟨rfl, hS.below⟩
  · obtain rfl : reg = 3 := by omega
    clear hreg
    have HX : Hid (M.right c1 = X) := HX
    have HT : Hid (∀ W, Calls Try.prog 38 #[.agg (M.Si.mk c0 X).a, .int .i64 1, .int .i64 X.pt] W fun e w' => e = .returned (.int .u8 V) ∧ Below W.heap.size W w') := HT
    go_enter Try.func11, Try.ntmps11
    go_wp2_with (first
  | ((with_reducible refine to_box ?_); refine Wl_box hS (fun _ => by rfl) _ rfl ?_; clear hS; intro b2 wW hS; simp only [Act.put, List.setIfInBounds_toArray, List.set_cons_zero, List.set_cons_succ]; replace hS := hS.split17)
  | ((with_reducible refine to_alloc 28 rfl ?_); refine Wl_alloc hS (fun _ => by rfl) _ siZ ?_; clear hS; intro b4 wW hS; simp only [Act.put, List.setIfInBounds_toArray, List.set_cons_zero, List.set_cons_succ])
  | ((with_reducible refine to_load 28 rfl ?_); refine Wl_load2 hS (fun _ => by rfl) _ rfl _ Try.underlying28 rfl siI ?_; (repeat (first | (refine Row2.here ?_) | refine Row2.next ?_)); (with_reducible show wpList _ _ _ _ _ _); simp only [Act.put, List.setIfInBounds_toArray, List.set_cons_zero, List.set_cons_succ])
  | ((with_reducible refine to_store 28 rfl ?_); refine Wl_store hS (fun _ => by rfl) _ _ _ rfl rfl (siI.trans rfl) (si_one _) ?_; (repeat (first | refine Turn.here rfl ?_ | refine Turn.next ?_)); clear hS; intro wW hS; try simp only [Act.put, List.setIfInBounds_toArray, List.set_cons_zero, List.set_cons_succ])
  | ((with_reducible first | refine to_load 3 rfl ?_ | refine to_load 4 rfl ?_ | refine to_load 5 rfl ?_); refine Wl_load1 hS (fun _ => by rfl) _ _ rfl (scT _ rfl) ?_; (repeat (first | refine Look.here (of_decide_eq_true rfl) rfl ?_ | refine Look.next ?_)); (with_reducible show wpList _ _ _ _ _ _); simp only [Act.put, List.setIfInBounds_toArray, List.set_cons_zero, List.set_cons_succ])
  | ((with_reducible first | refine to_store 3 rfl ?_ | refine to_store 4 rfl ?_ | refine to_store 5 rfl ?_); (first | refine Wl_store1 hS (fun _ => by rfl) _ _ (.int _ _) rfl rfl (scT _ rfl) rfl rfl ?_ | refine Wl_store1 hS (fun _ => by rfl) _ _ (.bool _) rfl rfl (scT _ rfl) rfl rfl ?_); (repeat (first | refine Turn1.here (of_decide_eq_true rfl) (of_decide_eq_true rfl) ?_ | refine Turn1.next ?_)); clear hS; intro wW hS; (try simp only [Act.put, List.setIfInBounds_toArray, List.set_cons_zero, List.set_cons_succ]); try simp only [Nat.sub_zero, Nat.reduceSub, cn_ss] at hS))
    refine (channel_in 1 (by omega) _ (.inr rfl) _ c1 _ (hS.chan (.tail _ (.tail _ (.head _)))).1 (hS.chan (.tail _ (.tail _ (.head _)))).2.1 (hS.chan (.tail _ (.tail _ (.head _)))).2.2).mono ?_
    rintro e w1 ⟨rfl, hr, ht⟩
    replace hS := hS.callT (.tail _ (.tail _ (.head _ _ _ _ _))) hr ht rfl
    clear hr ht
    rw [HX.out] at hS
    go_wp2_with (first
  | ((with_reducible refine to_box ?_); refine Wl_box hS (fun _ => by rfl) _ rfl ?_; clear hS; intro b2 wW hS; simp only [Act.put, List.setIfInBounds_toArray, List.set_cons_zero, List.set_cons_succ]; replace hS := hS.split17)
  | ((with_reducible refine to_alloc 28 rfl ?_); refine Wl_alloc hS (fun _ => by rfl) _ siZ ?_; clear hS; intro b4 wW hS; simp only [Act.put, List.setIfInBounds_toArray, List.set_cons_zero, List.set_cons_succ])
  | ((with_reducible refine to_load 28 rfl ?_); refine Wl_load2 hS (fun _ => by rfl) _ rfl _ Try.underlying28 rfl siI ?_; (repeat (first | (refine Row2.here ?_) | refine Row2.next ?_)); (with_reducible show wpList _ _ _ _ _ _); simp only [Act.put, List.setIfInBounds_toArray, List.set_cons_zero, List.set_cons_succ])
  | ((with_reducible refine to_store 28 rfl ?_); refine Wl_store hS (fun _ => by rfl) _ _ _ rfl rfl (siI.trans rfl) (si_one _) ?_; (repeat (first | refine Turn.here rfl ?_ | refine Turn.next ?_)); clear hS; intro wW hS; try simp only [Act.put, List.setIfInBounds_toArray, List.set_cons_zero, List.set_cons_succ])
  | ((with_reducible first | refine to_load 3 rfl ?_ | refine to_load 4 rfl ?_ | refine to_load 5 rfl ?_); refine Wl_load1 hS (fun _ => by rfl) _ _ rfl (scT _ rfl) ?_; (repeat (first | refine Look.here (of_decide_eq_true rfl) rfl ?_ | refine Look.next ?_)); (with_reducible show wpList _ _ _ _ _ _); simp only [Act.put, List.setIfInBounds_toArray, List.set_cons_zero, List.set_cons_succ])
  | ((with_reducible first | refine to_store 3 rfl ?_ | refine to_store 4 rfl ?_ | refine to_store 5 rfl ?_); (first | refine Wl_store1 hS (fun _ => by rfl) _ _ (.int _ _) rfl rfl (scT _ rfl) rfl rfl ?_ | refine Wl_store1 hS (fun _ => by rfl) _ _ (.bool _) rfl rfl (scT _ rfl) rfl rfl ?_); (repeat (first | refine Turn1.here (of_decide_eq_true rfl) (of_decide_eq_true rfl) ?_ | refine Turn1.next ?_)); clear hS; intro wW hS; (try simp only [Act.put, List.setIfInBounds_toArray, List.set_cons_zero, List.set_cons_succ]); try simp only [Nat.sub_zero, Nat.reduceSub, cn_ss] at hS))
    refine wp_region_held_drew (S := fun W => St w.heap.size 0 0 w [⟨b2, 0, true, c0.a⟩, ⟨b2, 17, true, X.a⟩] W) (by kernel_rfl) (hS.drew.sub (by repeat (first | exact List.Sublist.slnil | apply List.Sublist.cons_cons | apply List.Sublist.cons))) ?_
    intro _
    replace hS := hS.drew
    generalize World.drew _ = wX at hS ⊢
    first
      | refine wpAnyH_take (i := 0) rfl (by kernel_rfl) (by kernel_rfl) (by kernel_rfl) (fun _ _ _ h => h) (yields_row2 (by rfl) _ _ rfl _ rfl _ Try.underlying28 rfl siI _ _ _ _ _ _ _ _ _ (fun W hW => hW) (.head _) (.tail _ (.head _))) (hS.sub (by repeat (first | exact List.Sublist.slnil | apply List.Sublist.cons_cons | apply List.Sublist.cons))) ?_
      | refine wpAnyH_take (i := 0) rfl (by kernel_rfl) (by kernel_rfl) (by kernel_rfl) (fun _ _ _ h => h) (yields_row2 (by rfl) _ _ rfl _ rfl _ Try.underlying28 rfl siI _ _ _ _ _ _ _ _ _ (fun W hW => hW) (.tail _ (.head _)) (.tail _ (.tail _ (.head _)))) (hS.sub (by repeat (first | exact List.Sublist.slnil | apply List.Sublist.cons_cons | apply List.Sublist.cons))) ?_
      | refine wpAnyH_take (i := 0) rfl (by kernel_rfl) (by kernel_rfl) (by kernel_rfl) (fun _ _ _ h => h) (yields_row2 (by rfl) _ _ rfl _ rfl _ Try.underlying28 rfl siI _ _ _ _ _ _ _ _ _ (fun W hW => hW) (.tail _ (.tail _ (.head _))) (.tail _ (.tail _ (.tail _ (.head _))))) (hS.sub (by repeat (first | exact List.Sublist.slnil | apply List.Sublist.cons_cons | apply List.Sublist.cons))) ?_
    try simp only [Act.put, List.setIfInBounds_toArray, List.set_cons_zero, List.set_cons_succ, List.getElem_toArray, List.getElem_cons_succ, List.getElem_cons_zero]
    refine wpAnyH_take (i := 1) (v := ?_) rfl (by kernel_rfl) (by kernel_rfl) (by kernel_rfl) (fun _ _ _ h => h) (Or.inl ⟨by rfl, ?_⟩) (hS.sub (by repeat (first | exact List.Sublist.slnil | apply List.Sublist.cons_cons | apply List.Sublist.cons))) ?_
    rotate_left 1
    · intro W hW
      clear hW
      go_simp
      all_goals with_reducible rfl
    try simp only [Act.put, List.setIfInBounds_toArray, List.set_cons_zero, List.set_cons_succ, List.getElem_toArray, List.getElem_cons_succ, List.getElem_cons_zero]
    refine wpAnyH_take (i := 2) (v := ?_) rfl (by kernel_rfl) (by kernel_rfl) (by kernel_rfl) (fun _ _ _ h => h) (Or.inl ⟨by rfl, ?_⟩) (hS.sub (by repeat (first | exact List.Sublist.slnil | apply List.Sublist.cons_cons | apply List.Sublist.cons))) ?_
    rotate_left 1
    · intro W hW
      clear hW
      go_simp
      all_goals with_reducible rfl
    try simp only [Act.put, List.setIfInBounds_toArray, List.set_cons_zero, List.set_cons_succ, List.getElem_toArray, List.getElem_cons_succ, List.getElem_cons_zero]
    refine wpAnyH_take (i := 3) (v := ?_) rfl (by kernel_rfl) (by kernel_rfl) (by kernel_rfl) (fun _ _ _ h => h) (Or.inl ⟨by rfl, ?_⟩) (hS.sub (by repeat (first | exact List.Sublist.slnil | apply List.Sublist.cons_cons | apply List.Sublist.cons))) ?_
    rotate_left 1
    · intro W hW
      clear hW
      go_simp
      all_goals with_reducible rfl
    try simp only [Act.put, List.setIfInBounds_toArray, List.set_cons_zero, List.set_cons_succ, List.getElem_toArray, List.getElem_cons_succ, List.getElem_cons_zero]
    refine wpAnyH_take (i := 4) (v := ?_) rfl (by kernel_rfl) (by kernel_rfl) (by kernel_rfl) (fun _ _ _ h => h) (Or.inl ⟨by rfl, ?_⟩) (hS.sub (by repeat (first | exact List.Sublist.slnil | apply List.Sublist.cons_cons | apply List.Sublist.cons))) ?_
    rotate_left 1
    · intro W hW
      clear hW
      go_simp
      all_goals with_reducible rfl
    try simp only [Act.put, List.setIfInBounds_toArray, List.set_cons_zero, List.set_cons_succ, List.getElem_toArray, List.getElem_cons_succ, List.getElem_cons_zero]
    refine wpAnyH_take (i := 5) (v := ?_) rfl (by kernel_rfl) (by kernel_rfl) (by kernel_rfl) (fun _ _ _ h => h) (Or.inl ⟨by rfl, ?_⟩) (hS.sub (by repeat (first | exact List.Sublist.slnil | apply List.Sublist.cons_cons | apply List.Sublist.cons))) ?_
    rotate_left 1
    · intro W hW
      clear hW
      go_simp
      all_goals with_reducible rfl
    try simp only [Act.put, List.setIfInBounds_toArray, List.set_cons_zero, List.set_cons_succ, List.getElem_toArray, List.getElem_cons_succ, List.getElem_cons_zero]
    refine wpAnyH_take (i := 6) rfl (by kernel_rfl) (by kernel_rfl) (by kernel_rfl) (fun _ _ _ h => h) (yields_one (by rfl) _ _ rfl _ _ rfl sc3 _ (fun W hW => St.cellq hW (.tail _ (.head _)) (of_decide_eq_true rfl) rfl)) (hS.sub (by repeat (first | exact List.Sublist.slnil | apply List.Sublist.cons_cons | apply List.Sublist.cons))) ?_
    try simp only [Act.put, List.setIfInBounds_toArray, List.set_cons_zero, List.set_cons_succ, List.getElem_toArray, List.getElem_cons_succ, List.getElem_cons_zero]
    refine wpAnyH_ready (rs := [7]) (by kernel_rfl) (by simp) (AllReadyH.cons rfl ?_ AllReadyH.nil)
    intro K1 hK1
    rw [if_pos (by rfl)]
    try simp only [Act.put, List.setIfInBounds_toArray, List.set_cons_zero, List.set_cons_succ, List.getElem_toArray, List.getElem_cons_succ, List.getElem_cons_zero]
    go_simp
    refine (HT.out _).mono ?_
    rintro e1 v2 ⟨rfl, hb⟩
    replace hS := hS.call hb
    clear hb
    refine hK1.out _ _ (hS.sub (by repeat (first | exact List.Sublist.slnil | apply List.Sublist.cons_cons | apply List.Sublist.cons))) (fun _ => ?_)
    clear hK1
    try simp only [Act.put, List.setIfInBounds_toArray, List.set_cons_zero, List.set_cons_succ, List.getElem_toArray, List.getElem_cons_succ, List.getElem_cons_zero]
    refine wpAnyH_take (i := 8) (v := ?_) rfl (by kernel_rfl) (by kernel_rfl) (by kernel_rfl) (fun _ _ _ h => h) (Or.inl ⟨by rfl, ?_⟩) (hS.sub (by repeat (first | exact List.Sublist.slnil | apply List.Sublist.cons_cons | apply List.Sublist.cons))) ?_
    rotate_left 1
    · intro W hW
      clear hW
      go_simp
      all_goals with_reducible rfl
    try simp only [Act.put, List.setIfInBounds_toArray, List.set_cons_zero, List.set_cons_succ, List.getElem_toArray, List.getElem_cons_succ, List.getElem_cons_zero]
    refine wpAnyH_done (by kernel_rfl) ?_ _
    go_wp2_with (first
  | ((with_reducible refine to_box ?_); refine Wl_box hS (fun _ => by rfl) _ rfl ?_; clear hS; intro b2 wW hS; simp only [Act.put, List.setIfInBounds_toArray, List.set_cons_zero, List.set_cons_succ]; replace hS := hS.split17)
  | ((with_reducible refine to_alloc 28 rfl ?_); refine Wl_alloc hS (fun _ => by rfl) _ siZ ?_; clear hS; intro b4 wW hS; simp only [Act.put, List.setIfInBounds_toArray, List.set_cons_zero, List.set_cons_succ])
  | ((with_reducible refine to_load 28 rfl ?_); refine Wl_load2 hS (fun _ => by rfl) _ rfl _ Try.underlying28 rfl siI ?_; (repeat (first | (refine Row2.here ?_) | refine Row2.next ?_)); (with_reducible show wpList _ _ _ _ _ _); simp only [Act.put, List.setIfInBounds_toArray, List.set_cons_zero, List.set_cons_succ])
  | ((with_reducible refine to_store 28 rfl ?_); refine Wl_store hS (fun _ => by rfl) _ _ _ rfl rfl (siI.trans rfl) (si_one _) ?_; (repeat (first | refine Turn.here rfl ?_ | refine Turn.next ?_)); clear hS; intro wW hS; try simp only [Act.put, List.setIfInBounds_toArray, List.set_cons_zero, List.set_cons_succ])
  | ((with_reducible first | refine to_load 3 rfl ?_ | refine to_load 4 rfl ?_ | refine to_load 5 rfl ?_); refine Wl_load1 hS (fun _ => by rfl) _ _ rfl (scT _ rfl) ?_; (repeat (first | refine Look.here (of_decide_eq_true rfl) rfl ?_ | refine Look.next ?_)); (with_reducible show wpList _ _ _ _ _ _); simp only [Act.put, List.setIfInBounds_toArray, List.set_cons_zero, List.set_cons_succ])
  | ((with_reducible first | refine to_store 3 rfl ?_ | refine to_store 4 rfl ?_ | refine to_store 5 rfl ?_); (first | refine Wl_store1 hS (fun _ => by rfl) _ _ (.int _ _) rfl rfl (scT _ rfl) rfl rfl ?_ | refine Wl_store1 hS (fun _ => by rfl) _ _ (.bool _) rfl rfl (scT _ rfl) rfl rfl ?_); (repeat (first | refine Turn1.here (of_decide_eq_true rfl) (of_decide_eq_true rfl) ?_ | refine Turn1.next ?_)); clear hS; intro wW hS; (try simp only [Act.put, List.setIfInBounds_toArray, List.set_cons_zero, List.set_cons_succ]); try simp only [Nat.sub_zero, Nat.reduceSub, cn_ss] at hS))
    refine ret_tmp_st hS rfl _ _ rfl _ rfl rfl _ Try.underlying28 rfl ?_
    repeat (first | (refine Row.here ⟨siI.trans rfl, ?_⟩) | refine Row.next ?_)
    exact ⟨rfl, hS.below⟩
/-- sio.Read: whatever the register. -/
theorem sread_any (s : M.Si) (hs : s.ok) (reg : Int) (w : World) : Calls Try.prog 11 #[.agg s.a, .int .i64 reg] w fun e w' => e = .returned (.tuple #[.agg (M.sReadP s reg).a, .int .u8 (M.sReadV s reg)]) ∧ Below w.heap.size w w' := by
  unfold M.sReadP M.sReadV
  by_cases hin : 0 ≤ reg ∧ reg ≤ 3
  · rw [if_pos hin, if_pos hin]
    have hk : reg = 0 ∨ reg = 1 ∨ reg = 2 ∨ reg = 3 := by omega
    have hf := fun k => M.fix_range (s.at k).n 3 (by omega)
    have hg := fun k => M.fix_range (s.at k).pt 7 (by omega)
    rcases hk with rfl | rfl | rfl | rfl
    · rw [if_neg (by decide), if_neg (by decide)]
      exact sread_take s 0 (by omega) 0 rfl _ rfl (hf 0).1 (hf 0).2 w
    · rw [if_pos (by decide), if_pos (by decide)]
      exact sread_told s hs 0 (by omega) 1 rfl _ rfl (hg 0).1 _ (M.statB_told s 0 (by omega)) w
    · rw [if_neg (by decide), if_neg (by decide)]
      exact sread_take s 1 (by omega) 2 rfl _ rfl (hf 1).1 (hf 1).2 w
    · rw [if_pos (by decide), if_pos (by decide)]
      exact sread_told s hs 1 (by omega) 3 rfl _ rfl (hg 1).1 _ (M.statB_told s 1 (by omega)) w
  · rw [if_neg hin, if_neg hin]
    exact sread_out s reg (by omega) w
end Go.Proofs.Ytlpoldnidojgmaa
