/- The reference's Receive and Send (charabancref25): whatever the channel. -/
import Derived.Test.YtlpoldnidojgmaaSioRef3
import Derived.Test.YtlpoldnidojgmaaSioRead
namespace Go.Proofs.Ytlpoldnidojgmaa
open Go.RowKit
set_option linter.unusedVariables false
set_option linter.unusedSimpArgs false
set_option maxRecDepth 100000
/-- charabancref25.Receive: whatever the channel, whatever the byte. -/
theorem rrecv_any (s : M.Si) (hs : s.ok) (k b : Int) (w : World) : Calls Try.prog 21 #[.agg s.a, .int .i64 k, .int .u8 b] w fun e w' => e = .returned (.agg (M.sRecv s k b).a) ∧ Below w.heap.size w w' := by
  by_cases hk : k = 0 ∨ k = 1
  · obtain ⟨n, rfl⟩ : ∃ n : Nat, k = n := ⟨k.toNat, by omega⟩
    have hn : n < 2 := by omega
    have hf := M.fix_range (s.at n).n 3 (by omega)
    have h := rrecv_in s n hn b _ rfl (M.right_ok (M.si_at_ok hs n)) hf.1 hf.2 _ rfl w
    unfold M.sRecv
    rw [Int.toNat_natCast]
    have he : M.is (M.right (s.at n)).w3 0 = M.is (s.at n).w3 0 := rfl
    rw [he] at h
    cases hi : M.is (s.at n).w3 0 with
    | true =>
      rw [hi] at h
      rw [if_pos ⟨hk, rfl⟩]
      exact h
    | false =>
      rw [hi] at h
      rw [if_neg (by simp)]
      exact h
  · have : M.sRecv s k b = s := by
      unfold M.sRecv
      rw [if_neg (fun h => hk h.1)]
    rw [this]
    exact rrecv_out s k b (by omega) w
set_option maxHeartbeats 8000000 in
theorem rsend_in (s : M.Si) (k : Nat) (hk : k < 2) (X : M.Cn) (hX : M.right (s.at k) = X) (hx : X.ok) (on : Bool) (ha : M.is X.w5 3 = on) (fu : Bool) (hf : X.full = fu) (says : Bool) (hsay : M.is X.w1 1 = says) (go : Bool) (hg : X.gone = go) (w : World) : Calls Try.prog 17 #[.agg s.a, .int .i64 k] w fun e w' =>
    e = .returned (.tuple #[.agg (if fu && on then s.set { X with full := false, gone := go || says } k else s).a, .int .u8 (if fu && on then X.tx else 0), .bool (fu && on)]) ∧ Below w.heap.size w w' := by
  have hS := St.start w.heap.size 0 0 w
  obtain ⟨c0, c1⟩ := s
  have hC := fun W => rright_any (M.Si.at ⟨c0, c1⟩ k) W
  rw [hX] at hC
  have HC := Lib.hid hC
  have hi := fun W => has_any X hx 5 (by omega) 3 W
  rw [show X.wget 5 = X.w5 from rfl, ha] at hi
  have HI := Lib.hid hi
  have hj := fun W => has_any { X with full := false } ⟨hx.w0, hx.w1, hx.w2, hx.w3, hx.w4, hx.w5, hx.w6, hx.w7, hx.pt, hx.f0, hx.f1, hx.f2, hx.n, hx.tx⟩ 1 (by omega) 1 W
  rw [show ({ X with full := false } : M.Cn).wget 1 = X.w1 from rfl, hsay] at hj
  have HJ := Lib.hid hj
  clear hX hC hi ha hx hj hsay
  obtain ⟨x0, x1, x2, x3, x4, x5, x6, x7, pt, f0, f1, f2, n, over, tx, full, gone⟩ := X
  simp only at hf hg
  subst hf hg
  dsimp only at HC HI HJ
  cases on
  · cases full <;> rcases (show k = 0 ∨ k = 1 by omega) with rfl | rfl
    all_goals
      go_enter Try.func17, Try.ntmps17
      go_wp2_with (first
  | ((with_reducible refine to_boxT 35 rfl ?_); refine Wl_box hS (fun _ => by rfl) _ rfl ?_; clear hS; intro b3 wW hS; simp only [Act.put, List.setIfInBounds_toArray, List.set_cons_zero, List.set_cons_succ]; replace hS := hS.split17)
  | ((with_reducible refine to_boxT 32 rfl ?_); refine Wl_box hS (fun _ => by rfl) _ rfl ?_; clear hS; intro b1 wW hS; simp only [Act.put, List.setIfInBounds_toArray, List.set_cons_zero, List.set_cons_succ])
  | ((with_reducible refine to_alloc 35 rfl ?_); refine Wl_alloc hS (fun _ => by rfl) _ rsiZ ?_; clear hS; intro b6 wW hS; simp only [Act.put, List.setIfInBounds_toArray, List.set_cons_zero, List.set_cons_succ])
  | ((with_reducible refine to_alloc 32 rfl ?_); refine Wl_alloc hS (fun _ => by rfl) _ rcnZ ?_; clear hS; intro b7 wW hS; simp only [Act.put, List.setIfInBounds_toArray, List.set_cons_zero, List.set_cons_succ])
  | ((with_reducible refine to_load 35 rfl ?_); refine Wl_load2 hS (fun _ => by rfl) _ rfl _ Try.underlying35 rfl rsiI ?_; (repeat (first | (refine Row2.here ?_) | refine Row2.next ?_)); (with_reducible show wpList _ _ _ _ _ _); simp only [Act.put, List.setIfInBounds_toArray, List.set_cons_zero, List.set_cons_succ])
  | ((with_reducible refine to_load 32 rfl ?_); refine Wl_load hS (fun _ => by rfl) _ _ rfl _ Try.underlying32 rfl ?_; (repeat (first | (refine Row.here ⟨rcnI.trans rfl, ?_⟩) | refine Row.next ?_)); (with_reducible show wpList _ _ _ _ _ _); simp only [Act.put, List.setIfInBounds_toArray, List.set_cons_zero, List.set_cons_succ])
  | ((with_reducible refine to_store 35 rfl ?_); refine Wl_store hS (fun _ => by rfl) _ _ _ rfl rfl (rsiI.trans rfl) (si_one _) ?_; (repeat (first | refine Turn.here rfl ?_ | refine Turn.next ?_)); clear hS; intro wW hS; try simp only [Act.put, List.setIfInBounds_toArray, List.set_cons_zero, List.set_cons_succ])
  | ((with_reducible refine to_store 32 rfl ?_); refine Wl_store hS (fun _ => by rfl) _ _ _ rfl rfl (rcnI.trans rfl) (cn_one _) ?_; (repeat (first | refine Turn.here rfl ?_ | refine Turn.next ?_)); clear hS; intro wW hS; try simp only [Act.put, List.setIfInBounds_toArray, List.set_cons_zero, List.set_cons_succ])
  | ((with_reducible first | refine to_load 3 rfl ?_ | refine to_load 4 rfl ?_ | refine to_load 5 rfl ?_); refine Wl_load1 hS (fun _ => by rfl) _ _ rfl (scT _ rfl) ?_; (repeat (first | refine Look.here (of_decide_eq_true rfl) rfl ?_ | refine Look.next ?_)); (with_reducible show wpList _ _ _ _ _ _); simp only [Act.put, List.setIfInBounds_toArray, List.set_cons_zero, List.set_cons_succ])
  | ((with_reducible first | refine to_store 3 rfl ?_ | refine to_store 4 rfl ?_ | refine to_store 5 rfl ?_); (first | refine Wl_store1 hS (fun _ => by rfl) _ _ (.int _ _) rfl rfl (scT _ rfl) rfl rfl ?_ | refine Wl_store1 hS (fun _ => by rfl) _ _ (.bool _) rfl rfl (scT _ rfl) rfl rfl ?_); (repeat (first | refine Turn1.here (of_decide_eq_true rfl) (of_decide_eq_true rfl) ?_ | refine Turn1.next ?_)); clear hS; intro wW hS; (try simp only [Act.put, List.setIfInBounds_toArray, List.set_cons_zero, List.set_cons_succ]); try simp only [Nat.sub_zero, Nat.reduceSub, cn_ss] at hS))
      refine (HC.out _).mono ?_
      rintro e w1 ⟨rfl, hb⟩
      replace hS := hS.call hb
      clear hb
      go_wp2_with (first
  | ((with_reducible refine to_boxT 35 rfl ?_); refine Wl_box hS (fun _ => by rfl) _ rfl ?_; clear hS; intro b3 wW hS; simp only [Act.put, List.setIfInBounds_toArray, List.set_cons_zero, List.set_cons_succ]; replace hS := hS.split17)
  | ((with_reducible refine to_boxT 32 rfl ?_); refine Wl_box hS (fun _ => by rfl) _ rfl ?_; clear hS; intro b1 wW hS; simp only [Act.put, List.setIfInBounds_toArray, List.set_cons_zero, List.set_cons_succ])
  | ((with_reducible refine to_alloc 35 rfl ?_); refine Wl_alloc hS (fun _ => by rfl) _ rsiZ ?_; clear hS; intro b6 wW hS; simp only [Act.put, List.setIfInBounds_toArray, List.set_cons_zero, List.set_cons_succ])
  | ((with_reducible refine to_alloc 32 rfl ?_); refine Wl_alloc hS (fun _ => by rfl) _ rcnZ ?_; clear hS; intro b7 wW hS; simp only [Act.put, List.setIfInBounds_toArray, List.set_cons_zero, List.set_cons_succ])
  | ((with_reducible refine to_load 35 rfl ?_); refine Wl_load2 hS (fun _ => by rfl) _ rfl _ Try.underlying35 rfl rsiI ?_; (repeat (first | (refine Row2.here ?_) | refine Row2.next ?_)); (with_reducible show wpList _ _ _ _ _ _); simp only [Act.put, List.setIfInBounds_toArray, List.set_cons_zero, List.set_cons_succ])
  | ((with_reducible refine to_load 32 rfl ?_); refine Wl_load hS (fun _ => by rfl) _ _ rfl _ Try.underlying32 rfl ?_; (repeat (first | (refine Row.here ⟨rcnI.trans rfl, ?_⟩) | refine Row.next ?_)); (with_reducible show wpList _ _ _ _ _ _); simp only [Act.put, List.setIfInBounds_toArray, List.set_cons_zero, List.set_cons_succ])
  | ((with_reducible refine to_store 35 rfl ?_); refine Wl_store hS (fun _ => by rfl) _ _ _ rfl rfl (rsiI.trans rfl) (si_one _) ?_; (repeat (first | refine Turn.here rfl ?_ | refine Turn.next ?_)); clear hS; intro wW hS; try simp only [Act.put, List.setIfInBounds_toArray, List.set_cons_zero, List.set_cons_succ])
  | ((with_reducible refine to_store 32 rfl ?_); refine Wl_store hS (fun _ => by rfl) _ _ _ rfl rfl (rcnI.trans rfl) (cn_one _) ?_; (repeat (first | refine Turn.here rfl ?_ | refine Turn.next ?_)); clear hS; intro wW hS; try simp only [Act.put, List.setIfInBounds_toArray, List.set_cons_zero, List.set_cons_succ])
  | ((with_reducible first | refine to_load 3 rfl ?_ | refine to_load 4 rfl ?_ | refine to_load 5 rfl ?_); refine Wl_load1 hS (fun _ => by rfl) _ _ rfl (scT _ rfl) ?_; (repeat (first | refine Look.here (of_decide_eq_true rfl) rfl ?_ | refine Look.next ?_)); (with_reducible show wpList _ _ _ _ _ _); simp only [Act.put, List.setIfInBounds_toArray, List.set_cons_zero, List.set_cons_succ])
  | ((with_reducible first | refine to_store 3 rfl ?_ | refine to_store 4 rfl ?_ | refine to_store 5 rfl ?_); (first | refine Wl_store1 hS (fun _ => by rfl) _ _ (.int _ _) rfl rfl (scT _ rfl) rfl rfl ?_ | refine Wl_store1 hS (fun _ => by rfl) _ _ (.bool _) rfl rfl (scT _ rfl) rfl rfl ?_); (repeat (first | refine Turn1.here (of_decide_eq_true rfl) (of_decide_eq_true rfl) ?_ | refine Turn1.next ?_)); clear hS; intro wW hS; (try simp only [Act.put, List.setIfInBounds_toArray, List.set_cons_zero, List.set_cons_succ]); try simp only [Nat.sub_zero, Nat.reduceSub, cn_ss] at hS))
      refine (HI.out _).mono ?_
      rintro e w1 ⟨rfl, hb⟩
      replace hS := hS.call hb
      clear hb
      go_wp2_with (first
  | ((with_reducible refine to_boxT 35 rfl ?_); refine Wl_box hS (fun _ => by rfl) _ rfl ?_; clear hS; intro b3 wW hS; simp only [Act.put, List.setIfInBounds_toArray, List.set_cons_zero, List.set_cons_succ]; replace hS := hS.split17)
  | ((with_reducible refine to_boxT 32 rfl ?_); refine Wl_box hS (fun _ => by rfl) _ rfl ?_; clear hS; intro b1 wW hS; simp only [Act.put, List.setIfInBounds_toArray, List.set_cons_zero, List.set_cons_succ])
  | ((with_reducible refine to_alloc 35 rfl ?_); refine Wl_alloc hS (fun _ => by rfl) _ rsiZ ?_; clear hS; intro b6 wW hS; simp only [Act.put, List.setIfInBounds_toArray, List.set_cons_zero, List.set_cons_succ])
  | ((with_reducible refine to_alloc 32 rfl ?_); refine Wl_alloc hS (fun _ => by rfl) _ rcnZ ?_; clear hS; intro b7 wW hS; simp only [Act.put, List.setIfInBounds_toArray, List.set_cons_zero, List.set_cons_succ])
  | ((with_reducible refine to_load 35 rfl ?_); refine Wl_load2 hS (fun _ => by rfl) _ rfl _ Try.underlying35 rfl rsiI ?_; (repeat (first | (refine Row2.here ?_) | refine Row2.next ?_)); (with_reducible show wpList _ _ _ _ _ _); simp only [Act.put, List.setIfInBounds_toArray, List.set_cons_zero, List.set_cons_succ])
  | ((with_reducible refine to_load 32 rfl ?_); refine Wl_load hS (fun _ => by rfl) _ _ rfl _ Try.underlying32 rfl ?_; (repeat (first | (refine Row.here ⟨rcnI.trans rfl, ?_⟩) | refine Row.next ?_)); (with_reducible show wpList _ _ _ _ _ _); simp only [Act.put, List.setIfInBounds_toArray, List.set_cons_zero, List.set_cons_succ])
  | ((with_reducible refine to_store 35 rfl ?_); refine Wl_store hS (fun _ => by rfl) _ _ _ rfl rfl (rsiI.trans rfl) (si_one _) ?_; (repeat (first | refine Turn.here rfl ?_ | refine Turn.next ?_)); clear hS; intro wW hS; try simp only [Act.put, List.setIfInBounds_toArray, List.set_cons_zero, List.set_cons_succ])
  | ((with_reducible refine to_store 32 rfl ?_); refine Wl_store hS (fun _ => by rfl) _ _ _ rfl rfl (rcnI.trans rfl) (cn_one _) ?_; (repeat (first | refine Turn.here rfl ?_ | refine Turn.next ?_)); clear hS; intro wW hS; try simp only [Act.put, List.setIfInBounds_toArray, List.set_cons_zero, List.set_cons_succ])
  | ((with_reducible first | refine to_load 3 rfl ?_ | refine to_load 4 rfl ?_ | refine to_load 5 rfl ?_); refine Wl_load1 hS (fun _ => by rfl) _ _ rfl (scT _ rfl) ?_; (repeat (first | refine Look.here (of_decide_eq_true rfl) rfl ?_ | refine Look.next ?_)); (with_reducible show wpList _ _ _ _ _ _); simp only [Act.put, List.setIfInBounds_toArray, List.set_cons_zero, List.set_cons_succ])
  | ((with_reducible first | refine to_store 3 rfl ?_ | refine to_store 4 rfl ?_ | refine to_store 5 rfl ?_); (first | refine Wl_store1 hS (fun _ => by rfl) _ _ (.int _ _) rfl rfl (scT _ rfl) rfl rfl ?_ | refine Wl_store1 hS (fun _ => by rfl) _ _ (.bool _) rfl rfl (scT _ rfl) rfl rfl ?_); (repeat (first | refine Turn1.here (of_decide_eq_true rfl) (of_decide_eq_true rfl) ?_ | refine Turn1.next ?_)); clear hS; intro wW hS; (try simp only [Act.put, List.setIfInBounds_toArray, List.set_cons_zero, List.set_cons_succ]); try simp only [Nat.sub_zero, Nat.reduceSub, cn_ss] at hS))
      refine ret_tt_st hS rfl _ _ rfl _ _ rfl rfl rfl _ Try.underlying35 rfl ?_
      repeat (first | (refine Row.here ⟨rsiI.trans rfl, ?_⟩) | refine Row.next ?_)
      exact ⟨rfl, hS.below⟩
  · cases full
    · rcases (show k = 0 ∨ k = 1 by omega) with rfl | rfl
      all_goals
        go_enter Try.func17, Try.ntmps17
        go_wp2_with (first
  | ((with_reducible refine to_boxT 35 rfl ?_); refine Wl_box hS (fun _ => by rfl) _ rfl ?_; clear hS; intro b3 wW hS; simp only [Act.put, List.setIfInBounds_toArray, List.set_cons_zero, List.set_cons_succ]; replace hS := hS.split17)
  | ((with_reducible refine to_boxT 32 rfl ?_); refine Wl_box hS (fun _ => by rfl) _ rfl ?_; clear hS; intro b1 wW hS; simp only [Act.put, List.setIfInBounds_toArray, List.set_cons_zero, List.set_cons_succ])
  | ((with_reducible refine to_alloc 35 rfl ?_); refine Wl_alloc hS (fun _ => by rfl) _ rsiZ ?_; clear hS; intro b6 wW hS; simp only [Act.put, List.setIfInBounds_toArray, List.set_cons_zero, List.set_cons_succ])
  | ((with_reducible refine to_alloc 32 rfl ?_); refine Wl_alloc hS (fun _ => by rfl) _ rcnZ ?_; clear hS; intro b7 wW hS; simp only [Act.put, List.setIfInBounds_toArray, List.set_cons_zero, List.set_cons_succ])
  | ((with_reducible refine to_load 35 rfl ?_); refine Wl_load2 hS (fun _ => by rfl) _ rfl _ Try.underlying35 rfl rsiI ?_; (repeat (first | (refine Row2.here ?_) | refine Row2.next ?_)); (with_reducible show wpList _ _ _ _ _ _); simp only [Act.put, List.setIfInBounds_toArray, List.set_cons_zero, List.set_cons_succ])
  | ((with_reducible refine to_load 32 rfl ?_); refine Wl_load hS (fun _ => by rfl) _ _ rfl _ Try.underlying32 rfl ?_; (repeat (first | (refine Row.here ⟨rcnI.trans rfl, ?_⟩) | refine Row.next ?_)); (with_reducible show wpList _ _ _ _ _ _); simp only [Act.put, List.setIfInBounds_toArray, List.set_cons_zero, List.set_cons_succ])
  | ((with_reducible refine to_store 35 rfl ?_); refine Wl_store hS (fun _ => by rfl) _ _ _ rfl rfl (rsiI.trans rfl) (si_one _) ?_; (repeat (first | refine Turn.here rfl ?_ | refine Turn.next ?_)); clear hS; intro wW hS; try simp only [Act.put, List.setIfInBounds_toArray, List.set_cons_zero, List.set_cons_succ])
  | ((with_reducible refine to_store 32 rfl ?_); refine Wl_store hS (fun _ => by rfl) _ _ _ rfl rfl (rcnI.trans rfl) (cn_one _) ?_; (repeat (first | refine Turn.here rfl ?_ | refine Turn.next ?_)); clear hS; intro wW hS; try simp only [Act.put, List.setIfInBounds_toArray, List.set_cons_zero, List.set_cons_succ])
  | ((with_reducible first | refine to_load 3 rfl ?_ | refine to_load 4 rfl ?_ | refine to_load 5 rfl ?_); refine Wl_load1 hS (fun _ => by rfl) _ _ rfl (scT _ rfl) ?_; (repeat (first | refine Look.here (of_decide_eq_true rfl) rfl ?_ | refine Look.next ?_)); (with_reducible show wpList _ _ _ _ _ _); simp only [Act.put, List.setIfInBounds_toArray, List.set_cons_zero, List.set_cons_succ])
  | ((with_reducible first | refine to_store 3 rfl ?_ | refine to_store 4 rfl ?_ | refine to_store 5 rfl ?_); (first | refine Wl_store1 hS (fun _ => by rfl) _ _ (.int _ _) rfl rfl (scT _ rfl) rfl rfl ?_ | refine Wl_store1 hS (fun _ => by rfl) _ _ (.bool _) rfl rfl (scT _ rfl) rfl rfl ?_); (repeat (first | refine Turn1.here (of_decide_eq_true rfl) (of_decide_eq_true rfl) ?_ | refine Turn1.next ?_)); clear hS; intro wW hS; (try simp only [Act.put, List.setIfInBounds_toArray, List.set_cons_zero, List.set_cons_succ]); try simp only [Nat.sub_zero, Nat.reduceSub, cn_ss] at hS))
        refine (HC.out _).mono ?_
        rintro e w1 ⟨rfl, hb⟩
        replace hS := hS.call hb
        clear hb
        go_wp2_with (first
  | ((with_reducible refine to_boxT 35 rfl ?_); refine Wl_box hS (fun _ => by rfl) _ rfl ?_; clear hS; intro b3 wW hS; simp only [Act.put, List.setIfInBounds_toArray, List.set_cons_zero, List.set_cons_succ]; replace hS := hS.split17)
  | ((with_reducible refine to_boxT 32 rfl ?_); refine Wl_box hS (fun _ => by rfl) _ rfl ?_; clear hS; intro b1 wW hS; simp only [Act.put, List.setIfInBounds_toArray, List.set_cons_zero, List.set_cons_succ])
  | ((with_reducible refine to_alloc 35 rfl ?_); refine Wl_alloc hS (fun _ => by rfl) _ rsiZ ?_; clear hS; intro b6 wW hS; simp only [Act.put, List.setIfInBounds_toArray, List.set_cons_zero, List.set_cons_succ])
  | ((with_reducible refine to_alloc 32 rfl ?_); refine Wl_alloc hS (fun _ => by rfl) _ rcnZ ?_; clear hS; intro b7 wW hS; simp only [Act.put, List.setIfInBounds_toArray, List.set_cons_zero, List.set_cons_succ])
  | ((with_reducible refine to_load 35 rfl ?_); refine Wl_load2 hS (fun _ => by rfl) _ rfl _ Try.underlying35 rfl rsiI ?_; (repeat (first | (refine Row2.here ?_) | refine Row2.next ?_)); (with_reducible show wpList _ _ _ _ _ _); simp only [Act.put, List.setIfInBounds_toArray, List.set_cons_zero, List.set_cons_succ])
  | ((with_reducible refine to_load 32 rfl ?_); refine Wl_load hS (fun _ => by rfl) _ _ rfl _ Try.underlying32 rfl ?_; (repeat (first | (refine Row.here ⟨rcnI.trans rfl, ?_⟩) | refine Row.next ?_)); (with_reducible show wpList _ _ _ _ _ _); simp only [Act.put, List.setIfInBounds_toArray, List.set_cons_zero, List.set_cons_succ])
  | ((with_reducible refine to_store 35 rfl ?_); refine Wl_store hS (fun _ => by rfl) _ _ _ rfl rfl (rsiI.trans rfl) (si_one _) ?_; (repeat (first | refine Turn.here rfl ?_ | refine Turn.next ?_)); clear hS; intro wW hS; try simp only [Act.put, List.setIfInBounds_toArray, List.set_cons_zero, List.set_cons_succ])
  | ((with_reducible refine to_store 32 rfl ?_); refine Wl_store hS (fun _ => by rfl) _ _ _ rfl rfl (rcnI.trans rfl) (cn_one _) ?_; (repeat (first | refine Turn.here rfl ?_ | refine Turn.next ?_)); clear hS; intro wW hS; try simp only [Act.put, List.setIfInBounds_toArray, List.set_cons_zero, List.set_cons_succ])
  | ((with_reducible first | refine to_load 3 rfl ?_ | refine to_load 4 rfl ?_ | refine to_load 5 rfl ?_); refine Wl_load1 hS (fun _ => by rfl) _ _ rfl (scT _ rfl) ?_; (repeat (first | refine Look.here (of_decide_eq_true rfl) rfl ?_ | refine Look.next ?_)); (with_reducible show wpList _ _ _ _ _ _); simp only [Act.put, List.setIfInBounds_toArray, List.set_cons_zero, List.set_cons_succ])
  | ((with_reducible first | refine to_store 3 rfl ?_ | refine to_store 4 rfl ?_ | refine to_store 5 rfl ?_); (first | refine Wl_store1 hS (fun _ => by rfl) _ _ (.int _ _) rfl rfl (scT _ rfl) rfl rfl ?_ | refine Wl_store1 hS (fun _ => by rfl) _ _ (.bool _) rfl rfl (scT _ rfl) rfl rfl ?_); (repeat (first | refine Turn1.here (of_decide_eq_true rfl) (of_decide_eq_true rfl) ?_ | refine Turn1.next ?_)); clear hS; intro wW hS; (try simp only [Act.put, List.setIfInBounds_toArray, List.set_cons_zero, List.set_cons_succ]); try simp only [Nat.sub_zero, Nat.reduceSub, cn_ss] at hS))
        refine (HI.out _).mono ?_
        rintro e w1 ⟨rfl, hb⟩
        replace hS := hS.call hb
        clear hb
        go_wp2_with (first
  | ((with_reducible refine to_boxT 35 rfl ?_); refine Wl_box hS (fun _ => by rfl) _ rfl ?_; clear hS; intro b3 wW hS; simp only [Act.put, List.setIfInBounds_toArray, List.set_cons_zero, List.set_cons_succ]; replace hS := hS.split17)
  | ((with_reducible refine to_boxT 32 rfl ?_); refine Wl_box hS (fun _ => by rfl) _ rfl ?_; clear hS; intro b1 wW hS; simp only [Act.put, List.setIfInBounds_toArray, List.set_cons_zero, List.set_cons_succ])
  | ((with_reducible refine to_alloc 35 rfl ?_); refine Wl_alloc hS (fun _ => by rfl) _ rsiZ ?_; clear hS; intro b6 wW hS; simp only [Act.put, List.setIfInBounds_toArray, List.set_cons_zero, List.set_cons_succ])
  | ((with_reducible refine to_alloc 32 rfl ?_); refine Wl_alloc hS (fun _ => by rfl) _ rcnZ ?_; clear hS; intro b7 wW hS; simp only [Act.put, List.setIfInBounds_toArray, List.set_cons_zero, List.set_cons_succ])
  | ((with_reducible refine to_load 35 rfl ?_); refine Wl_load2 hS (fun _ => by rfl) _ rfl _ Try.underlying35 rfl rsiI ?_; (repeat (first | (refine Row2.here ?_) | refine Row2.next ?_)); (with_reducible show wpList _ _ _ _ _ _); simp only [Act.put, List.setIfInBounds_toArray, List.set_cons_zero, List.set_cons_succ])
  | ((with_reducible refine to_load 32 rfl ?_); refine Wl_load hS (fun _ => by rfl) _ _ rfl _ Try.underlying32 rfl ?_; (repeat (first | (refine Row.here ⟨rcnI.trans rfl, ?_⟩) | refine Row.next ?_)); (with_reducible show wpList _ _ _ _ _ _); simp only [Act.put, List.setIfInBounds_toArray, List.set_cons_zero, List.set_cons_succ])
  | ((with_reducible refine to_store 35 rfl ?_); refine Wl_store hS (fun _ => by rfl) _ _ _ rfl rfl (rsiI.trans rfl) (si_one _) ?_; (repeat (first | refine Turn.here rfl ?_ | refine Turn.next ?_)); clear hS; intro wW hS; try simp only [Act.put, List.setIfInBounds_toArray, List.set_cons_zero, List.set_cons_succ])
  | ((with_reducible refine to_store 32 rfl ?_); refine Wl_store hS (fun _ => by rfl) _ _ _ rfl rfl (rcnI.trans rfl) (cn_one _) ?_; (repeat (first | refine Turn.here rfl ?_ | refine Turn.next ?_)); clear hS; intro wW hS; try simp only [Act.put, List.setIfInBounds_toArray, List.set_cons_zero, List.set_cons_succ])
  | ((with_reducible first | refine to_load 3 rfl ?_ | refine to_load 4 rfl ?_ | refine to_load 5 rfl ?_); refine Wl_load1 hS (fun _ => by rfl) _ _ rfl (scT _ rfl) ?_; (repeat (first | refine Look.here (of_decide_eq_true rfl) rfl ?_ | refine Look.next ?_)); (with_reducible show wpList _ _ _ _ _ _); simp only [Act.put, List.setIfInBounds_toArray, List.set_cons_zero, List.set_cons_succ])
  | ((with_reducible first | refine to_store 3 rfl ?_ | refine to_store 4 rfl ?_ | refine to_store 5 rfl ?_); (first | refine Wl_store1 hS (fun _ => by rfl) _ _ (.int _ _) rfl rfl (scT _ rfl) rfl rfl ?_ | refine Wl_store1 hS (fun _ => by rfl) _ _ (.bool _) rfl rfl (scT _ rfl) rfl rfl ?_); (repeat (first | refine Turn1.here (of_decide_eq_true rfl) (of_decide_eq_true rfl) ?_ | refine Turn1.next ?_)); clear hS; intro wW hS; (try simp only [Act.put, List.setIfInBounds_toArray, List.set_cons_zero, List.set_cons_succ]); try simp only [Nat.sub_zero, Nat.reduceSub, cn_ss] at hS))
        refine ret_tt_st hS rfl _ _ rfl _ _ rfl rfl rfl _ Try.underlying35 rfl ?_
        repeat (first | (refine Row.here ⟨rsiI.trans rfl, ?_⟩) | refine Row.next ?_)
        exact ⟨rfl, hS.below⟩
    · cases gone
      · rcases (show k = 0 ∨ k = 1 by omega) with rfl | rfl
        · go_enter Try.func17, Try.ntmps17
          go_wp2_with (first
  | ((with_reducible refine to_boxT 35 rfl ?_); refine Wl_box hS (fun _ => by rfl) _ rfl ?_; clear hS; intro b3 wW hS; simp only [Act.put, List.setIfInBounds_toArray, List.set_cons_zero, List.set_cons_succ]; replace hS := hS.split17)
  | ((with_reducible refine to_boxT 32 rfl ?_); refine Wl_box hS (fun _ => by rfl) _ rfl ?_; clear hS; intro b1 wW hS; simp only [Act.put, List.setIfInBounds_toArray, List.set_cons_zero, List.set_cons_succ])
  | ((with_reducible refine to_alloc 35 rfl ?_); refine Wl_alloc hS (fun _ => by rfl) _ rsiZ ?_; clear hS; intro b6 wW hS; simp only [Act.put, List.setIfInBounds_toArray, List.set_cons_zero, List.set_cons_succ])
  | ((with_reducible refine to_alloc 32 rfl ?_); refine Wl_alloc hS (fun _ => by rfl) _ rcnZ ?_; clear hS; intro b7 wW hS; simp only [Act.put, List.setIfInBounds_toArray, List.set_cons_zero, List.set_cons_succ])
  | ((with_reducible refine to_load 35 rfl ?_); refine Wl_load2 hS (fun _ => by rfl) _ rfl _ Try.underlying35 rfl rsiI ?_; (repeat (first | (refine Row2.here ?_) | refine Row2.next ?_)); (with_reducible show wpList _ _ _ _ _ _); simp only [Act.put, List.setIfInBounds_toArray, List.set_cons_zero, List.set_cons_succ])
  | ((with_reducible refine to_load 32 rfl ?_); refine Wl_load hS (fun _ => by rfl) _ _ rfl _ Try.underlying32 rfl ?_; (repeat (first | (refine Row.here ⟨rcnI.trans rfl, ?_⟩) | refine Row.next ?_)); (with_reducible show wpList _ _ _ _ _ _); simp only [Act.put, List.setIfInBounds_toArray, List.set_cons_zero, List.set_cons_succ])
  | ((with_reducible refine to_store 35 rfl ?_); refine Wl_store hS (fun _ => by rfl) _ _ _ rfl rfl (rsiI.trans rfl) (si_one _) ?_; (repeat (first | refine Turn.here rfl ?_ | refine Turn.next ?_)); clear hS; intro wW hS; try simp only [Act.put, List.setIfInBounds_toArray, List.set_cons_zero, List.set_cons_succ])
  | ((with_reducible refine to_store 32 rfl ?_); refine Wl_store hS (fun _ => by rfl) _ _ _ rfl rfl (rcnI.trans rfl) (cn_one _) ?_; (repeat (first | refine Turn.here rfl ?_ | refine Turn.next ?_)); clear hS; intro wW hS; try simp only [Act.put, List.setIfInBounds_toArray, List.set_cons_zero, List.set_cons_succ])
  | ((with_reducible first | refine to_load 3 rfl ?_ | refine to_load 4 rfl ?_ | refine to_load 5 rfl ?_); refine Wl_load1 hS (fun _ => by rfl) _ _ rfl (scT _ rfl) ?_; (repeat (first | refine Look.here (of_decide_eq_true rfl) rfl ?_ | refine Look.next ?_)); (with_reducible show wpList _ _ _ _ _ _); simp only [Act.put, List.setIfInBounds_toArray, List.set_cons_zero, List.set_cons_succ])
  | ((with_reducible first | refine to_store 3 rfl ?_ | refine to_store 4 rfl ?_ | refine to_store 5 rfl ?_); (first | refine Wl_store1 hS (fun _ => by rfl) _ _ (.int _ _) rfl rfl (scT _ rfl) rfl rfl ?_ | refine Wl_store1 hS (fun _ => by rfl) _ _ (.bool _) rfl rfl (scT _ rfl) rfl rfl ?_); (repeat (first | refine Turn1.here (of_decide_eq_true rfl) (of_decide_eq_true rfl) ?_ | refine Turn1.next ?_)); clear hS; intro wW hS; (try simp only [Act.put, List.setIfInBounds_toArray, List.set_cons_zero, List.set_cons_succ]); try simp only [Nat.sub_zero, Nat.reduceSub, cn_ss] at hS))
          refine (HC.out _).mono ?_
          rintro e w1 ⟨rfl, hb⟩
          replace hS := hS.call hb
          clear hb
          go_wp2_with (first
  | ((with_reducible refine to_boxT 35 rfl ?_); refine Wl_box hS (fun _ => by rfl) _ rfl ?_; clear hS; intro b3 wW hS; simp only [Act.put, List.setIfInBounds_toArray, List.set_cons_zero, List.set_cons_succ]; replace hS := hS.split17)
  | ((with_reducible refine to_boxT 32 rfl ?_); refine Wl_box hS (fun _ => by rfl) _ rfl ?_; clear hS; intro b1 wW hS; simp only [Act.put, List.setIfInBounds_toArray, List.set_cons_zero, List.set_cons_succ])
  | ((with_reducible refine to_alloc 35 rfl ?_); refine Wl_alloc hS (fun _ => by rfl) _ rsiZ ?_; clear hS; intro b6 wW hS; simp only [Act.put, List.setIfInBounds_toArray, List.set_cons_zero, List.set_cons_succ])
  | ((with_reducible refine to_alloc 32 rfl ?_); refine Wl_alloc hS (fun _ => by rfl) _ rcnZ ?_; clear hS; intro b7 wW hS; simp only [Act.put, List.setIfInBounds_toArray, List.set_cons_zero, List.set_cons_succ])
  | ((with_reducible refine to_load 35 rfl ?_); refine Wl_load2 hS (fun _ => by rfl) _ rfl _ Try.underlying35 rfl rsiI ?_; (repeat (first | (refine Row2.here ?_) | refine Row2.next ?_)); (with_reducible show wpList _ _ _ _ _ _); simp only [Act.put, List.setIfInBounds_toArray, List.set_cons_zero, List.set_cons_succ])
  | ((with_reducible refine to_load 32 rfl ?_); refine Wl_load hS (fun _ => by rfl) _ _ rfl _ Try.underlying32 rfl ?_; (repeat (first | (refine Row.here ⟨rcnI.trans rfl, ?_⟩) | refine Row.next ?_)); (with_reducible show wpList _ _ _ _ _ _); simp only [Act.put, List.setIfInBounds_toArray, List.set_cons_zero, List.set_cons_succ])
  | ((with_reducible refine to_store 35 rfl ?_); refine Wl_store hS (fun _ => by rfl) _ _ _ rfl rfl (rsiI.trans rfl) (si_one _) ?_; (repeat (first | refine Turn.here rfl ?_ | refine Turn.next ?_)); clear hS; intro wW hS; try simp only [Act.put, List.setIfInBounds_toArray, List.set_cons_zero, List.set_cons_succ])
  | ((with_reducible refine to_store 32 rfl ?_); refine Wl_store hS (fun _ => by rfl) _ _ _ rfl rfl (rcnI.trans rfl) (cn_one _) ?_; (repeat (first | refine Turn.here rfl ?_ | refine Turn.next ?_)); clear hS; intro wW hS; try simp only [Act.put, List.setIfInBounds_toArray, List.set_cons_zero, List.set_cons_succ])
  | ((with_reducible first | refine to_load 3 rfl ?_ | refine to_load 4 rfl ?_ | refine to_load 5 rfl ?_); refine Wl_load1 hS (fun _ => by rfl) _ _ rfl (scT _ rfl) ?_; (repeat (first | refine Look.here (of_decide_eq_true rfl) rfl ?_ | refine Look.next ?_)); (with_reducible show wpList _ _ _ _ _ _); simp only [Act.put, List.setIfInBounds_toArray, List.set_cons_zero, List.set_cons_succ])
  | ((with_reducible first | refine to_store 3 rfl ?_ | refine to_store 4 rfl ?_ | refine to_store 5 rfl ?_); (first | refine Wl_store1 hS (fun _ => by rfl) _ _ (.int _ _) rfl rfl (scT _ rfl) rfl rfl ?_ | refine Wl_store1 hS (fun _ => by rfl) _ _ (.bool _) rfl rfl (scT _ rfl) rfl rfl ?_); (repeat (first | refine Turn1.here (of_decide_eq_true rfl) (of_decide_eq_true rfl) ?_ | refine Turn1.next ?_)); clear hS; intro wW hS; (try simp only [Act.put, List.setIfInBounds_toArray, List.set_cons_zero, List.set_cons_succ]); try simp only [Nat.sub_zero, Nat.reduceSub, cn_ss] at hS))
          refine (HI.out _).mono ?_
          rintro e w1 ⟨rfl, hb⟩
          replace hS := hS.call hb
          clear hb
          go_wp2_with (first
  | ((with_reducible refine to_boxT 35 rfl ?_); refine Wl_box hS (fun _ => by rfl) _ rfl ?_; clear hS; intro b3 wW hS; simp only [Act.put, List.setIfInBounds_toArray, List.set_cons_zero, List.set_cons_succ]; replace hS := hS.split17)
  | ((with_reducible refine to_boxT 32 rfl ?_); refine Wl_box hS (fun _ => by rfl) _ rfl ?_; clear hS; intro b1 wW hS; simp only [Act.put, List.setIfInBounds_toArray, List.set_cons_zero, List.set_cons_succ])
  | ((with_reducible refine to_alloc 35 rfl ?_); refine Wl_alloc hS (fun _ => by rfl) _ rsiZ ?_; clear hS; intro b6 wW hS; simp only [Act.put, List.setIfInBounds_toArray, List.set_cons_zero, List.set_cons_succ])
  | ((with_reducible refine to_alloc 32 rfl ?_); refine Wl_alloc hS (fun _ => by rfl) _ rcnZ ?_; clear hS; intro b7 wW hS; simp only [Act.put, List.setIfInBounds_toArray, List.set_cons_zero, List.set_cons_succ])
  | ((with_reducible refine to_load 35 rfl ?_); refine Wl_load2 hS (fun _ => by rfl) _ rfl _ Try.underlying35 rfl rsiI ?_; (repeat (first | (refine Row2.here ?_) | refine Row2.next ?_)); (with_reducible show wpList _ _ _ _ _ _); simp only [Act.put, List.setIfInBounds_toArray, List.set_cons_zero, List.set_cons_succ])
  | ((with_reducible refine to_load 32 rfl ?_); refine Wl_load hS (fun _ => by rfl) _ _ rfl _ Try.underlying32 rfl ?_; (repeat (first | (refine Row.here ⟨rcnI.trans rfl, ?_⟩) | refine Row.next ?_)); (with_reducible show wpList _ _ _ _ _ _); simp only [Act.put, List.setIfInBounds_toArray, List.set_cons_zero, List.set_cons_succ])
  | ((with_reducible refine to_store 35 rfl ?_); refine Wl_store hS (fun _ => by rfl) _ _ _ rfl rfl (rsiI.trans rfl) (si_one _) ?_; (repeat (first | refine Turn.here rfl ?_ | refine Turn.next ?_)); clear hS; intro wW hS; try simp only [Act.put, List.setIfInBounds_toArray, List.set_cons_zero, List.set_cons_succ])
  | ((with_reducible refine to_store 32 rfl ?_); refine Wl_store hS (fun _ => by rfl) _ _ _ rfl rfl (rcnI.trans rfl) (cn_one _) ?_; (repeat (first | refine Turn.here rfl ?_ | refine Turn.next ?_)); clear hS; intro wW hS; try simp only [Act.put, List.setIfInBounds_toArray, List.set_cons_zero, List.set_cons_succ])
  | ((with_reducible first | refine to_load 3 rfl ?_ | refine to_load 4 rfl ?_ | refine to_load 5 rfl ?_); refine Wl_load1 hS (fun _ => by rfl) _ _ rfl (scT _ rfl) ?_; (repeat (first | refine Look.here (of_decide_eq_true rfl) rfl ?_ | refine Look.next ?_)); (with_reducible show wpList _ _ _ _ _ _); simp only [Act.put, List.setIfInBounds_toArray, List.set_cons_zero, List.set_cons_succ])
  | ((with_reducible first | refine to_store 3 rfl ?_ | refine to_store 4 rfl ?_ | refine to_store 5 rfl ?_); (first | refine Wl_store1 hS (fun _ => by rfl) _ _ (.int _ _) rfl rfl (scT _ rfl) rfl rfl ?_ | refine Wl_store1 hS (fun _ => by rfl) _ _ (.bool _) rfl rfl (scT _ rfl) rfl rfl ?_); (repeat (first | refine Turn1.here (of_decide_eq_true rfl) (of_decide_eq_true rfl) ?_ | refine Turn1.next ?_)); clear hS; intro wW hS; (try simp only [Act.put, List.setIfInBounds_toArray, List.set_cons_zero, List.set_cons_succ]); try simp only [Nat.sub_zero, Nat.reduceSub, cn_ss] at hS))
          refine (HJ.out _).mono ?_
          rintro e w1 ⟨rfl, hb⟩
          replace hS := hS.call hb
          clear hb
          go_wp2_with (first
  | ((with_reducible refine to_boxT 35 rfl ?_); refine Wl_box hS (fun _ => by rfl) _ rfl ?_; clear hS; intro b3 wW hS; simp only [Act.put, List.setIfInBounds_toArray, List.set_cons_zero, List.set_cons_succ]; replace hS := hS.split17)
  | ((with_reducible refine to_boxT 32 rfl ?_); refine Wl_box hS (fun _ => by rfl) _ rfl ?_; clear hS; intro b1 wW hS; simp only [Act.put, List.setIfInBounds_toArray, List.set_cons_zero, List.set_cons_succ])
  | ((with_reducible refine to_alloc 35 rfl ?_); refine Wl_alloc hS (fun _ => by rfl) _ rsiZ ?_; clear hS; intro b6 wW hS; simp only [Act.put, List.setIfInBounds_toArray, List.set_cons_zero, List.set_cons_succ])
  | ((with_reducible refine to_alloc 32 rfl ?_); refine Wl_alloc hS (fun _ => by rfl) _ rcnZ ?_; clear hS; intro b7 wW hS; simp only [Act.put, List.setIfInBounds_toArray, List.set_cons_zero, List.set_cons_succ])
  | ((with_reducible refine to_load 35 rfl ?_); refine Wl_load2 hS (fun _ => by rfl) _ rfl _ Try.underlying35 rfl rsiI ?_; (repeat (first | (refine Row2.here ?_) | refine Row2.next ?_)); (with_reducible show wpList _ _ _ _ _ _); simp only [Act.put, List.setIfInBounds_toArray, List.set_cons_zero, List.set_cons_succ])
  | ((with_reducible refine to_load 32 rfl ?_); refine Wl_load hS (fun _ => by rfl) _ _ rfl _ Try.underlying32 rfl ?_; (repeat (first | (refine Row.here ⟨rcnI.trans rfl, ?_⟩) | refine Row.next ?_)); (with_reducible show wpList _ _ _ _ _ _); simp only [Act.put, List.setIfInBounds_toArray, List.set_cons_zero, List.set_cons_succ])
  | ((with_reducible refine to_store 35 rfl ?_); refine Wl_store hS (fun _ => by rfl) _ _ _ rfl rfl (rsiI.trans rfl) (si_one _) ?_; (repeat (first | refine Turn.here rfl ?_ | refine Turn.next ?_)); clear hS; intro wW hS; try simp only [Act.put, List.setIfInBounds_toArray, List.set_cons_zero, List.set_cons_succ])
  | ((with_reducible refine to_store 32 rfl ?_); refine Wl_store hS (fun _ => by rfl) _ _ _ rfl rfl (rcnI.trans rfl) (cn_one _) ?_; (repeat (first | refine Turn.here rfl ?_ | refine Turn.next ?_)); clear hS; intro wW hS; try simp only [Act.put, List.setIfInBounds_toArray, List.set_cons_zero, List.set_cons_succ])
  | ((with_reducible first | refine to_load 3 rfl ?_ | refine to_load 4 rfl ?_ | refine to_load 5 rfl ?_); refine Wl_load1 hS (fun _ => by rfl) _ _ rfl (scT _ rfl) ?_; (repeat (first | refine Look.here (of_decide_eq_true rfl) rfl ?_ | refine Look.next ?_)); (with_reducible show wpList _ _ _ _ _ _); simp only [Act.put, List.setIfInBounds_toArray, List.set_cons_zero, List.set_cons_succ])
  | ((with_reducible first | refine to_store 3 rfl ?_ | refine to_store 4 rfl ?_ | refine to_store 5 rfl ?_); (first | refine Wl_store1 hS (fun _ => by rfl) _ _ (.int _ _) rfl rfl (scT _ rfl) rfl rfl ?_ | refine Wl_store1 hS (fun _ => by rfl) _ _ (.bool _) rfl rfl (scT _ rfl) rfl rfl ?_); (repeat (first | refine Turn1.here (of_decide_eq_true rfl) (of_decide_eq_true rfl) ?_ | refine Turn1.next ?_)); clear hS; intro wW hS; (try simp only [Act.put, List.setIfInBounds_toArray, List.set_cons_zero, List.set_cons_succ]); try simp only [Nat.sub_zero, Nat.reduceSub, cn_ss] at hS))
          refine wp_region_held_drew (S := fun W => St w.heap.size 0 0 w [⟨b7, 0, true, (M.Cn.mk x0 x1 x2 x3 x4 x5 x6 x7 pt f0 f1 f2 n over tx false says).a⟩, ⟨b3, 0, true, (M.Cn.mk x0 x1 x2 x3 x4 x5 x6 x7 pt f0 f1 f2 n over tx false says).a⟩, ⟨b3, 17, true, (c1).a⟩] W) (by kernel_rfl) (hS.drew.sub (by repeat (first | exact List.Sublist.slnil | apply List.Sublist.cons_cons | apply List.Sublist.cons))) ?_
          intro _
          replace hS := hS.drew
          generalize World.drew _ = wX at hS ⊢
          refine wpAnyH_take (i := 0) rfl (by kernel_rfl) (by kernel_rfl) (by kernel_rfl) (fun _ _ _ h => h) (yields_row2 (by rfl) _ _ rfl _ rfl _ Try.underlying35 rfl rsiI _ _ _ _ _ _ _ _ _ (fun W hW => hW) (.tail _ (.head _)) (.tail _ (.tail _ (.head _)))) (hS.sub (by repeat (first | exact List.Sublist.slnil | apply List.Sublist.cons_cons | apply List.Sublist.cons))) ?_
          try simp only [Act.put, List.setIfInBounds_toArray, List.set_cons_zero, List.set_cons_succ, List.getElem_toArray, List.getElem_cons_succ, List.getElem_cons_zero]
          refine wpAnyH_take (i := 1) (v := ?_) rfl (by kernel_rfl) (by kernel_rfl) (by kernel_rfl) (fun _ _ _ h => h) (Or.inl ⟨by rfl, ?_⟩) (hS.sub (by repeat (first | exact List.Sublist.slnil | apply List.Sublist.cons_cons | apply List.Sublist.cons))) ?_
          rotate_left 1
          · intro W hW
            clear hW
            go_simp
            all_goals with_reducible rfl
          try simp only [Act.put, List.setIfInBounds_toArray, List.set_cons_zero, List.set_cons_succ, List.getElem_toArray, List.getElem_cons_succ, List.getElem_cons_zero]
          refine wpAnyH_take (i := 2) rfl (by kernel_rfl) (by kernel_rfl) (by kernel_rfl) (fun _ _ _ h => h) (yields_one (by rfl) _ _ rfl _ _ rfl sc5 _ (fun W hW => St.cellq hW (.head _) (of_decide_eq_true rfl) rfl)) (hS.sub (by repeat (first | exact List.Sublist.slnil | apply List.Sublist.cons_cons | apply List.Sublist.cons))) ?_
          try simp only [Act.put, List.setIfInBounds_toArray, List.set_cons_zero, List.set_cons_succ, List.getElem_toArray, List.getElem_cons_succ, List.getElem_cons_zero]
          refine wpAnyH_ready (rs := [3]) (by kernel_rfl) (by simp) (AllReadyH.cons rfl ?_ AllReadyH.nil)
          intro K1 hK1
          rw [if_pos (by rfl)]
          try simp only [Act.put, List.setIfInBounds_toArray, List.set_cons_zero, List.set_cons_succ, List.getElem_toArray, List.getElem_cons_succ, List.getElem_cons_zero]
          refine wp_store_st hS _ _ _ rfl _ _ _ rfl rfl (rsiI.trans rfl) (si_one _) ?_
          repeat (first | refine Turn.here rfl ?_ | refine Turn.next ?_)
          clear hS
          intro wW hS
          refine hK1.out _ _ (hS.sub (by repeat (first | exact List.Sublist.slnil | apply List.Sublist.cons_cons | apply List.Sublist.cons))) (fun _ => ?_)
          clear hK1
          try simp only [Act.put, List.setIfInBounds_toArray, List.set_cons_zero, List.set_cons_succ, List.getElem_toArray, List.getElem_cons_succ, List.getElem_cons_zero]
          refine wpAnyH_take (i := 4) (v := ?_) rfl (by kernel_rfl) (by kernel_rfl) (by kernel_rfl) (fun _ _ _ h => h) (Or.inl ⟨by rfl, ?_⟩) (hS.sub (by repeat (first | exact List.Sublist.slnil | apply List.Sublist.cons_cons | apply List.Sublist.cons))) ?_
          rotate_left 1
          · intro W hW
            clear hW
            go_simp
            all_goals with_reducible rfl
          try simp only [Act.put, List.setIfInBounds_toArray, List.set_cons_zero, List.set_cons_succ, List.getElem_toArray, List.getElem_cons_succ, List.getElem_cons_zero]
          refine wpAnyH_take (i := 5) (v := ?_) rfl (by kernel_rfl) (by kernel_rfl) (by kernel_rfl) (fun _ _ _ h => h) (Or.inl ⟨by rfl, ?_⟩) (hS.sub (by repeat (first | exact List.Sublist.slnil | apply List.Sublist.cons_cons | apply List.Sublist.cons))) ?_
          rotate_left 1
          · intro W hW
            clear hW
            go_simp
            all_goals with_reducible rfl
          try simp only [Act.put, List.setIfInBounds_toArray, List.set_cons_zero, List.set_cons_succ, List.getElem_toArray, List.getElem_cons_succ, List.getElem_cons_zero]
          refine wpAnyH_done (by kernel_rfl) ?_ _
          go_wp2_with fail
          refine ret_tt_st hS rfl _ _ rfl _ _ rfl rfl rfl _ Try.underlying35 rfl ?_
          repeat (first | (refine Row.here ⟨rsiI.trans rfl, ?_⟩) | refine Row.next ?_)
          exact ⟨rfl, hS.below⟩
        · go_enter Try.func17, Try.ntmps17
          go_wp2_with (first
  | ((with_reducible refine to_boxT 35 rfl ?_); refine Wl_box hS (fun _ => by rfl) _ rfl ?_; clear hS; intro b3 wW hS; simp only [Act.put, List.setIfInBounds_toArray, List.set_cons_zero, List.set_cons_succ]; replace hS := hS.split17)
  | ((with_reducible refine to_boxT 32 rfl ?_); refine Wl_box hS (fun _ => by rfl) _ rfl ?_; clear hS; intro b1 wW hS; simp only [Act.put, List.setIfInBounds_toArray, List.set_cons_zero, List.set_cons_succ])
  | ((with_reducible refine to_alloc 35 rfl ?_); refine Wl_alloc hS (fun _ => by rfl) _ rsiZ ?_; clear hS; intro b6 wW hS; simp only [Act.put, List.setIfInBounds_toArray, List.set_cons_zero, List.set_cons_succ])
  | ((with_reducible refine to_alloc 32 rfl ?_); refine Wl_alloc hS (fun _ => by rfl) _ rcnZ ?_; clear hS; intro b7 wW hS; simp only [Act.put, List.setIfInBounds_toArray, List.set_cons_zero, List.set_cons_succ])
  | ((with_reducible refine to_load 35 rfl ?_); refine Wl_load2 hS (fun _ => by rfl) _ rfl _ Try.underlying35 rfl rsiI ?_; (repeat (first | (refine Row2.here ?_) | refine Row2.next ?_)); (with_reducible show wpList _ _ _ _ _ _); simp only [Act.put, List.setIfInBounds_toArray, List.set_cons_zero, List.set_cons_succ])
  | ((with_reducible refine to_load 32 rfl ?_); refine Wl_load hS (fun _ => by rfl) _ _ rfl _ Try.underlying32 rfl ?_; (repeat (first | (refine Row.here ⟨rcnI.trans rfl, ?_⟩) | refine Row.next ?_)); (with_reducible show wpList _ _ _ _ _ _); simp only [Act.put, List.setIfInBounds_toArray, List.set_cons_zero, List.set_cons_succ])
  | ((with_reducible refine to_store 35 rfl ?_); refine Wl_store hS (fun _ => by rfl) _ _ _ rfl rfl (rsiI.trans rfl) (si_one _) ?_; (repeat (first | refine Turn.here rfl ?_ | refine Turn.next ?_)); clear hS; intro wW hS; try simp only [Act.put, List.setIfInBounds_toArray, List.set_cons_zero, List.set_cons_succ])
  | ((with_reducible refine to_store 32 rfl ?_); refine Wl_store hS (fun _ => by rfl) _ _ _ rfl rfl (rcnI.trans rfl) (cn_one _) ?_; (repeat (first | refine Turn.here rfl ?_ | refine Turn.next ?_)); clear hS; intro wW hS; try simp only [Act.put, List.setIfInBounds_toArray, List.set_cons_zero, List.set_cons_succ])
  | ((with_reducible first | refine to_load 3 rfl ?_ | refine to_load 4 rfl ?_ | refine to_load 5 rfl ?_); refine Wl_load1 hS (fun _ => by rfl) _ _ rfl (scT _ rfl) ?_; (repeat (first | refine Look.here (of_decide_eq_true rfl) rfl ?_ | refine Look.next ?_)); (with_reducible show wpList _ _ _ _ _ _); simp only [Act.put, List.setIfInBounds_toArray, List.set_cons_zero, List.set_cons_succ])
  | ((with_reducible first | refine to_store 3 rfl ?_ | refine to_store 4 rfl ?_ | refine to_store 5 rfl ?_); (first | refine Wl_store1 hS (fun _ => by rfl) _ _ (.int _ _) rfl rfl (scT _ rfl) rfl rfl ?_ | refine Wl_store1 hS (fun _ => by rfl) _ _ (.bool _) rfl rfl (scT _ rfl) rfl rfl ?_); (repeat (first | refine Turn1.here (of_decide_eq_true rfl) (of_decide_eq_true rfl) ?_ | refine Turn1.next ?_)); clear hS; intro wW hS; (try simp only [Act.put, List.setIfInBounds_toArray, List.set_cons_zero, List.set_cons_succ]); try simp only [Nat.sub_zero, Nat.reduceSub, cn_ss] at hS))
          refine (HC.out _).mono ?_
          rintro e w1 ⟨rfl, hb⟩
          replace hS := hS.call hb
          clear hb
          go_wp2_with (first
  | ((with_reducible refine to_boxT 35 rfl ?_); refine Wl_box hS (fun _ => by rfl) _ rfl ?_; clear hS; intro b3 wW hS; simp only [Act.put, List.setIfInBounds_toArray, List.set_cons_zero, List.set_cons_succ]; replace hS := hS.split17)
  | ((with_reducible refine to_boxT 32 rfl ?_); refine Wl_box hS (fun _ => by rfl) _ rfl ?_; clear hS; intro b1 wW hS; simp only [Act.put, List.setIfInBounds_toArray, List.set_cons_zero, List.set_cons_succ])
  | ((with_reducible refine to_alloc 35 rfl ?_); refine Wl_alloc hS (fun _ => by rfl) _ rsiZ ?_; clear hS; intro b6 wW hS; simp only [Act.put, List.setIfInBounds_toArray, List.set_cons_zero, List.set_cons_succ])
  | ((with_reducible refine to_alloc 32 rfl ?_); refine Wl_alloc hS (fun _ => by rfl) _ rcnZ ?_; clear hS; intro b7 wW hS; simp only [Act.put, List.setIfInBounds_toArray, List.set_cons_zero, List.set_cons_succ])
  | ((with_reducible refine to_load 35 rfl ?_); refine Wl_load2 hS (fun _ => by rfl) _ rfl _ Try.underlying35 rfl rsiI ?_; (repeat (first | (refine Row2.here ?_) | refine Row2.next ?_)); (with_reducible show wpList _ _ _ _ _ _); simp only [Act.put, List.setIfInBounds_toArray, List.set_cons_zero, List.set_cons_succ])
  | ((with_reducible refine to_load 32 rfl ?_); refine Wl_load hS (fun _ => by rfl) _ _ rfl _ Try.underlying32 rfl ?_; (repeat (first | (refine Row.here ⟨rcnI.trans rfl, ?_⟩) | refine Row.next ?_)); (with_reducible show wpList _ _ _ _ _ _); simp only [Act.put, List.setIfInBounds_toArray, List.set_cons_zero, List.set_cons_succ])
  | ((with_reducible refine to_store 35 rfl ?_); refine Wl_store hS (fun _ => by rfl) _ _ _ rfl rfl (rsiI.trans rfl) (si_one _) ?_; (repeat (first | refine Turn.here rfl ?_ | refine Turn.next ?_)); clear hS; intro wW hS; try simp only [Act.put, List.setIfInBounds_toArray, List.set_cons_zero, List.set_cons_succ])
  | ((with_reducible refine to_store 32 rfl ?_); refine Wl_store hS (fun _ => by rfl) _ _ _ rfl rfl (rcnI.trans rfl) (cn_one _) ?_; (repeat (first | refine Turn.here rfl ?_ | refine Turn.next ?_)); clear hS; intro wW hS; try simp only [Act.put, List.setIfInBounds_toArray, List.set_cons_zero, List.set_cons_succ])
  | ((with_reducible first | refine to_load 3 rfl ?_ | refine to_load 4 rfl ?_ | refine to_load 5 rfl ?_); refine Wl_load1 hS (fun _ => by rfl) _ _ rfl (scT _ rfl) ?_; (repeat (first | refine Look.here (of_decide_eq_true rfl) rfl ?_ | refine Look.next ?_)); (with_reducible show wpList _ _ _ _ _ _); simp only [Act.put, List.setIfInBounds_toArray, List.set_cons_zero, List.set_cons_succ])
  | ((with_reducible first | refine to_store 3 rfl ?_ | refine to_store 4 rfl ?_ | refine to_store 5 rfl ?_); (first | refine Wl_store1 hS (fun _ => by rfl) _ _ (.int _ _) rfl rfl (scT _ rfl) rfl rfl ?_ | refine Wl_store1 hS (fun _ => by rfl) _ _ (.bool _) rfl rfl (scT _ rfl) rfl rfl ?_); (repeat (first | refine Turn1.here (of_decide_eq_true rfl) (of_decide_eq_true rfl) ?_ | refine Turn1.next ?_)); clear hS; intro wW hS; (try simp only [Act.put, List.setIfInBounds_toArray, List.set_cons_zero, List.set_cons_succ]); try simp only [Nat.sub_zero, Nat.reduceSub, cn_ss] at hS))
          refine (HI.out _).mono ?_
          rintro e w1 ⟨rfl, hb⟩
          replace hS := hS.call hb
          clear hb
          go_wp2_with (first
  | ((with_reducible refine to_boxT 35 rfl ?_); refine Wl_box hS (fun _ => by rfl) _ rfl ?_; clear hS; intro b3 wW hS; simp only [Act.put, List.setIfInBounds_toArray, List.set_cons_zero, List.set_cons_succ]; replace hS := hS.split17)
  | ((with_reducible refine to_boxT 32 rfl ?_); refine Wl_box hS (fun _ => by rfl) _ rfl ?_; clear hS; intro b1 wW hS; simp only [Act.put, List.setIfInBounds_toArray, List.set_cons_zero, List.set_cons_succ])
  | ((with_reducible refine to_alloc 35 rfl ?_); refine Wl_alloc hS (fun _ => by rfl) _ rsiZ ?_; clear hS; intro b6 wW hS; simp only [Act.put, List.setIfInBounds_toArray, List.set_cons_zero, List.set_cons_succ])
  | ((with_reducible refine to_alloc 32 rfl ?_); refine Wl_alloc hS (fun _ => by rfl) _ rcnZ ?_; clear hS; intro b7 wW hS; simp only [Act.put, List.setIfInBounds_toArray, List.set_cons_zero, List.set_cons_succ])
  | ((with_reducible refine to_load 35 rfl ?_); refine Wl_load2 hS (fun _ => by rfl) _ rfl _ Try.underlying35 rfl rsiI ?_; (repeat (first | (refine Row2.here ?_) | refine Row2.next ?_)); (with_reducible show wpList _ _ _ _ _ _); simp only [Act.put, List.setIfInBounds_toArray, List.set_cons_zero, List.set_cons_succ])
  | ((with_reducible refine to_load 32 rfl ?_); refine Wl_load hS (fun _ => by rfl) _ _ rfl _ Try.underlying32 rfl ?_; (repeat (first | (refine Row.here ⟨rcnI.trans rfl, ?_⟩) | refine Row.next ?_)); (with_reducible show wpList _ _ _ _ _ _); simp only [Act.put, List.setIfInBounds_toArray, List.set_cons_zero, List.set_cons_succ])
  | ((with_reducible refine to_store 35 rfl ?_); refine Wl_store hS (fun _ => by rfl) _ _ _ rfl rfl (rsiI.trans rfl) (si_one _) ?_; (repeat (first | refine Turn.here rfl ?_ | refine Turn.next ?_)); clear hS; intro wW hS; try simp only [Act.put, List.setIfInBounds_toArray, List.set_cons_zero, List.set_cons_succ])
  | ((with_reducible refine to_store 32 rfl ?_); refine Wl_store hS (fun _ => by rfl) _ _ _ rfl rfl (rcnI.trans rfl) (cn_one _) ?_; (repeat (first | refine Turn.here rfl ?_ | refine Turn.next ?_)); clear hS; intro wW hS; try simp only [Act.put, List.setIfInBounds_toArray, List.set_cons_zero, List.set_cons_succ])
  | ((with_reducible first | refine to_load 3 rfl ?_ | refine to_load 4 rfl ?_ | refine to_load 5 rfl ?_); refine Wl_load1 hS (fun _ => by rfl) _ _ rfl (scT _ rfl) ?_; (repeat (first | refine Look.here (of_decide_eq_true rfl) rfl ?_ | refine Look.next ?_)); (with_reducible show wpList _ _ _ _ _ _); simp only [Act.put, List.setIfInBounds_toArray, List.set_cons_zero, List.set_cons_succ])
  | ((with_reducible first | refine to_store 3 rfl ?_ | refine to_store 4 rfl ?_ | refine to_store 5 rfl ?_); (first | refine Wl_store1 hS (fun _ => by rfl) _ _ (.int _ _) rfl rfl (scT _ rfl) rfl rfl ?_ | refine Wl_store1 hS (fun _ => by rfl) _ _ (.bool _) rfl rfl (scT _ rfl) rfl rfl ?_); (repeat (first | refine Turn1.here (of_decide_eq_true rfl) (of_decide_eq_true rfl) ?_ | refine Turn1.next ?_)); clear hS; intro wW hS; (try simp only [Act.put, List.setIfInBounds_toArray, List.set_cons_zero, List.set_cons_succ]); try simp only [Nat.sub_zero, Nat.reduceSub, cn_ss] at hS))
          refine (HJ.out _).mono ?_
          rintro e w1 ⟨rfl, hb⟩
          replace hS := hS.call hb
          clear hb
          go_wp2_with (first
  | ((with_reducible refine to_boxT 35 rfl ?_); refine Wl_box hS (fun _ => by rfl) _ rfl ?_; clear hS; intro b3 wW hS; simp only [Act.put, List.setIfInBounds_toArray, List.set_cons_zero, List.set_cons_succ]; replace hS := hS.split17)
  | ((with_reducible refine to_boxT 32 rfl ?_); refine Wl_box hS (fun _ => by rfl) _ rfl ?_; clear hS; intro b1 wW hS; simp only [Act.put, List.setIfInBounds_toArray, List.set_cons_zero, List.set_cons_succ])
  | ((with_reducible refine to_alloc 35 rfl ?_); refine Wl_alloc hS (fun _ => by rfl) _ rsiZ ?_; clear hS; intro b6 wW hS; simp only [Act.put, List.setIfInBounds_toArray, List.set_cons_zero, List.set_cons_succ])
  | ((with_reducible refine to_alloc 32 rfl ?_); refine Wl_alloc hS (fun _ => by rfl) _ rcnZ ?_; clear hS; intro b7 wW hS; simp only [Act.put, List.setIfInBounds_toArray, List.set_cons_zero, List.set_cons_succ])
  | ((with_reducible refine to_load 35 rfl ?_); refine Wl_load2 hS (fun _ => by rfl) _ rfl _ Try.underlying35 rfl rsiI ?_; (repeat (first | (refine Row2.here ?_) | refine Row2.next ?_)); (with_reducible show wpList _ _ _ _ _ _); simp only [Act.put, List.setIfInBounds_toArray, List.set_cons_zero, List.set_cons_succ])
  | ((with_reducible refine to_load 32 rfl ?_); refine Wl_load hS (fun _ => by rfl) _ _ rfl _ Try.underlying32 rfl ?_; (repeat (first | (refine Row.here ⟨rcnI.trans rfl, ?_⟩) | refine Row.next ?_)); (with_reducible show wpList _ _ _ _ _ _); simp only [Act.put, List.setIfInBounds_toArray, List.set_cons_zero, List.set_cons_succ])
  | ((with_reducible refine to_store 35 rfl ?_); refine Wl_store hS (fun _ => by rfl) _ _ _ rfl rfl (rsiI.trans rfl) (si_one _) ?_; (repeat (first | refine Turn.here rfl ?_ | refine Turn.next ?_)); clear hS; intro wW hS; try simp only [Act.put, List.setIfInBounds_toArray, List.set_cons_zero, List.set_cons_succ])
  | ((with_reducible refine to_store 32 rfl ?_); refine Wl_store hS (fun _ => by rfl) _ _ _ rfl rfl (rcnI.trans rfl) (cn_one _) ?_; (repeat (first | refine Turn.here rfl ?_ | refine Turn.next ?_)); clear hS; intro wW hS; try simp only [Act.put, List.setIfInBounds_toArray, List.set_cons_zero, List.set_cons_succ])
  | ((with_reducible first | refine to_load 3 rfl ?_ | refine to_load 4 rfl ?_ | refine to_load 5 rfl ?_); refine Wl_load1 hS (fun _ => by rfl) _ _ rfl (scT _ rfl) ?_; (repeat (first | refine Look.here (of_decide_eq_true rfl) rfl ?_ | refine Look.next ?_)); (with_reducible show wpList _ _ _ _ _ _); simp only [Act.put, List.setIfInBounds_toArray, List.set_cons_zero, List.set_cons_succ])
  | ((with_reducible first | refine to_store 3 rfl ?_ | refine to_store 4 rfl ?_ | refine to_store 5 rfl ?_); (first | refine Wl_store1 hS (fun _ => by rfl) _ _ (.int _ _) rfl rfl (scT _ rfl) rfl rfl ?_ | refine Wl_store1 hS (fun _ => by rfl) _ _ (.bool _) rfl rfl (scT _ rfl) rfl rfl ?_); (repeat (first | refine Turn1.here (of_decide_eq_true rfl) (of_decide_eq_true rfl) ?_ | refine Turn1.next ?_)); clear hS; intro wW hS; (try simp only [Act.put, List.setIfInBounds_toArray, List.set_cons_zero, List.set_cons_succ]); try simp only [Nat.sub_zero, Nat.reduceSub, cn_ss] at hS))
          refine wp_region_held_drew (S := fun W => St w.heap.size 0 0 w [⟨b7, 0, true, (M.Cn.mk x0 x1 x2 x3 x4 x5 x6 x7 pt f0 f1 f2 n over tx false says).a⟩, ⟨b3, 0, true, (c0).a⟩, ⟨b3, 17, true, (M.Cn.mk x0 x1 x2 x3 x4 x5 x6 x7 pt f0 f1 f2 n over tx false says).a⟩] W) (by kernel_rfl) (hS.drew.sub (by repeat (first | exact List.Sublist.slnil | apply List.Sublist.cons_cons | apply List.Sublist.cons))) ?_
          intro _
          replace hS := hS.drew
          generalize World.drew _ = wX at hS ⊢
          refine wpAnyH_take (i := 0) rfl (by kernel_rfl) (by kernel_rfl) (by kernel_rfl) (fun _ _ _ h => h) (yields_row2 (by rfl) _ _ rfl _ rfl _ Try.underlying35 rfl rsiI _ _ _ _ _ _ _ _ _ (fun W hW => hW) (.tail _ (.head _)) (.tail _ (.tail _ (.head _)))) (hS.sub (by repeat (first | exact List.Sublist.slnil | apply List.Sublist.cons_cons | apply List.Sublist.cons))) ?_
          try simp only [Act.put, List.setIfInBounds_toArray, List.set_cons_zero, List.set_cons_succ, List.getElem_toArray, List.getElem_cons_succ, List.getElem_cons_zero]
          refine wpAnyH_take (i := 1) (v := ?_) rfl (by kernel_rfl) (by kernel_rfl) (by kernel_rfl) (fun _ _ _ h => h) (Or.inl ⟨by rfl, ?_⟩) (hS.sub (by repeat (first | exact List.Sublist.slnil | apply List.Sublist.cons_cons | apply List.Sublist.cons))) ?_
          rotate_left 1
          · intro W hW
            clear hW
            go_simp
            all_goals with_reducible rfl
          try simp only [Act.put, List.setIfInBounds_toArray, List.set_cons_zero, List.set_cons_succ, List.getElem_toArray, List.getElem_cons_succ, List.getElem_cons_zero]
          refine wpAnyH_take (i := 2) rfl (by kernel_rfl) (by kernel_rfl) (by kernel_rfl) (fun _ _ _ h => h) (yields_one (by rfl) _ _ rfl _ _ rfl sc5 _ (fun W hW => St.cellq hW (.head _) (of_decide_eq_true rfl) rfl)) (hS.sub (by repeat (first | exact List.Sublist.slnil | apply List.Sublist.cons_cons | apply List.Sublist.cons))) ?_
          try simp only [Act.put, List.setIfInBounds_toArray, List.set_cons_zero, List.set_cons_succ, List.getElem_toArray, List.getElem_cons_succ, List.getElem_cons_zero]
          refine wpAnyH_ready (rs := [3]) (by kernel_rfl) (by simp) (AllReadyH.cons rfl ?_ AllReadyH.nil)
          intro K1 hK1
          rw [if_pos (by rfl)]
          try simp only [Act.put, List.setIfInBounds_toArray, List.set_cons_zero, List.set_cons_succ, List.getElem_toArray, List.getElem_cons_succ, List.getElem_cons_zero]
          refine wp_store_st hS _ _ _ rfl _ _ _ rfl rfl (rsiI.trans rfl) (si_one _) ?_
          repeat (first | refine Turn.here rfl ?_ | refine Turn.next ?_)
          clear hS
          intro wW hS
          refine hK1.out _ _ (hS.sub (by repeat (first | exact List.Sublist.slnil | apply List.Sublist.cons_cons | apply List.Sublist.cons))) (fun _ => ?_)
          clear hK1
          try simp only [Act.put, List.setIfInBounds_toArray, List.set_cons_zero, List.set_cons_succ, List.getElem_toArray, List.getElem_cons_succ, List.getElem_cons_zero]
          refine wpAnyH_take (i := 4) (v := ?_) rfl (by kernel_rfl) (by kernel_rfl) (by kernel_rfl) (fun _ _ _ h => h) (Or.inl ⟨by rfl, ?_⟩) (hS.sub (by repeat (first | exact List.Sublist.slnil | apply List.Sublist.cons_cons | apply List.Sublist.cons))) ?_
          rotate_left 1
          · intro W hW
            clear hW
            go_simp
            all_goals with_reducible rfl
          try simp only [Act.put, List.setIfInBounds_toArray, List.set_cons_zero, List.set_cons_succ, List.getElem_toArray, List.getElem_cons_succ, List.getElem_cons_zero]
          refine wpAnyH_take (i := 5) (v := ?_) rfl (by kernel_rfl) (by kernel_rfl) (by kernel_rfl) (fun _ _ _ h => h) (Or.inl ⟨by rfl, ?_⟩) (hS.sub (by repeat (first | exact List.Sublist.slnil | apply List.Sublist.cons_cons | apply List.Sublist.cons))) ?_
          rotate_left 1
          · intro W hW
            clear hW
            go_simp
            all_goals with_reducible rfl
          try simp only [Act.put, List.setIfInBounds_toArray, List.set_cons_zero, List.set_cons_succ, List.getElem_toArray, List.getElem_cons_succ, List.getElem_cons_zero]
          refine wpAnyH_done (by kernel_rfl) ?_ _
          go_wp2_with fail
          refine ret_tt_st hS rfl _ _ rfl _ _ rfl rfl rfl _ Try.underlying35 rfl ?_
          repeat (first | (refine Row.here ⟨rsiI.trans rfl, ?_⟩) | refine Row.next ?_)
          exact ⟨rfl, hS.below⟩
      · rcases (show k = 0 ∨ k = 1 by omega) with rfl | rfl
        · go_enter Try.func17, Try.ntmps17
          go_wp2_with (first
  | ((with_reducible refine to_boxT 35 rfl ?_); refine Wl_box hS (fun _ => by rfl) _ rfl ?_; clear hS; intro b3 wW hS; simp only [Act.put, List.setIfInBounds_toArray, List.set_cons_zero, List.set_cons_succ]; replace hS := hS.split17)
  | ((with_reducible refine to_boxT 32 rfl ?_); refine Wl_box hS (fun _ => by rfl) _ rfl ?_; clear hS; intro b1 wW hS; simp only [Act.put, List.setIfInBounds_toArray, List.set_cons_zero, List.set_cons_succ])
  | ((with_reducible refine to_alloc 35 rfl ?_); refine Wl_alloc hS (fun _ => by rfl) _ rsiZ ?_; clear hS; intro b6 wW hS; simp only [Act.put, List.setIfInBounds_toArray, List.set_cons_zero, List.set_cons_succ])
  | ((with_reducible refine to_alloc 32 rfl ?_); refine Wl_alloc hS (fun _ => by rfl) _ rcnZ ?_; clear hS; intro b7 wW hS; simp only [Act.put, List.setIfInBounds_toArray, List.set_cons_zero, List.set_cons_succ])
  | ((with_reducible refine to_load 35 rfl ?_); refine Wl_load2 hS (fun _ => by rfl) _ rfl _ Try.underlying35 rfl rsiI ?_; (repeat (first | (refine Row2.here ?_) | refine Row2.next ?_)); (with_reducible show wpList _ _ _ _ _ _); simp only [Act.put, List.setIfInBounds_toArray, List.set_cons_zero, List.set_cons_succ])
  | ((with_reducible refine to_load 32 rfl ?_); refine Wl_load hS (fun _ => by rfl) _ _ rfl _ Try.underlying32 rfl ?_; (repeat (first | (refine Row.here ⟨rcnI.trans rfl, ?_⟩) | refine Row.next ?_)); (with_reducible show wpList _ _ _ _ _ _); simp only [Act.put, List.setIfInBounds_toArray, List.set_cons_zero, List.set_cons_succ])
  | ((with_reducible refine to_store 35 rfl ?_); refine Wl_store hS (fun _ => by rfl) _ _ _ rfl rfl (rsiI.trans rfl) (si_one _) ?_; (repeat (first | refine Turn.here rfl ?_ | refine Turn.next ?_)); clear hS; intro wW hS; try simp only [Act.put, List.setIfInBounds_toArray, List.set_cons_zero, List.set_cons_succ])
  | ((with_reducible refine to_store 32 rfl ?_); refine Wl_store hS (fun _ => by rfl) _ _ _ rfl rfl (rcnI.trans rfl) (cn_one _) ?_; (repeat (first | refine Turn.here rfl ?_ | refine Turn.next ?_)); clear hS; intro wW hS; try simp only [Act.put, List.setIfInBounds_toArray, List.set_cons_zero, List.set_cons_succ])
  | ((with_reducible first | refine to_load 3 rfl ?_ | refine to_load 4 rfl ?_ | refine to_load 5 rfl ?_); refine Wl_load1 hS (fun _ => by rfl) _ _ rfl (scT _ rfl) ?_; (repeat (first | refine Look.here (of_decide_eq_true rfl) rfl ?_ | refine Look.next ?_)); (with_reducible show wpList _ _ _ _ _ _); simp only [Act.put, List.setIfInBounds_toArray, List.set_cons_zero, List.set_cons_succ])
  | ((with_reducible first | refine to_store 3 rfl ?_ | refine to_store 4 rfl ?_ | refine to_store 5 rfl ?_); (first | refine Wl_store1 hS (fun _ => by rfl) _ _ (.int _ _) rfl rfl (scT _ rfl) rfl rfl ?_ | refine Wl_store1 hS (fun _ => by rfl) _ _ (.bool _) rfl rfl (scT _ rfl) rfl rfl ?_); (repeat (first | refine Turn1.here (of_decide_eq_true rfl) (of_decide_eq_true rfl) ?_ | refine Turn1.next ?_)); clear hS; intro wW hS; (try simp only [Act.put, List.setIfInBounds_toArray, List.set_cons_zero, List.set_cons_succ]); try simp only [Nat.sub_zero, Nat.reduceSub, cn_ss] at hS))
          refine (HC.out _).mono ?_
          rintro e w1 ⟨rfl, hb⟩
          replace hS := hS.call hb
          clear hb
          go_wp2_with (first
  | ((with_reducible refine to_boxT 35 rfl ?_); refine Wl_box hS (fun _ => by rfl) _ rfl ?_; clear hS; intro b3 wW hS; simp only [Act.put, List.setIfInBounds_toArray, List.set_cons_zero, List.set_cons_succ]; replace hS := hS.split17)
  | ((with_reducible refine to_boxT 32 rfl ?_); refine Wl_box hS (fun _ => by rfl) _ rfl ?_; clear hS; intro b1 wW hS; simp only [Act.put, List.setIfInBounds_toArray, List.set_cons_zero, List.set_cons_succ])
  | ((with_reducible refine to_alloc 35 rfl ?_); refine Wl_alloc hS (fun _ => by rfl) _ rsiZ ?_; clear hS; intro b6 wW hS; simp only [Act.put, List.setIfInBounds_toArray, List.set_cons_zero, List.set_cons_succ])
  | ((with_reducible refine to_alloc 32 rfl ?_); refine Wl_alloc hS (fun _ => by rfl) _ rcnZ ?_; clear hS; intro b7 wW hS; simp only [Act.put, List.setIfInBounds_toArray, List.set_cons_zero, List.set_cons_succ])
  | ((with_reducible refine to_load 35 rfl ?_); refine Wl_load2 hS (fun _ => by rfl) _ rfl _ Try.underlying35 rfl rsiI ?_; (repeat (first | (refine Row2.here ?_) | refine Row2.next ?_)); (with_reducible show wpList _ _ _ _ _ _); simp only [Act.put, List.setIfInBounds_toArray, List.set_cons_zero, List.set_cons_succ])
  | ((with_reducible refine to_load 32 rfl ?_); refine Wl_load hS (fun _ => by rfl) _ _ rfl _ Try.underlying32 rfl ?_; (repeat (first | (refine Row.here ⟨rcnI.trans rfl, ?_⟩) | refine Row.next ?_)); (with_reducible show wpList _ _ _ _ _ _); simp only [Act.put, List.setIfInBounds_toArray, List.set_cons_zero, List.set_cons_succ])
  | ((with_reducible refine to_store 35 rfl ?_); refine Wl_store hS (fun _ => by rfl) _ _ _ rfl rfl (rsiI.trans rfl) (si_one _) ?_; (repeat (first | refine Turn.here rfl ?_ | refine Turn.next ?_)); clear hS; intro wW hS; try simp only [Act.put, List.setIfInBounds_toArray, List.set_cons_zero, List.set_cons_succ])
  | ((with_reducible refine to_store 32 rfl ?_); refine Wl_store hS (fun _ => by rfl) _ _ _ rfl rfl (rcnI.trans rfl) (cn_one _) ?_; (repeat (first | refine Turn.here rfl ?_ | refine Turn.next ?_)); clear hS; intro wW hS; try simp only [Act.put, List.setIfInBounds_toArray, List.set_cons_zero, List.set_cons_succ])
  | ((with_reducible first | refine to_load 3 rfl ?_ | refine to_load 4 rfl ?_ | refine to_load 5 rfl ?_); refine Wl_load1 hS (fun _ => by rfl) _ _ rfl (scT _ rfl) ?_; (repeat (first | refine Look.here (of_decide_eq_true rfl) rfl ?_ | refine Look.next ?_)); (with_reducible show wpList _ _ _ _ _ _); simp only [Act.put, List.setIfInBounds_toArray, List.set_cons_zero, List.set_cons_succ])
  | ((with_reducible first | refine to_store 3 rfl ?_ | refine to_store 4 rfl ?_ | refine to_store 5 rfl ?_); (first | refine Wl_store1 hS (fun _ => by rfl) _ _ (.int _ _) rfl rfl (scT _ rfl) rfl rfl ?_ | refine Wl_store1 hS (fun _ => by rfl) _ _ (.bool _) rfl rfl (scT _ rfl) rfl rfl ?_); (repeat (first | refine Turn1.here (of_decide_eq_true rfl) (of_decide_eq_true rfl) ?_ | refine Turn1.next ?_)); clear hS; intro wW hS; (try simp only [Act.put, List.setIfInBounds_toArray, List.set_cons_zero, List.set_cons_succ]); try simp only [Nat.sub_zero, Nat.reduceSub, cn_ss] at hS))
          refine (HI.out _).mono ?_
          rintro e w1 ⟨rfl, hb⟩
          replace hS := hS.call hb
          clear hb
          go_wp2_with (first
  | ((with_reducible refine to_boxT 35 rfl ?_); refine Wl_box hS (fun _ => by rfl) _ rfl ?_; clear hS; intro b3 wW hS; simp only [Act.put, List.setIfInBounds_toArray, List.set_cons_zero, List.set_cons_succ]; replace hS := hS.split17)
  | ((with_reducible refine to_boxT 32 rfl ?_); refine Wl_box hS (fun _ => by rfl) _ rfl ?_; clear hS; intro b1 wW hS; simp only [Act.put, List.setIfInBounds_toArray, List.set_cons_zero, List.set_cons_succ])
  | ((with_reducible refine to_alloc 35 rfl ?_); refine Wl_alloc hS (fun _ => by rfl) _ rsiZ ?_; clear hS; intro b6 wW hS; simp only [Act.put, List.setIfInBounds_toArray, List.set_cons_zero, List.set_cons_succ])
  | ((with_reducible refine to_alloc 32 rfl ?_); refine Wl_alloc hS (fun _ => by rfl) _ rcnZ ?_; clear hS; intro b7 wW hS; simp only [Act.put, List.setIfInBounds_toArray, List.set_cons_zero, List.set_cons_succ])
  | ((with_reducible refine to_load 35 rfl ?_); refine Wl_load2 hS (fun _ => by rfl) _ rfl _ Try.underlying35 rfl rsiI ?_; (repeat (first | (refine Row2.here ?_) | refine Row2.next ?_)); (with_reducible show wpList _ _ _ _ _ _); simp only [Act.put, List.setIfInBounds_toArray, List.set_cons_zero, List.set_cons_succ])
  | ((with_reducible refine to_load 32 rfl ?_); refine Wl_load hS (fun _ => by rfl) _ _ rfl _ Try.underlying32 rfl ?_; (repeat (first | (refine Row.here ⟨rcnI.trans rfl, ?_⟩) | refine Row.next ?_)); (with_reducible show wpList _ _ _ _ _ _); simp only [Act.put, List.setIfInBounds_toArray, List.set_cons_zero, List.set_cons_succ])
  | ((with_reducible refine to_store 35 rfl ?_); refine Wl_store hS (fun _ => by rfl) _ _ _ rfl rfl (rsiI.trans rfl) (si_one _) ?_; (repeat (first | refine Turn.here rfl ?_ | refine Turn.next ?_)); clear hS; intro wW hS; try simp only [Act.put, List.setIfInBounds_toArray, List.set_cons_zero, List.set_cons_succ])
  | ((with_reducible refine to_store 32 rfl ?_); refine Wl_store hS (fun _ => by rfl) _ _ _ rfl rfl (rcnI.trans rfl) (cn_one _) ?_; (repeat (first | refine Turn.here rfl ?_ | refine Turn.next ?_)); clear hS; intro wW hS; try simp only [Act.put, List.setIfInBounds_toArray, List.set_cons_zero, List.set_cons_succ])
  | ((with_reducible first | refine to_load 3 rfl ?_ | refine to_load 4 rfl ?_ | refine to_load 5 rfl ?_); refine Wl_load1 hS (fun _ => by rfl) _ _ rfl (scT _ rfl) ?_; (repeat (first | refine Look.here (of_decide_eq_true rfl) rfl ?_ | refine Look.next ?_)); (with_reducible show wpList _ _ _ _ _ _); simp only [Act.put, List.setIfInBounds_toArray, List.set_cons_zero, List.set_cons_succ])
  | ((with_reducible first | refine to_store 3 rfl ?_ | refine to_store 4 rfl ?_ | refine to_store 5 rfl ?_); (first | refine Wl_store1 hS (fun _ => by rfl) _ _ (.int _ _) rfl rfl (scT _ rfl) rfl rfl ?_ | refine Wl_store1 hS (fun _ => by rfl) _ _ (.bool _) rfl rfl (scT _ rfl) rfl rfl ?_); (repeat (first | refine Turn1.here (of_decide_eq_true rfl) (of_decide_eq_true rfl) ?_ | refine Turn1.next ?_)); clear hS; intro wW hS; (try simp only [Act.put, List.setIfInBounds_toArray, List.set_cons_zero, List.set_cons_succ]); try simp only [Nat.sub_zero, Nat.reduceSub, cn_ss] at hS))
          refine (HJ.out _).mono ?_
          rintro e w1 ⟨rfl, hb⟩
          replace hS := hS.call hb
          clear hb
          go_wp2_with (first
  | ((with_reducible refine to_boxT 35 rfl ?_); refine Wl_box hS (fun _ => by rfl) _ rfl ?_; clear hS; intro b3 wW hS; simp only [Act.put, List.setIfInBounds_toArray, List.set_cons_zero, List.set_cons_succ]; replace hS := hS.split17)
  | ((with_reducible refine to_boxT 32 rfl ?_); refine Wl_box hS (fun _ => by rfl) _ rfl ?_; clear hS; intro b1 wW hS; simp only [Act.put, List.setIfInBounds_toArray, List.set_cons_zero, List.set_cons_succ])
  | ((with_reducible refine to_alloc 35 rfl ?_); refine Wl_alloc hS (fun _ => by rfl) _ rsiZ ?_; clear hS; intro b6 wW hS; simp only [Act.put, List.setIfInBounds_toArray, List.set_cons_zero, List.set_cons_succ])
  | ((with_reducible refine to_alloc 32 rfl ?_); refine Wl_alloc hS (fun _ => by rfl) _ rcnZ ?_; clear hS; intro b7 wW hS; simp only [Act.put, List.setIfInBounds_toArray, List.set_cons_zero, List.set_cons_succ])
  | ((with_reducible refine to_load 35 rfl ?_); refine Wl_load2 hS (fun _ => by rfl) _ rfl _ Try.underlying35 rfl rsiI ?_; (repeat (first | (refine Row2.here ?_) | refine Row2.next ?_)); (with_reducible show wpList _ _ _ _ _ _); simp only [Act.put, List.setIfInBounds_toArray, List.set_cons_zero, List.set_cons_succ])
  | ((with_reducible refine to_load 32 rfl ?_); refine Wl_load hS (fun _ => by rfl) _ _ rfl _ Try.underlying32 rfl ?_; (repeat (first | (refine Row.here ⟨rcnI.trans rfl, ?_⟩) | refine Row.next ?_)); (with_reducible show wpList _ _ _ _ _ _); simp only [Act.put, List.setIfInBounds_toArray, List.set_cons_zero, List.set_cons_succ])
  | ((with_reducible refine to_store 35 rfl ?_); refine Wl_store hS (fun _ => by rfl) _ _ _ rfl rfl (rsiI.trans rfl) (si_one _) ?_; (repeat (first | refine Turn.here rfl ?_ | refine Turn.next ?_)); clear hS; intro wW hS; try simp only [Act.put, List.setIfInBounds_toArray, List.set_cons_zero, List.set_cons_succ])
  | ((with_reducible refine to_store 32 rfl ?_); refine Wl_store hS (fun _ => by rfl) _ _ _ rfl rfl (rcnI.trans rfl) (cn_one _) ?_; (repeat (first | refine Turn.here rfl ?_ | refine Turn.next ?_)); clear hS; intro wW hS; try simp only [Act.put, List.setIfInBounds_toArray, List.set_cons_zero, List.set_cons_succ])
  | ((with_reducible first | refine to_load 3 rfl ?_ | refine to_load 4 rfl ?_ | refine to_load 5 rfl ?_); refine Wl_load1 hS (fun _ => by rfl) _ _ rfl (scT _ rfl) ?_; (repeat (first | refine Look.here (of_decide_eq_true rfl) rfl ?_ | refine Look.next ?_)); (with_reducible show wpList _ _ _ _ _ _); simp only [Act.put, List.setIfInBounds_toArray, List.set_cons_zero, List.set_cons_succ])
  | ((with_reducible first | refine to_store 3 rfl ?_ | refine to_store 4 rfl ?_ | refine to_store 5 rfl ?_); (first | refine Wl_store1 hS (fun _ => by rfl) _ _ (.int _ _) rfl rfl (scT _ rfl) rfl rfl ?_ | refine Wl_store1 hS (fun _ => by rfl) _ _ (.bool _) rfl rfl (scT _ rfl) rfl rfl ?_); (repeat (first | refine Turn1.here (of_decide_eq_true rfl) (of_decide_eq_true rfl) ?_ | refine Turn1.next ?_)); clear hS; intro wW hS; (try simp only [Act.put, List.setIfInBounds_toArray, List.set_cons_zero, List.set_cons_succ]); try simp only [Nat.sub_zero, Nat.reduceSub, cn_ss] at hS))
          refine wp_region_held_drew (S := fun W => St w.heap.size 0 0 w [⟨b7, 0, true, (M.Cn.mk x0 x1 x2 x3 x4 x5 x6 x7 pt f0 f1 f2 n over tx false true).a⟩, ⟨b3, 0, true, (M.Cn.mk x0 x1 x2 x3 x4 x5 x6 x7 pt f0 f1 f2 n over tx false true).a⟩, ⟨b3, 17, true, (c1).a⟩] W) (by kernel_rfl) (hS.drew.sub (by repeat (first | exact List.Sublist.slnil | apply List.Sublist.cons_cons | apply List.Sublist.cons))) ?_
          intro _
          replace hS := hS.drew
          generalize World.drew _ = wX at hS ⊢
          refine wpAnyH_take (i := 0) rfl (by kernel_rfl) (by kernel_rfl) (by kernel_rfl) (fun _ _ _ h => h) (yields_row2 (by rfl) _ _ rfl _ rfl _ Try.underlying35 rfl rsiI _ _ _ _ _ _ _ _ _ (fun W hW => hW) (.tail _ (.head _)) (.tail _ (.tail _ (.head _)))) (hS.sub (by repeat (first | exact List.Sublist.slnil | apply List.Sublist.cons_cons | apply List.Sublist.cons))) ?_
          try simp only [Act.put, List.setIfInBounds_toArray, List.set_cons_zero, List.set_cons_succ, List.getElem_toArray, List.getElem_cons_succ, List.getElem_cons_zero]
          refine wpAnyH_take (i := 1) (v := ?_) rfl (by kernel_rfl) (by kernel_rfl) (by kernel_rfl) (fun _ _ _ h => h) (Or.inl ⟨by rfl, ?_⟩) (hS.sub (by repeat (first | exact List.Sublist.slnil | apply List.Sublist.cons_cons | apply List.Sublist.cons))) ?_
          rotate_left 1
          · intro W hW
            clear hW
            go_simp
            all_goals with_reducible rfl
          try simp only [Act.put, List.setIfInBounds_toArray, List.set_cons_zero, List.set_cons_succ, List.getElem_toArray, List.getElem_cons_succ, List.getElem_cons_zero]
          refine wpAnyH_take (i := 2) rfl (by kernel_rfl) (by kernel_rfl) (by kernel_rfl) (fun _ _ _ h => h) (yields_one (by rfl) _ _ rfl _ _ rfl sc5 _ (fun W hW => St.cellq hW (.head _) (of_decide_eq_true rfl) rfl)) (hS.sub (by repeat (first | exact List.Sublist.slnil | apply List.Sublist.cons_cons | apply List.Sublist.cons))) ?_
          try simp only [Act.put, List.setIfInBounds_toArray, List.set_cons_zero, List.set_cons_succ, List.getElem_toArray, List.getElem_cons_succ, List.getElem_cons_zero]
          refine wpAnyH_ready (rs := [3]) (by kernel_rfl) (by simp) (AllReadyH.cons rfl ?_ AllReadyH.nil)
          intro K1 hK1
          rw [if_pos (by rfl)]
          try simp only [Act.put, List.setIfInBounds_toArray, List.set_cons_zero, List.set_cons_succ, List.getElem_toArray, List.getElem_cons_succ, List.getElem_cons_zero]
          refine wp_store_st hS _ _ _ rfl _ _ _ rfl rfl (rsiI.trans rfl) (si_one _) ?_
          repeat (first | refine Turn.here rfl ?_ | refine Turn.next ?_)
          clear hS
          intro wW hS
          refine hK1.out _ _ (hS.sub (by repeat (first | exact List.Sublist.slnil | apply List.Sublist.cons_cons | apply List.Sublist.cons))) (fun _ => ?_)
          clear hK1
          try simp only [Act.put, List.setIfInBounds_toArray, List.set_cons_zero, List.set_cons_succ, List.getElem_toArray, List.getElem_cons_succ, List.getElem_cons_zero]
          refine wpAnyH_take (i := 4) (v := ?_) rfl (by kernel_rfl) (by kernel_rfl) (by kernel_rfl) (fun _ _ _ h => h) (Or.inl ⟨by rfl, ?_⟩) (hS.sub (by repeat (first | exact List.Sublist.slnil | apply List.Sublist.cons_cons | apply List.Sublist.cons))) ?_
          rotate_left 1
          · intro W hW
            clear hW
            go_simp
            all_goals with_reducible rfl
          try simp only [Act.put, List.setIfInBounds_toArray, List.set_cons_zero, List.set_cons_succ, List.getElem_toArray, List.getElem_cons_succ, List.getElem_cons_zero]
          refine wpAnyH_take (i := 5) (v := ?_) rfl (by kernel_rfl) (by kernel_rfl) (by kernel_rfl) (fun _ _ _ h => h) (Or.inl ⟨by rfl, ?_⟩) (hS.sub (by repeat (first | exact List.Sublist.slnil | apply List.Sublist.cons_cons | apply List.Sublist.cons))) ?_
          rotate_left 1
          · intro W hW
            clear hW
            go_simp
            all_goals with_reducible rfl
          try simp only [Act.put, List.setIfInBounds_toArray, List.set_cons_zero, List.set_cons_succ, List.getElem_toArray, List.getElem_cons_succ, List.getElem_cons_zero]
          refine wpAnyH_done (by kernel_rfl) ?_ _
          go_wp2_with fail
          refine ret_tt_st hS rfl _ _ rfl _ _ rfl rfl rfl _ Try.underlying35 rfl ?_
          repeat (first | (refine Row.here ⟨rsiI.trans rfl, ?_⟩) | refine Row.next ?_)
          exact ⟨rfl, hS.below⟩
        · go_enter Try.func17, Try.ntmps17
          go_wp2_with (first
  | ((with_reducible refine to_boxT 35 rfl ?_); refine Wl_box hS (fun _ => by rfl) _ rfl ?_; clear hS; intro b3 wW hS; simp only [Act.put, List.setIfInBounds_toArray, List.set_cons_zero, List.set_cons_succ]; replace hS := hS.split17)
  | ((with_reducible refine to_boxT 32 rfl ?_); refine Wl_box hS (fun _ => by rfl) _ rfl ?_; clear hS; intro b1 wW hS; simp only [Act.put, List.setIfInBounds_toArray, List.set_cons_zero, List.set_cons_succ])
  | ((with_reducible refine to_alloc 35 rfl ?_); refine Wl_alloc hS (fun _ => by rfl) _ rsiZ ?_; clear hS; intro b6 wW hS; simp only [Act.put, List.setIfInBounds_toArray, List.set_cons_zero, List.set_cons_succ])
  | ((with_reducible refine to_alloc 32 rfl ?_); refine Wl_alloc hS (fun _ => by rfl) _ rcnZ ?_; clear hS; intro b7 wW hS; simp only [Act.put, List.setIfInBounds_toArray, List.set_cons_zero, List.set_cons_succ])
  | ((with_reducible refine to_load 35 rfl ?_); refine Wl_load2 hS (fun _ => by rfl) _ rfl _ Try.underlying35 rfl rsiI ?_; (repeat (first | (refine Row2.here ?_) | refine Row2.next ?_)); (with_reducible show wpList _ _ _ _ _ _); simp only [Act.put, List.setIfInBounds_toArray, List.set_cons_zero, List.set_cons_succ])
  | ((with_reducible refine to_load 32 rfl ?_); refine Wl_load hS (fun _ => by rfl) _ _ rfl _ Try.underlying32 rfl ?_; (repeat (first | (refine Row.here ⟨rcnI.trans rfl, ?_⟩) | refine Row.next ?_)); (with_reducible show wpList _ _ _ _ _ _); simp only [Act.put, List.setIfInBounds_toArray, List.set_cons_zero, List.set_cons_succ])
  | ((with_reducible refine to_store 35 rfl ?_); refine Wl_store hS (fun _ => by rfl) _ _ _ rfl rfl (rsiI.trans rfl) (si_one _) ?_; (repeat (first | refine Turn.here rfl ?_ | refine Turn.next ?_)); clear hS; intro wW hS; try simp only [Act.put, List.setIfInBounds_toArray, List.set_cons_zero, List.set_cons_succ])
  | ((with_reducible refine to_store 32 rfl ?_); refine Wl_store hS (fun _ => by rfl) _ _ _ rfl rfl (rcnI.trans rfl) (cn_one _) ?_; (repeat (first | refine Turn.here rfl ?_ | refine Turn.next ?_)); clear hS; intro wW hS; try simp only [Act.put, List.setIfInBounds_toArray, List.set_cons_zero, List.set_cons_succ])
  | ((with_reducible first | refine to_load 3 rfl ?_ | refine to_load 4 rfl ?_ | refine to_load 5 rfl ?_); refine Wl_load1 hS (fun _ => by rfl) _ _ rfl (scT _ rfl) ?_; (repeat (first | refine Look.here (of_decide_eq_true rfl) rfl ?_ | refine Look.next ?_)); (with_reducible show wpList _ _ _ _ _ _); simp only [Act.put, List.setIfInBounds_toArray, List.set_cons_zero, List.set_cons_succ])
  | ((with_reducible first | refine to_store 3 rfl ?_ | refine to_store 4 rfl ?_ | refine to_store 5 rfl ?_); (first | refine Wl_store1 hS (fun _ => by rfl) _ _ (.int _ _) rfl rfl (scT _ rfl) rfl rfl ?_ | refine Wl_store1 hS (fun _ => by rfl) _ _ (.bool _) rfl rfl (scT _ rfl) rfl rfl ?_); (repeat (first | refine Turn1.here (of_decide_eq_true rfl) (of_decide_eq_true rfl) ?_ | refine Turn1.next ?_)); clear hS; intro wW hS; (try simp only [Act.put, List.setIfInBounds_toArray, List.set_cons_zero, List.set_cons_succ]); try simp only [Nat.sub_zero, Nat.reduceSub, cn_ss] at hS))
          refine (HC.out _).mono ?_
          rintro e w1 ⟨rfl, hb⟩
          replace hS := hS.call hb
          clear hb
          go_wp2_with (first
  | ((with_reducible refine to_boxT 35 rfl ?_); refine Wl_box hS (fun _ => by rfl) _ rfl ?_; clear hS; intro b3 wW hS; simp only [Act.put, List.setIfInBounds_toArray, List.set_cons_zero, List.set_cons_succ]; replace hS := hS.split17)
  | ((with_reducible refine to_boxT 32 rfl ?_); refine Wl_box hS (fun _ => by rfl) _ rfl ?_; clear hS; intro b1 wW hS; simp only [Act.put, List.setIfInBounds_toArray, List.set_cons_zero, List.set_cons_succ])
  | ((with_reducible refine to_alloc 35 rfl ?_); refine Wl_alloc hS (fun _ => by rfl) _ rsiZ ?_; clear hS; intro b6 wW hS; simp only [Act.put, List.setIfInBounds_toArray, List.set_cons_zero, List.set_cons_succ])
  | ((with_reducible refine to_alloc 32 rfl ?_); refine Wl_alloc hS (fun _ => by rfl) _ rcnZ ?_; clear hS; intro b7 wW hS; simp only [Act.put, List.setIfInBounds_toArray, List.set_cons_zero, List.set_cons_succ])
  | ((with_reducible refine to_load 35 rfl ?_); refine Wl_load2 hS (fun _ => by rfl) _ rfl _ Try.underlying35 rfl rsiI ?_; (repeat (first | (refine Row2.here ?_) | refine Row2.next ?_)); (with_reducible show wpList _ _ _ _ _ _); simp only [Act.put, List.setIfInBounds_toArray, List.set_cons_zero, List.set_cons_succ])
  | ((with_reducible refine to_load 32 rfl ?_); refine Wl_load hS (fun _ => by rfl) _ _ rfl _ Try.underlying32 rfl ?_; (repeat (first | (refine Row.here ⟨rcnI.trans rfl, ?_⟩) | refine Row.next ?_)); (with_reducible show wpList _ _ _ _ _ _); simp only [Act.put, List.setIfInBounds_toArray, List.set_cons_zero, List.set_cons_succ])
  | ((with_reducible refine to_store 35 rfl ?_); refine Wl_store hS (fun _ => by rfl) _ _ _ rfl rfl (rsiI.trans rfl) (si_one _) ?_; (repeat (first | refine Turn.here rfl ?_ | refine Turn.next ?_)); clear hS; intro wW hS; try simp only [Act.put, List.setIfInBounds_toArray, List.set_cons_zero, List.set_cons_succ])
  | ((with_reducible refine to_store 32 rfl ?_); refine Wl_store hS (fun _ => by rfl) _ _ _ rfl rfl (rcnI.trans rfl) (cn_one _) ?_; (repeat (first | refine Turn.here rfl ?_ | refine Turn.next ?_)); clear hS; intro wW hS; try simp only [Act.put, List.setIfInBounds_toArray, List.set_cons_zero, List.set_cons_succ])
  | ((with_reducible first | refine to_load 3 rfl ?_ | refine to_load 4 rfl ?_ | refine to_load 5 rfl ?_); refine Wl_load1 hS (fun _ => by rfl) _ _ rfl (scT _ rfl) ?_; (repeat (first | refine Look.here (of_decide_eq_true rfl) rfl ?_ | refine Look.next ?_)); (with_reducible show wpList _ _ _ _ _ _); simp only [Act.put, List.setIfInBounds_toArray, List.set_cons_zero, List.set_cons_succ])
  | ((with_reducible first | refine to_store 3 rfl ?_ | refine to_store 4 rfl ?_ | refine to_store 5 rfl ?_); (first | refine Wl_store1 hS (fun _ => by rfl) _ _ (.int _ _) rfl rfl (scT _ rfl) rfl rfl ?_ | refine Wl_store1 hS (fun _ => by rfl) _ _ (.bool _) rfl rfl (scT _ rfl) rfl rfl ?_); (repeat (first | refine Turn1.here (of_decide_eq_true rfl) (of_decide_eq_true rfl) ?_ | refine Turn1.next ?_)); clear hS; intro wW hS; (try simp only [Act.put, List.setIfInBounds_toArray, List.set_cons_zero, List.set_cons_succ]); try simp only [Nat.sub_zero, Nat.reduceSub, cn_ss] at hS))
          refine (HI.out _).mono ?_
          rintro e w1 ⟨rfl, hb⟩
          replace hS := hS.call hb
          clear hb
          go_wp2_with (first
  | ((with_reducible refine to_boxT 35 rfl ?_); refine Wl_box hS (fun _ => by rfl) _ rfl ?_; clear hS; intro b3 wW hS; simp only [Act.put, List.setIfInBounds_toArray, List.set_cons_zero, List.set_cons_succ]; replace hS := hS.split17)
  | ((with_reducible refine to_boxT 32 rfl ?_); refine Wl_box hS (fun _ => by rfl) _ rfl ?_; clear hS; intro b1 wW hS; simp only [Act.put, List.setIfInBounds_toArray, List.set_cons_zero, List.set_cons_succ])
  | ((with_reducible refine to_alloc 35 rfl ?_); refine Wl_alloc hS (fun _ => by rfl) _ rsiZ ?_; clear hS; intro b6 wW hS; simp only [Act.put, List.setIfInBounds_toArray, List.set_cons_zero, List.set_cons_succ])
  | ((with_reducible refine to_alloc 32 rfl ?_); refine Wl_alloc hS (fun _ => by rfl) _ rcnZ ?_; clear hS; intro b7 wW hS; simp only [Act.put, List.setIfInBounds_toArray, List.set_cons_zero, List.set_cons_succ])
  | ((with_reducible refine to_load 35 rfl ?_); refine Wl_load2 hS (fun _ => by rfl) _ rfl _ Try.underlying35 rfl rsiI ?_; (repeat (first | (refine Row2.here ?_) | refine Row2.next ?_)); (with_reducible show wpList _ _ _ _ _ _); simp only [Act.put, List.setIfInBounds_toArray, List.set_cons_zero, List.set_cons_succ])
  | ((with_reducible refine to_load 32 rfl ?_); refine Wl_load hS (fun _ => by rfl) _ _ rfl _ Try.underlying32 rfl ?_; (repeat (first | (refine Row.here ⟨rcnI.trans rfl, ?_⟩) | refine Row.next ?_)); (with_reducible show wpList _ _ _ _ _ _); simp only [Act.put, List.setIfInBounds_toArray, List.set_cons_zero, List.set_cons_succ])
  | ((with_reducible refine to_store 35 rfl ?_); refine Wl_store hS (fun _ => by rfl) _ _ _ rfl rfl (rsiI.trans rfl) (si_one _) ?_; (repeat (first | refine Turn.here rfl ?_ | refine Turn.next ?_)); clear hS; intro wW hS; try simp only [Act.put, List.setIfInBounds_toArray, List.set_cons_zero, List.set_cons_succ])
  | ((with_reducible refine to_store 32 rfl ?_); refine Wl_store hS (fun _ => by rfl) _ _ _ rfl rfl (rcnI.trans rfl) (cn_one _) ?_; (repeat (first | refine Turn.here rfl ?_ | refine Turn.next ?_)); clear hS; intro wW hS; try simp only [Act.put, List.setIfInBounds_toArray, List.set_cons_zero, List.set_cons_succ])
  | ((with_reducible first | refine to_load 3 rfl ?_ | refine to_load 4 rfl ?_ | refine to_load 5 rfl ?_); refine Wl_load1 hS (fun _ => by rfl) _ _ rfl (scT _ rfl) ?_; (repeat (first | refine Look.here (of_decide_eq_true rfl) rfl ?_ | refine Look.next ?_)); (with_reducible show wpList _ _ _ _ _ _); simp only [Act.put, List.setIfInBounds_toArray, List.set_cons_zero, List.set_cons_succ])
  | ((with_reducible first | refine to_store 3 rfl ?_ | refine to_store 4 rfl ?_ | refine to_store 5 rfl ?_); (first | refine Wl_store1 hS (fun _ => by rfl) _ _ (.int _ _) rfl rfl (scT _ rfl) rfl rfl ?_ | refine Wl_store1 hS (fun _ => by rfl) _ _ (.bool _) rfl rfl (scT _ rfl) rfl rfl ?_); (repeat (first | refine Turn1.here (of_decide_eq_true rfl) (of_decide_eq_true rfl) ?_ | refine Turn1.next ?_)); clear hS; intro wW hS; (try simp only [Act.put, List.setIfInBounds_toArray, List.set_cons_zero, List.set_cons_succ]); try simp only [Nat.sub_zero, Nat.reduceSub, cn_ss] at hS))
          refine (HJ.out _).mono ?_
          rintro e w1 ⟨rfl, hb⟩
          replace hS := hS.call hb
          clear hb
          go_wp2_with (first
  | ((with_reducible refine to_boxT 35 rfl ?_); refine Wl_box hS (fun _ => by rfl) _ rfl ?_; clear hS; intro b3 wW hS; simp only [Act.put, List.setIfInBounds_toArray, List.set_cons_zero, List.set_cons_succ]; replace hS := hS.split17)
  | ((with_reducible refine to_boxT 32 rfl ?_); refine Wl_box hS (fun _ => by rfl) _ rfl ?_; clear hS; intro b1 wW hS; simp only [Act.put, List.setIfInBounds_toArray, List.set_cons_zero, List.set_cons_succ])
  | ((with_reducible refine to_alloc 35 rfl ?_); refine Wl_alloc hS (fun _ => by rfl) _ rsiZ ?_; clear hS; intro b6 wW hS; simp only [Act.put, List.setIfInBounds_toArray, List.set_cons_zero, List.set_cons_succ])
  | ((with_reducible refine to_alloc 32 rfl ?_); refine Wl_alloc hS (fun _ => by rfl) _ rcnZ ?_; clear hS; intro b7 wW hS; simp only [Act.put, List.setIfInBounds_toArray, List.set_cons_zero, List.set_cons_succ])
  | ((with_reducible refine to_load 35 rfl ?_); refine Wl_load2 hS (fun _ => by rfl) _ rfl _ Try.underlying35 rfl rsiI ?_; (repeat (first | (refine Row2.here ?_) | refine Row2.next ?_)); (with_reducible show wpList _ _ _ _ _ _); simp only [Act.put, List.setIfInBounds_toArray, List.set_cons_zero, List.set_cons_succ])
  | ((with_reducible refine to_load 32 rfl ?_); refine Wl_load hS (fun _ => by rfl) _ _ rfl _ Try.underlying32 rfl ?_; (repeat (first | (refine Row.here ⟨rcnI.trans rfl, ?_⟩) | refine Row.next ?_)); (with_reducible show wpList _ _ _ _ _ _); simp only [Act.put, List.setIfInBounds_toArray, List.set_cons_zero, List.set_cons_succ])
  | ((with_reducible refine to_store 35 rfl ?_); refine Wl_store hS (fun _ => by rfl) _ _ _ rfl rfl (rsiI.trans rfl) (si_one _) ?_; (repeat (first | refine Turn.here rfl ?_ | refine Turn.next ?_)); clear hS; intro wW hS; try simp only [Act.put, List.setIfInBounds_toArray, List.set_cons_zero, List.set_cons_succ])
  | ((with_reducible refine to_store 32 rfl ?_); refine Wl_store hS (fun _ => by rfl) _ _ _ rfl rfl (rcnI.trans rfl) (cn_one _) ?_; (repeat (first | refine Turn.here rfl ?_ | refine Turn.next ?_)); clear hS; intro wW hS; try simp only [Act.put, List.setIfInBounds_toArray, List.set_cons_zero, List.set_cons_succ])
  | ((with_reducible first | refine to_load 3 rfl ?_ | refine to_load 4 rfl ?_ | refine to_load 5 rfl ?_); refine Wl_load1 hS (fun _ => by rfl) _ _ rfl (scT _ rfl) ?_; (repeat (first | refine Look.here (of_decide_eq_true rfl) rfl ?_ | refine Look.next ?_)); (with_reducible show wpList _ _ _ _ _ _); simp only [Act.put, List.setIfInBounds_toArray, List.set_cons_zero, List.set_cons_succ])
  | ((with_reducible first | refine to_store 3 rfl ?_ | refine to_store 4 rfl ?_ | refine to_store 5 rfl ?_); (first | refine Wl_store1 hS (fun _ => by rfl) _ _ (.int _ _) rfl rfl (scT _ rfl) rfl rfl ?_ | refine Wl_store1 hS (fun _ => by rfl) _ _ (.bool _) rfl rfl (scT _ rfl) rfl rfl ?_); (repeat (first | refine Turn1.here (of_decide_eq_true rfl) (of_decide_eq_true rfl) ?_ | refine Turn1.next ?_)); clear hS; intro wW hS; (try simp only [Act.put, List.setIfInBounds_toArray, List.set_cons_zero, List.set_cons_succ]); try simp only [Nat.sub_zero, Nat.reduceSub, cn_ss] at hS))
          refine wp_region_held_drew (S := fun W => St w.heap.size 0 0 w [⟨b7, 0, true, (M.Cn.mk x0 x1 x2 x3 x4 x5 x6 x7 pt f0 f1 f2 n over tx false true).a⟩, ⟨b3, 0, true, (c0).a⟩, ⟨b3, 17, true, (M.Cn.mk x0 x1 x2 x3 x4 x5 x6 x7 pt f0 f1 f2 n over tx false true).a⟩] W) (by kernel_rfl) (hS.drew.sub (by repeat (first | exact List.Sublist.slnil | apply List.Sublist.cons_cons | apply List.Sublist.cons))) ?_
          intro _
          replace hS := hS.drew
          generalize World.drew _ = wX at hS ⊢
          refine wpAnyH_take (i := 0) rfl (by kernel_rfl) (by kernel_rfl) (by kernel_rfl) (fun _ _ _ h => h) (yields_row2 (by rfl) _ _ rfl _ rfl _ Try.underlying35 rfl rsiI _ _ _ _ _ _ _ _ _ (fun W hW => hW) (.tail _ (.head _)) (.tail _ (.tail _ (.head _)))) (hS.sub (by repeat (first | exact List.Sublist.slnil | apply List.Sublist.cons_cons | apply List.Sublist.cons))) ?_
          try simp only [Act.put, List.setIfInBounds_toArray, List.set_cons_zero, List.set_cons_succ, List.getElem_toArray, List.getElem_cons_succ, List.getElem_cons_zero]
          refine wpAnyH_take (i := 1) (v := ?_) rfl (by kernel_rfl) (by kernel_rfl) (by kernel_rfl) (fun _ _ _ h => h) (Or.inl ⟨by rfl, ?_⟩) (hS.sub (by repeat (first | exact List.Sublist.slnil | apply List.Sublist.cons_cons | apply List.Sublist.cons))) ?_
          rotate_left 1
          · intro W hW
            clear hW
            go_simp
            all_goals with_reducible rfl
          try simp only [Act.put, List.setIfInBounds_toArray, List.set_cons_zero, List.set_cons_succ, List.getElem_toArray, List.getElem_cons_succ, List.getElem_cons_zero]
          refine wpAnyH_take (i := 2) rfl (by kernel_rfl) (by kernel_rfl) (by kernel_rfl) (fun _ _ _ h => h) (yields_one (by rfl) _ _ rfl _ _ rfl sc5 _ (fun W hW => St.cellq hW (.head _) (of_decide_eq_true rfl) rfl)) (hS.sub (by repeat (first | exact List.Sublist.slnil | apply List.Sublist.cons_cons | apply List.Sublist.cons))) ?_
          try simp only [Act.put, List.setIfInBounds_toArray, List.set_cons_zero, List.set_cons_succ, List.getElem_toArray, List.getElem_cons_succ, List.getElem_cons_zero]
          refine wpAnyH_ready (rs := [3]) (by kernel_rfl) (by simp) (AllReadyH.cons rfl ?_ AllReadyH.nil)
          intro K1 hK1
          rw [if_pos (by rfl)]
          try simp only [Act.put, List.setIfInBounds_toArray, List.set_cons_zero, List.set_cons_succ, List.getElem_toArray, List.getElem_cons_succ, List.getElem_cons_zero]
          refine wp_store_st hS _ _ _ rfl _ _ _ rfl rfl (rsiI.trans rfl) (si_one _) ?_
          repeat (first | refine Turn.here rfl ?_ | refine Turn.next ?_)
          clear hS
          intro wW hS
          refine hK1.out _ _ (hS.sub (by repeat (first | exact List.Sublist.slnil | apply List.Sublist.cons_cons | apply List.Sublist.cons))) (fun _ => ?_)
          clear hK1
          try simp only [Act.put, List.setIfInBounds_toArray, List.set_cons_zero, List.set_cons_succ, List.getElem_toArray, List.getElem_cons_succ, List.getElem_cons_zero]
          refine wpAnyH_take (i := 4) (v := ?_) rfl (by kernel_rfl) (by kernel_rfl) (by kernel_rfl) (fun _ _ _ h => h) (Or.inl ⟨by rfl, ?_⟩) (hS.sub (by repeat (first | exact List.Sublist.slnil | apply List.Sublist.cons_cons | apply List.Sublist.cons))) ?_
          rotate_left 1
          · intro W hW
            clear hW
            go_simp
            all_goals with_reducible rfl
          try simp only [Act.put, List.setIfInBounds_toArray, List.set_cons_zero, List.set_cons_succ, List.getElem_toArray, List.getElem_cons_succ, List.getElem_cons_zero]
          refine wpAnyH_take (i := 5) (v := ?_) rfl (by kernel_rfl) (by kernel_rfl) (by kernel_rfl) (fun _ _ _ h => h) (Or.inl ⟨by rfl, ?_⟩) (hS.sub (by repeat (first | exact List.Sublist.slnil | apply List.Sublist.cons_cons | apply List.Sublist.cons))) ?_
          rotate_left 1
          · intro W hW
            clear hW
            go_simp
            all_goals with_reducible rfl
          try simp only [Act.put, List.setIfInBounds_toArray, List.set_cons_zero, List.set_cons_succ, List.getElem_toArray, List.getElem_cons_succ, List.getElem_cons_zero]
          refine wpAnyH_done (by kernel_rfl) ?_ _
          go_wp2_with fail
          refine ret_tt_st hS rfl _ _ rfl _ _ rfl rfl rfl _ Try.underlying35 rfl ?_
          repeat (first | (refine Row.here ⟨rsiI.trans rfl, ?_⟩) | refine Row.next ?_)
          exact ⟨rfl, hS.below⟩
end Go.Proofs.Ytlpoldnidojgmaa
