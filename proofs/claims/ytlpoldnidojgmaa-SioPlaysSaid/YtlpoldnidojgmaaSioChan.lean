/- (*sio.Sio).channel, (*sio.Channel).command, take, each by its contract. -/
import Derived.Test.YtlpoldnidojgmaaSioBase
namespace Go.Proofs.Ytlpoldnidojgmaa
open Go.RowKit
set_option linter.unusedVariables false
set_option linter.unusedSimpArgs false
set_option maxRecDepth 100000
set_option maxHeartbeats 16000000 in
theorem channel_in (k : Nat) (hk : k < 2) (reg : Int) (hreg : reg = 2 * k ∨ reg = 2 * k + 1) (B : Nat) (x : M.Cn) (w : World) (hr : w.rangeAt B (17 * k) x.a.toList) (hf : Free w B (17 * k) 17) (hB : B < w.heap.size) :
    Calls Try.prog 36 #[.pointer (some ⟨B, 0, none⟩), .int .i64 reg] w fun e w' => e = .returned (.pointer (some ⟨B, 17 * k, none⟩)) ∧ w'.rangeAt B (17 * k) (M.right x).a.toList ∧ Touch B (17 * k) 17 w w' := by
  have hS : St B (17 * k) 17 w [⟨B, 17 * k, true, x.a⟩] w := St.handed hr hf hB
  clear hr hf hB
  obtain ⟨w0, w1, w2, w3, w4, w5, w6, w7, pt, f0, f1, f2, n, over, tx, full, gone⟩ := x
  have hp : (decide (pt < 0) = true ∧ M.fix pt 7 = 0) ∨ (decide (pt < 0) = false ∧ decide (8 ≤ pt) = false ∧ M.fix pt 7 = pt) ∨ (decide (pt < 0) = false ∧ decide (8 ≤ pt) = true ∧ M.fix pt 7 = 0) := by
    by_cases h1 : pt < 0
    · exact .inl ⟨decide_eq_true h1, M.fix_lo h1⟩
    · by_cases h2 : 7 < pt
      · exact .inr (.inr ⟨decide_eq_false h1, decide_eq_true (by omega), M.fix_hi h2⟩)
      · exact .inr (.inl ⟨decide_eq_false h1, decide_eq_false (by omega), M.fix_in (by omega) (by omega)⟩)
  have hn : (decide (n < 0) = true ∧ M.fix n 3 = 0) ∨ (decide (n < 0) = false ∧ decide (3 < n) = false ∧ M.fix n 3 = n) ∨ (decide (n < 0) = false ∧ decide (3 < n) = true ∧ M.fix n 3 = 0) := by
    by_cases h1 : n < 0
    · exact .inl ⟨decide_eq_true h1, M.fix_lo h1⟩
    · by_cases h2 : 3 < n
      · exact .inr (.inr ⟨decide_eq_false h1, decide_eq_true h2, M.fix_hi h2⟩)
      · exact .inr (.inl ⟨decide_eq_false h1, decide_eq_false h2, M.fix_in (by omega) (by omega)⟩)
  unfold M.right
  simp only
  rw [cn_mk] at hS ⊢
  rcases (show k = 0 ∨ k = 1 by omega) with rfl | rfl <;> rcases hreg with rfl | rfl <;> rcases hp with ⟨p1, p3⟩ | ⟨p1, p2, p3⟩ | ⟨p1, p2, p3⟩ <;> rcases hn with ⟨n1, n3⟩ | ⟨n1, n2, n3⟩ | ⟨n1, n2, n3⟩
  all_goals
    rw [p3, n3]
    clear p3 n3
    go_enter Try.func36, Try.ntmps36
    go_wp2_with (first
  | ((with_reducible refine to_load 3 rfl ?_); refine Wl_load1 hS (fun _ => by rfl) _ _ rfl sc3 ?_; (repeat (first | refine Look.here (of_decide_eq_true rfl) rfl ?_ | refine Look.next ?_)); (with_reducible show wpList _ _ _ _ _ _); simp only [Act.put, List.setIfInBounds_toArray, List.set_cons_zero, List.set_cons_succ])
  | ((with_reducible refine to_load 4 rfl ?_); refine Wl_load1 hS (fun _ => by rfl) _ _ rfl sc4 ?_; (repeat (first | refine Look.here (of_decide_eq_true rfl) rfl ?_ | refine Look.next ?_)); (with_reducible show wpList _ _ _ _ _ _); simp only [Act.put, List.setIfInBounds_toArray, List.set_cons_zero, List.set_cons_succ])
  | ((with_reducible refine to_load 5 rfl ?_); refine Wl_load1 hS (fun _ => by rfl) _ _ rfl sc5 ?_; (repeat (first | refine Look.here (of_decide_eq_true rfl) rfl ?_ | refine Look.next ?_)); (with_reducible show wpList _ _ _ _ _ _); simp only [Act.put, List.setIfInBounds_toArray, List.set_cons_zero, List.set_cons_succ])
  | ((with_reducible refine to_store 3 rfl ?_); refine Wl_store1 hS (fun _ => by rfl) _ _ (.int _ _) rfl rfl sc3 rfl rfl ?_; (repeat (first | refine Turn1.here (of_decide_eq_true rfl) (of_decide_eq_true rfl) ?_ | refine Turn1.next ?_)); clear hS; intro wW hS; (try simp only [Act.put, List.setIfInBounds_toArray, List.set_cons_zero, List.set_cons_succ]); try simp only [Nat.sub_zero, Nat.reduceSub, List.setIfInBounds_toArray, List.set_cons_zero, List.set_cons_succ] at hS)
  | ((with_reducible refine to_store 5 rfl ?_); refine Wl_store1 hS (fun _ => by rfl) _ _ (.int _ _) rfl rfl sc5 rfl rfl ?_; (repeat (first | refine Turn1.here (of_decide_eq_true rfl) (of_decide_eq_true rfl) ?_ | refine Turn1.next ?_)); clear hS; intro wW hS; (try simp only [Act.put, List.setIfInBounds_toArray, List.set_cons_zero, List.set_cons_succ]); try simp only [Nat.sub_zero, Nat.reduceSub, List.setIfInBounds_toArray, List.set_cons_zero, List.set_cons_succ] at hS)
  | ((with_reducible refine to_store 4 rfl ?_); refine Wl_store1 hS (fun _ => by rfl) _ _ (.bool _) rfl rfl sc4 rfl rfl ?_; (repeat (first | refine Turn1.here (of_decide_eq_true rfl) (of_decide_eq_true rfl) ?_ | refine Turn1.next ?_)); clear hS; intro wW hS; (try simp only [Act.put, List.setIfInBounds_toArray, List.set_cons_zero, List.set_cons_succ]); try simp only [Nat.sub_zero, Nat.reduceSub, List.setIfInBounds_toArray, List.set_cons_zero, List.set_cons_succ] at hS))
    go_returns
    exact ⟨rfl, hS.done rfl⟩
theorem channel_out (reg : Int) (hreg : reg < 0 ∨ 3 < reg) (B : Nat) (w : World) :
    Calls Try.prog 36 #[.pointer (some ⟨B, 0, none⟩), .int .i64 reg] w fun e w' => e = .returned (.pointer none) ∧ w = w' := by
  rcases hreg with h | h
  · go_enter Try.func36, Try.ntmps36
    go_wp2_with fail
    go_returns
    exact ⟨rfl, rfl⟩
  · have h2 : decide (reg < 0) = false := decide_eq_false (by omega)
    have h3 : decide (4 ≤ reg) = true := decide_eq_true (by omega)
    go_enter Try.func36, Try.ntmps36
    go_wp2_with fail
    go_returns
    exact ⟨rfl, rfl⟩
theorem cmd_tab : ∀ n : Fin 256, bits .and .u8 (n.val : Int) 7 = (n.val : Int) % 8 ∧ bits .and .u8 ((n.val : Int) / 8) 7 = (n.val : Int) / 8 % 8 := by decide +kernel
set_option maxHeartbeats 8000000 in
theorem command_any (k : Nat) (hk : k < 2) (B : Nat) (x : M.Cn) (b : Int) (h0 : 0 ≤ b) (h1 : b ≤ 255) (w : World) (hr : w.rangeAt B (17 * k) x.a.toList) (hf : Free w B (17 * k) 17) (hB : B < w.heap.size) :
    Calls Try.prog 41 #[.pointer (some ⟨B, 17 * k, none⟩), .int .u8 b] w fun e w' => e = .returned (.tuple #[]) ∧ w'.rangeAt B (17 * k) (M.sCmd x b).a.toList ∧ Touch B (17 * k) 17 w w' := by
  have hS : St B (17 * k) 17 w [⟨B, 17 * k, true, x.a⟩] w := St.handed hr hf hB
  clear hr hf hB
  obtain ⟨e7, e8⟩ : bits .and .u8 b 7 = b % 8 ∧ bits .and .u8 (b / 8) 7 = b / 8 % 8 := by
    obtain ⟨x, rfl⟩ := M.fin_of h0 h1
    exact cmd_tab x
  obtain ⟨w0, w1, w2, w3, w4, w5, w6, w7, pt, f0, f1, f2, n, over, tx, full, gone⟩ := x
  unfold M.sCmd
  rw [cn_mk] at hS
  rcases (show k = 0 ∨ k = 1 by omega) with rfl | rfl <;> by_cases c3 : b / 8 % 8 = 3
  · rw [if_pos c3]
    go_enter Try.func41, Try.ntmps41
    go_wp2_with (first | ((with_reducible refine to_store 25 rfl ?_); refine Wl_store hS (fun _ => by rfl) _ _ _ rfl rfl (cnI.trans rfl) (cn_one M.cn0) ?_; (repeat (first | refine Turn.here rfl ?_ | refine Turn.next ?_)); clear hS; intro wW hS; try simp only [Act.put, List.setIfInBounds_toArray, List.set_cons_zero, List.set_cons_succ]) | first
  | ((with_reducible refine to_load 3 rfl ?_); refine Wl_load1 hS (fun _ => by rfl) _ _ rfl sc3 ?_; (repeat (first | refine Look.here (of_decide_eq_true rfl) rfl ?_ | refine Look.next ?_)); (with_reducible show wpList _ _ _ _ _ _); simp only [Act.put, List.setIfInBounds_toArray, List.set_cons_zero, List.set_cons_succ])
  | ((with_reducible refine to_load 4 rfl ?_); refine Wl_load1 hS (fun _ => by rfl) _ _ rfl sc4 ?_; (repeat (first | refine Look.here (of_decide_eq_true rfl) rfl ?_ | refine Look.next ?_)); (with_reducible show wpList _ _ _ _ _ _); simp only [Act.put, List.setIfInBounds_toArray, List.set_cons_zero, List.set_cons_succ])
  | ((with_reducible refine to_load 5 rfl ?_); refine Wl_load1 hS (fun _ => by rfl) _ _ rfl sc5 ?_; (repeat (first | refine Look.here (of_decide_eq_true rfl) rfl ?_ | refine Look.next ?_)); (with_reducible show wpList _ _ _ _ _ _); simp only [Act.put, List.setIfInBounds_toArray, List.set_cons_zero, List.set_cons_succ])
  | ((with_reducible refine to_store 3 rfl ?_); refine Wl_store1 hS (fun _ => by rfl) _ _ (.int _ _) rfl rfl sc3 rfl rfl ?_; (repeat (first | refine Turn1.here (of_decide_eq_true rfl) (of_decide_eq_true rfl) ?_ | refine Turn1.next ?_)); clear hS; intro wW hS; (try simp only [Act.put, List.setIfInBounds_toArray, List.set_cons_zero, List.set_cons_succ]); try simp only [Nat.sub_zero, Nat.reduceSub, List.setIfInBounds_toArray, List.set_cons_zero, List.set_cons_succ] at hS)
  | ((with_reducible refine to_store 5 rfl ?_); refine Wl_store1 hS (fun _ => by rfl) _ _ (.int _ _) rfl rfl sc5 rfl rfl ?_; (repeat (first | refine Turn1.here (of_decide_eq_true rfl) (of_decide_eq_true rfl) ?_ | refine Turn1.next ?_)); clear hS; intro wW hS; (try simp only [Act.put, List.setIfInBounds_toArray, List.set_cons_zero, List.set_cons_succ]); try simp only [Nat.sub_zero, Nat.reduceSub, List.setIfInBounds_toArray, List.set_cons_zero, List.set_cons_succ] at hS)
  | ((with_reducible refine to_store 4 rfl ?_); refine Wl_store1 hS (fun _ => by rfl) _ _ (.bool _) rfl rfl sc4 rfl rfl ?_; (repeat (first | refine Turn1.here (of_decide_eq_true rfl) (of_decide_eq_true rfl) ?_ | refine Turn1.next ?_)); clear hS; intro wW hS; (try simp only [Act.put, List.setIfInBounds_toArray, List.set_cons_zero, List.set_cons_succ]); try simp only [Nat.sub_zero, Nat.reduceSub, List.setIfInBounds_toArray, List.set_cons_zero, List.set_cons_succ] at hS))
    go_returns
    exact ⟨rfl, hS.done rfl⟩
  · rw [if_neg c3]
    by_cases c5 : b / 8 % 8 = 5
    · rw [if_pos c5]
      go_enter Try.func41, Try.ntmps41
      go_wp2_with (first
  | ((with_reducible refine to_load 3 rfl ?_); refine Wl_load1 hS (fun _ => by rfl) _ _ rfl sc3 ?_; (repeat (first | refine Look.here (of_decide_eq_true rfl) rfl ?_ | refine Look.next ?_)); (with_reducible show wpList _ _ _ _ _ _); simp only [Act.put, List.setIfInBounds_toArray, List.set_cons_zero, List.set_cons_succ])
  | ((with_reducible refine to_load 4 rfl ?_); refine Wl_load1 hS (fun _ => by rfl) _ _ rfl sc4 ?_; (repeat (first | refine Look.here (of_decide_eq_true rfl) rfl ?_ | refine Look.next ?_)); (with_reducible show wpList _ _ _ _ _ _); simp only [Act.put, List.setIfInBounds_toArray, List.set_cons_zero, List.set_cons_succ])
  | ((with_reducible refine to_load 5 rfl ?_); refine Wl_load1 hS (fun _ => by rfl) _ _ rfl sc5 ?_; (repeat (first | refine Look.here (of_decide_eq_true rfl) rfl ?_ | refine Look.next ?_)); (with_reducible show wpList _ _ _ _ _ _); simp only [Act.put, List.setIfInBounds_toArray, List.set_cons_zero, List.set_cons_succ])
  | ((with_reducible refine to_store 3 rfl ?_); refine Wl_store1 hS (fun _ => by rfl) _ _ (.int _ _) rfl rfl sc3 rfl rfl ?_; (repeat (first | refine Turn1.here (of_decide_eq_true rfl) (of_decide_eq_true rfl) ?_ | refine Turn1.next ?_)); clear hS; intro wW hS; (try simp only [Act.put, List.setIfInBounds_toArray, List.set_cons_zero, List.set_cons_succ]); try simp only [Nat.sub_zero, Nat.reduceSub, List.setIfInBounds_toArray, List.set_cons_zero, List.set_cons_succ] at hS)
  | ((with_reducible refine to_store 5 rfl ?_); refine Wl_store1 hS (fun _ => by rfl) _ _ (.int _ _) rfl rfl sc5 rfl rfl ?_; (repeat (first | refine Turn1.here (of_decide_eq_true rfl) (of_decide_eq_true rfl) ?_ | refine Turn1.next ?_)); clear hS; intro wW hS; (try simp only [Act.put, List.setIfInBounds_toArray, List.set_cons_zero, List.set_cons_succ]); try simp only [Nat.sub_zero, Nat.reduceSub, List.setIfInBounds_toArray, List.set_cons_zero, List.set_cons_succ] at hS)
  | ((with_reducible refine to_store 4 rfl ?_); refine Wl_store1 hS (fun _ => by rfl) _ _ (.bool _) rfl rfl sc4 rfl rfl ?_; (repeat (first | refine Turn1.here (of_decide_eq_true rfl) (of_decide_eq_true rfl) ?_ | refine Turn1.next ?_)); clear hS; intro wW hS; (try simp only [Act.put, List.setIfInBounds_toArray, List.set_cons_zero, List.set_cons_succ]); try simp only [Nat.sub_zero, Nat.reduceSub, List.setIfInBounds_toArray, List.set_cons_zero, List.set_cons_succ] at hS))
      go_returns
      exact ⟨rfl, hS.done rfl⟩
    · rw [if_neg c5]
      by_cases c6 : b / 8 % 8 = 6
      · rw [if_pos c6]
        go_enter Try.func41, Try.ntmps41
        go_wp2_with (first
  | ((with_reducible refine to_load 3 rfl ?_); refine Wl_load1 hS (fun _ => by rfl) _ _ rfl sc3 ?_; (repeat (first | refine Look.here (of_decide_eq_true rfl) rfl ?_ | refine Look.next ?_)); (with_reducible show wpList _ _ _ _ _ _); simp only [Act.put, List.setIfInBounds_toArray, List.set_cons_zero, List.set_cons_succ])
  | ((with_reducible refine to_load 4 rfl ?_); refine Wl_load1 hS (fun _ => by rfl) _ _ rfl sc4 ?_; (repeat (first | refine Look.here (of_decide_eq_true rfl) rfl ?_ | refine Look.next ?_)); (with_reducible show wpList _ _ _ _ _ _); simp only [Act.put, List.setIfInBounds_toArray, List.set_cons_zero, List.set_cons_succ])
  | ((with_reducible refine to_load 5 rfl ?_); refine Wl_load1 hS (fun _ => by rfl) _ _ rfl sc5 ?_; (repeat (first | refine Look.here (of_decide_eq_true rfl) rfl ?_ | refine Look.next ?_)); (with_reducible show wpList _ _ _ _ _ _); simp only [Act.put, List.setIfInBounds_toArray, List.set_cons_zero, List.set_cons_succ])
  | ((with_reducible refine to_store 3 rfl ?_); refine Wl_store1 hS (fun _ => by rfl) _ _ (.int _ _) rfl rfl sc3 rfl rfl ?_; (repeat (first | refine Turn1.here (of_decide_eq_true rfl) (of_decide_eq_true rfl) ?_ | refine Turn1.next ?_)); clear hS; intro wW hS; (try simp only [Act.put, List.setIfInBounds_toArray, List.set_cons_zero, List.set_cons_succ]); try simp only [Nat.sub_zero, Nat.reduceSub, List.setIfInBounds_toArray, List.set_cons_zero, List.set_cons_succ] at hS)
  | ((with_reducible refine to_store 5 rfl ?_); refine Wl_store1 hS (fun _ => by rfl) _ _ (.int _ _) rfl rfl sc5 rfl rfl ?_; (repeat (first | refine Turn1.here (of_decide_eq_true rfl) (of_decide_eq_true rfl) ?_ | refine Turn1.next ?_)); clear hS; intro wW hS; (try simp only [Act.put, List.setIfInBounds_toArray, List.set_cons_zero, List.set_cons_succ]); try simp only [Nat.sub_zero, Nat.reduceSub, List.setIfInBounds_toArray, List.set_cons_zero, List.set_cons_succ] at hS)
  | ((with_reducible refine to_store 4 rfl ?_); refine Wl_store1 hS (fun _ => by rfl) _ _ (.bool _) rfl rfl sc4 rfl rfl ?_; (repeat (first | refine Turn1.here (of_decide_eq_true rfl) (of_decide_eq_true rfl) ?_ | refine Turn1.next ?_)); clear hS; intro wW hS; (try simp only [Act.put, List.setIfInBounds_toArray, List.set_cons_zero, List.set_cons_succ]); try simp only [Nat.sub_zero, Nat.reduceSub, List.setIfInBounds_toArray, List.set_cons_zero, List.set_cons_succ] at hS))
        go_returns
        exact ⟨rfl, hS.done rfl⟩
      · rw [if_neg c6]
        have d3 : (b / 8 % 8 == 3) = false := by simpa using c3
        have d5 : (b / 8 % 8 == 5) = false := by simpa using c5
        have d6 : (b / 8 % 8 == 6) = false := by simpa using c6
        go_enter Try.func41, Try.ntmps41
        go_wp2_with (first
  | ((with_reducible refine to_load 3 rfl ?_); refine Wl_load1 hS (fun _ => by rfl) _ _ rfl sc3 ?_; (repeat (first | refine Look.here (of_decide_eq_true rfl) rfl ?_ | refine Look.next ?_)); (with_reducible show wpList _ _ _ _ _ _); simp only [Act.put, List.setIfInBounds_toArray, List.set_cons_zero, List.set_cons_succ])
  | ((with_reducible refine to_load 4 rfl ?_); refine Wl_load1 hS (fun _ => by rfl) _ _ rfl sc4 ?_; (repeat (first | refine Look.here (of_decide_eq_true rfl) rfl ?_ | refine Look.next ?_)); (with_reducible show wpList _ _ _ _ _ _); simp only [Act.put, List.setIfInBounds_toArray, List.set_cons_zero, List.set_cons_succ])
  | ((with_reducible refine to_load 5 rfl ?_); refine Wl_load1 hS (fun _ => by rfl) _ _ rfl sc5 ?_; (repeat (first | refine Look.here (of_decide_eq_true rfl) rfl ?_ | refine Look.next ?_)); (with_reducible show wpList _ _ _ _ _ _); simp only [Act.put, List.setIfInBounds_toArray, List.set_cons_zero, List.set_cons_succ])
  | ((with_reducible refine to_store 3 rfl ?_); refine Wl_store1 hS (fun _ => by rfl) _ _ (.int _ _) rfl rfl sc3 rfl rfl ?_; (repeat (first | refine Turn1.here (of_decide_eq_true rfl) (of_decide_eq_true rfl) ?_ | refine Turn1.next ?_)); clear hS; intro wW hS; (try simp only [Act.put, List.setIfInBounds_toArray, List.set_cons_zero, List.set_cons_succ]); try simp only [Nat.sub_zero, Nat.reduceSub, List.setIfInBounds_toArray, List.set_cons_zero, List.set_cons_succ] at hS)
  | ((with_reducible refine to_store 5 rfl ?_); refine Wl_store1 hS (fun _ => by rfl) _ _ (.int _ _) rfl rfl sc5 rfl rfl ?_; (repeat (first | refine Turn1.here (of_decide_eq_true rfl) (of_decide_eq_true rfl) ?_ | refine Turn1.next ?_)); clear hS; intro wW hS; (try simp only [Act.put, List.setIfInBounds_toArray, List.set_cons_zero, List.set_cons_succ]); try simp only [Nat.sub_zero, Nat.reduceSub, List.setIfInBounds_toArray, List.set_cons_zero, List.set_cons_succ] at hS)
  | ((with_reducible refine to_store 4 rfl ?_); refine Wl_store1 hS (fun _ => by rfl) _ _ (.bool _) rfl rfl sc4 rfl rfl ?_; (repeat (first | refine Turn1.here (of_decide_eq_true rfl) (of_decide_eq_true rfl) ?_ | refine Turn1.next ?_)); clear hS; intro wW hS; (try simp only [Act.put, List.setIfInBounds_toArray, List.set_cons_zero, List.set_cons_succ]); try simp only [Nat.sub_zero, Nat.reduceSub, List.setIfInBounds_toArray, List.set_cons_zero, List.set_cons_succ] at hS))
        go_returns
        exact ⟨rfl, hS.done rfl⟩
  · rw [if_pos c3]
    go_enter Try.func41, Try.ntmps41
    go_wp2_with (first | ((with_reducible refine to_store 25 rfl ?_); refine Wl_store hS (fun _ => by rfl) _ _ _ rfl rfl (cnI.trans rfl) (cn_one M.cn0) ?_; (repeat (first | refine Turn.here rfl ?_ | refine Turn.next ?_)); clear hS; intro wW hS; try simp only [Act.put, List.setIfInBounds_toArray, List.set_cons_zero, List.set_cons_succ]) | first
  | ((with_reducible refine to_load 3 rfl ?_); refine Wl_load1 hS (fun _ => by rfl) _ _ rfl sc3 ?_; (repeat (first | refine Look.here (of_decide_eq_true rfl) rfl ?_ | refine Look.next ?_)); (with_reducible show wpList _ _ _ _ _ _); simp only [Act.put, List.setIfInBounds_toArray, List.set_cons_zero, List.set_cons_succ])
  | ((with_reducible refine to_load 4 rfl ?_); refine Wl_load1 hS (fun _ => by rfl) _ _ rfl sc4 ?_; (repeat (first | refine Look.here (of_decide_eq_true rfl) rfl ?_ | refine Look.next ?_)); (with_reducible show wpList _ _ _ _ _ _); simp only [Act.put, List.setIfInBounds_toArray, List.set_cons_zero, List.set_cons_succ])
  | ((with_reducible refine to_load 5 rfl ?_); refine Wl_load1 hS (fun _ => by rfl) _ _ rfl sc5 ?_; (repeat (first | refine Look.here (of_decide_eq_true rfl) rfl ?_ | refine Look.next ?_)); (with_reducible show wpList _ _ _ _ _ _); simp only [Act.put, List.setIfInBounds_toArray, List.set_cons_zero, List.set_cons_succ])
  | ((with_reducible refine to_store 3 rfl ?_); refine Wl_store1 hS (fun _ => by rfl) _ _ (.int _ _) rfl rfl sc3 rfl rfl ?_; (repeat (first | refine Turn1.here (of_decide_eq_true rfl) (of_decide_eq_true rfl) ?_ | refine Turn1.next ?_)); clear hS; intro wW hS; (try simp only [Act.put, List.setIfInBounds_toArray, List.set_cons_zero, List.set_cons_succ]); try simp only [Nat.sub_zero, Nat.reduceSub, List.setIfInBounds_toArray, List.set_cons_zero, List.set_cons_succ] at hS)
  | ((with_reducible refine to_store 5 rfl ?_); refine Wl_store1 hS (fun _ => by rfl) _ _ (.int _ _) rfl rfl sc5 rfl rfl ?_; (repeat (first | refine Turn1.here (of_decide_eq_true rfl) (of_decide_eq_true rfl) ?_ | refine Turn1.next ?_)); clear hS; intro wW hS; (try simp only [Act.put, List.setIfInBounds_toArray, List.set_cons_zero, List.set_cons_succ]); try simp only [Nat.sub_zero, Nat.reduceSub, List.setIfInBounds_toArray, List.set_cons_zero, List.set_cons_succ] at hS)
  | ((with_reducible refine to_store 4 rfl ?_); refine Wl_store1 hS (fun _ => by rfl) _ _ (.bool _) rfl rfl sc4 rfl rfl ?_; (repeat (first | refine Turn1.here (of_decide_eq_true rfl) (of_decide_eq_true rfl) ?_ | refine Turn1.next ?_)); clear hS; intro wW hS; (try simp only [Act.put, List.setIfInBounds_toArray, List.set_cons_zero, List.set_cons_succ]); try simp only [Nat.sub_zero, Nat.reduceSub, List.setIfInBounds_toArray, List.set_cons_zero, List.set_cons_succ] at hS))
    go_returns
    exact ⟨rfl, hS.done rfl⟩
  · rw [if_neg c3]
    by_cases c5 : b / 8 % 8 = 5
    · rw [if_pos c5]
      go_enter Try.func41, Try.ntmps41
      go_wp2_with (first
  | ((with_reducible refine to_load 3 rfl ?_); refine Wl_load1 hS (fun _ => by rfl) _ _ rfl sc3 ?_; (repeat (first | refine Look.here (of_decide_eq_true rfl) rfl ?_ | refine Look.next ?_)); (with_reducible show wpList _ _ _ _ _ _); simp only [Act.put, List.setIfInBounds_toArray, List.set_cons_zero, List.set_cons_succ])
  | ((with_reducible refine to_load 4 rfl ?_); refine Wl_load1 hS (fun _ => by rfl) _ _ rfl sc4 ?_; (repeat (first | refine Look.here (of_decide_eq_true rfl) rfl ?_ | refine Look.next ?_)); (with_reducible show wpList _ _ _ _ _ _); simp only [Act.put, List.setIfInBounds_toArray, List.set_cons_zero, List.set_cons_succ])
  | ((with_reducible refine to_load 5 rfl ?_); refine Wl_load1 hS (fun _ => by rfl) _ _ rfl sc5 ?_; (repeat (first | refine Look.here (of_decide_eq_true rfl) rfl ?_ | refine Look.next ?_)); (with_reducible show wpList _ _ _ _ _ _); simp only [Act.put, List.setIfInBounds_toArray, List.set_cons_zero, List.set_cons_succ])
  | ((with_reducible refine to_store 3 rfl ?_); refine Wl_store1 hS (fun _ => by rfl) _ _ (.int _ _) rfl rfl sc3 rfl rfl ?_; (repeat (first | refine Turn1.here (of_decide_eq_true rfl) (of_decide_eq_true rfl) ?_ | refine Turn1.next ?_)); clear hS; intro wW hS; (try simp only [Act.put, List.setIfInBounds_toArray, List.set_cons_zero, List.set_cons_succ]); try simp only [Nat.sub_zero, Nat.reduceSub, List.setIfInBounds_toArray, List.set_cons_zero, List.set_cons_succ] at hS)
  | ((with_reducible refine to_store 5 rfl ?_); refine Wl_store1 hS (fun _ => by rfl) _ _ (.int _ _) rfl rfl sc5 rfl rfl ?_; (repeat (first | refine Turn1.here (of_decide_eq_true rfl) (of_decide_eq_true rfl) ?_ | refine Turn1.next ?_)); clear hS; intro wW hS; (try simp only [Act.put, List.setIfInBounds_toArray, List.set_cons_zero, List.set_cons_succ]); try simp only [Nat.sub_zero, Nat.reduceSub, List.setIfInBounds_toArray, List.set_cons_zero, List.set_cons_succ] at hS)
  | ((with_reducible refine to_store 4 rfl ?_); refine Wl_store1 hS (fun _ => by rfl) _ _ (.bool _) rfl rfl sc4 rfl rfl ?_; (repeat (first | refine Turn1.here (of_decide_eq_true rfl) (of_decide_eq_true rfl) ?_ | refine Turn1.next ?_)); clear hS; intro wW hS; (try simp only [Act.put, List.setIfInBounds_toArray, List.set_cons_zero, List.set_cons_succ]); try simp only [Nat.sub_zero, Nat.reduceSub, List.setIfInBounds_toArray, List.set_cons_zero, List.set_cons_succ] at hS))
      go_returns
      exact ⟨rfl, hS.done rfl⟩
    · rw [if_neg c5]
      by_cases c6 : b / 8 % 8 = 6
      · rw [if_pos c6]
        go_enter Try.func41, Try.ntmps41
        go_wp2_with (first
  | ((with_reducible refine to_load 3 rfl ?_); refine Wl_load1 hS (fun _ => by rfl) _ _ rfl sc3 ?_; (repeat (first | refine Look.here (of_decide_eq_true rfl) rfl ?_ | refine Look.next ?_)); (with_reducible show wpList _ _ _ _ _ _); simp only [Act.put, List.setIfInBounds_toArray, List.set_cons_zero, List.set_cons_succ])
  | ((with_reducible refine to_load 4 rfl ?_); refine Wl_load1 hS (fun _ => by rfl) _ _ rfl sc4 ?_; (repeat (first | refine Look.here (of_decide_eq_true rfl) rfl ?_ | refine Look.next ?_)); (with_reducible show wpList _ _ _ _ _ _); simp only [Act.put, List.setIfInBounds_toArray, List.set_cons_zero, List.set_cons_succ])
  | ((with_reducible refine to_load 5 rfl ?_); refine Wl_load1 hS (fun _ => by rfl) _ _ rfl sc5 ?_; (repeat (first | refine Look.here (of_decide_eq_true rfl) rfl ?_ | refine Look.next ?_)); (with_reducible show wpList _ _ _ _ _ _); simp only [Act.put, List.setIfInBounds_toArray, List.set_cons_zero, List.set_cons_succ])
  | ((with_reducible refine to_store 3 rfl ?_); refine Wl_store1 hS (fun _ => by rfl) _ _ (.int _ _) rfl rfl sc3 rfl rfl ?_; (repeat (first | refine Turn1.here (of_decide_eq_true rfl) (of_decide_eq_true rfl) ?_ | refine Turn1.next ?_)); clear hS; intro wW hS; (try simp only [Act.put, List.setIfInBounds_toArray, List.set_cons_zero, List.set_cons_succ]); try simp only [Nat.sub_zero, Nat.reduceSub, List.setIfInBounds_toArray, List.set_cons_zero, List.set_cons_succ] at hS)
  | ((with_reducible refine to_store 5 rfl ?_); refine Wl_store1 hS (fun _ => by rfl) _ _ (.int _ _) rfl rfl sc5 rfl rfl ?_; (repeat (first | refine Turn1.here (of_decide_eq_true rfl) (of_decide_eq_true rfl) ?_ | refine Turn1.next ?_)); clear hS; intro wW hS; (try simp only [Act.put, List.setIfInBounds_toArray, List.set_cons_zero, List.set_cons_succ]); try simp only [Nat.sub_zero, Nat.reduceSub, List.setIfInBounds_toArray, List.set_cons_zero, List.set_cons_succ] at hS)
  | ((with_reducible refine to_store 4 rfl ?_); refine Wl_store1 hS (fun _ => by rfl) _ _ (.bool _) rfl rfl sc4 rfl rfl ?_; (repeat (first | refine Turn1.here (of_decide_eq_true rfl) (of_decide_eq_true rfl) ?_ | refine Turn1.next ?_)); clear hS; intro wW hS; (try simp only [Act.put, List.setIfInBounds_toArray, List.set_cons_zero, List.set_cons_succ]); try simp only [Nat.sub_zero, Nat.reduceSub, List.setIfInBounds_toArray, List.set_cons_zero, List.set_cons_succ] at hS))
        go_returns
        exact ⟨rfl, hS.done rfl⟩
      · rw [if_neg c6]
        have d3 : (b / 8 % 8 == 3) = false := by simpa using c3
        have d5 : (b / 8 % 8 == 5) = false := by simpa using c5
        have d6 : (b / 8 % 8 == 6) = false := by simpa using c6
        go_enter Try.func41, Try.ntmps41
        go_wp2_with (first
  | ((with_reducible refine to_load 3 rfl ?_); refine Wl_load1 hS (fun _ => by rfl) _ _ rfl sc3 ?_; (repeat (first | refine Look.here (of_decide_eq_true rfl) rfl ?_ | refine Look.next ?_)); (with_reducible show wpList _ _ _ _ _ _); simp only [Act.put, List.setIfInBounds_toArray, List.set_cons_zero, List.set_cons_succ])
  | ((with_reducible refine to_load 4 rfl ?_); refine Wl_load1 hS (fun _ => by rfl) _ _ rfl sc4 ?_; (repeat (first | refine Look.here (of_decide_eq_true rfl) rfl ?_ | refine Look.next ?_)); (with_reducible show wpList _ _ _ _ _ _); simp only [Act.put, List.setIfInBounds_toArray, List.set_cons_zero, List.set_cons_succ])
  | ((with_reducible refine to_load 5 rfl ?_); refine Wl_load1 hS (fun _ => by rfl) _ _ rfl sc5 ?_; (repeat (first | refine Look.here (of_decide_eq_true rfl) rfl ?_ | refine Look.next ?_)); (with_reducible show wpList _ _ _ _ _ _); simp only [Act.put, List.setIfInBounds_toArray, List.set_cons_zero, List.set_cons_succ])
  | ((with_reducible refine to_store 3 rfl ?_); refine Wl_store1 hS (fun _ => by rfl) _ _ (.int _ _) rfl rfl sc3 rfl rfl ?_; (repeat (first | refine Turn1.here (of_decide_eq_true rfl) (of_decide_eq_true rfl) ?_ | refine Turn1.next ?_)); clear hS; intro wW hS; (try simp only [Act.put, List.setIfInBounds_toArray, List.set_cons_zero, List.set_cons_succ]); try simp only [Nat.sub_zero, Nat.reduceSub, List.setIfInBounds_toArray, List.set_cons_zero, List.set_cons_succ] at hS)
  | ((with_reducible refine to_store 5 rfl ?_); refine Wl_store1 hS (fun _ => by rfl) _ _ (.int _ _) rfl rfl sc5 rfl rfl ?_; (repeat (first | refine Turn1.here (of_decide_eq_true rfl) (of_decide_eq_true rfl) ?_ | refine Turn1.next ?_)); clear hS; intro wW hS; (try simp only [Act.put, List.setIfInBounds_toArray, List.set_cons_zero, List.set_cons_succ]); try simp only [Nat.sub_zero, Nat.reduceSub, List.setIfInBounds_toArray, List.set_cons_zero, List.set_cons_succ] at hS)
  | ((with_reducible refine to_store 4 rfl ?_); refine Wl_store1 hS (fun _ => by rfl) _ _ (.bool _) rfl rfl sc4 rfl rfl ?_; (repeat (first | refine Turn1.here (of_decide_eq_true rfl) (of_decide_eq_true rfl) ?_ | refine Turn1.next ?_)); clear hS; intro wW hS; (try simp only [Act.put, List.setIfInBounds_toArray, List.set_cons_zero, List.set_cons_succ]); try simp only [Nat.sub_zero, Nat.reduceSub, List.setIfInBounds_toArray, List.set_cons_zero, List.set_cons_succ] at hS))
        go_returns
        exact ⟨rfl, hS.done rfl⟩
end Go.Proofs.Ytlpoldnidojgmaa
