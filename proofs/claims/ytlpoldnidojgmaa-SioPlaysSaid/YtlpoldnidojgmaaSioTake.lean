/- (*sio.Channel).take, blank, each by its contract. -/
import Derived.Test.YtlpoldnidojgmaaSioBase
import Derived.Laws.StructEq
import Derived.ChangeKeysEq
namespace Go.Proofs.Ytlpoldnidojgmaa
open Go.RowKit
set_option linter.unusedVariables false
set_option linter.unusedSimpArgs false
set_option maxRecDepth 100000
set_option maxHeartbeats 8000000 in
theorem take_any (k : Nat) (hk : k < 2) (B : Nat) (x : M.Cn) (hn0 : 0 ≤ x.n) (hn3 : x.n ≤ 3) (w : World) (hr : w.rangeAt B (17 * k) x.a.toList) (hf : Free w B (17 * k) 17) (hB : B < w.heap.size) :
    Calls Try.prog 37 #[.pointer (some ⟨B, 17 * k, none⟩)] w fun e w' => e = .returned (.int .u8 (M.sTakeV x)) ∧ w'.rangeAt B (17 * k) (M.sTake x).a.toList ∧ Touch B (17 * k) 17 w w' := by
  have hS : St B (17 * k) 17 w [⟨B, 17 * k, true, x.a⟩] w := St.handed hr hf hB
  clear hr hf hB
  obtain ⟨w0, w1, w2, w3, w4, w5, w6, w7, pt, f0, f1, f2, n, over, tx, full, gone⟩ := x
  simp only at hn0 hn3
  unfold M.sTake M.sTakeV
  rw [cn_mk] at hS
  simp only
  by_cases n0 : n = 0
  · subst n0
    rcases (show k = 0 ∨ k = 1 by omega) with rfl | rfl
    all_goals
      go_enter Try.func37, Try.ntmps37
      go_wp2_with (first
  | ((with_reducible refine to_load 3 rfl ?_); refine Wl_load1 hS (fun _ => by rfl) _ _ rfl sc3 ?_; (repeat (first | refine Look.here (of_decide_eq_true rfl) rfl ?_ | refine Look.next ?_)); (with_reducible show wpList _ _ _ _ _ _); simp only [Act.put, List.setIfInBounds_toArray, List.set_cons_zero, List.set_cons_succ])
  | ((with_reducible refine to_load 5 rfl ?_); refine Wl_load1 hS (fun _ => by rfl) _ _ rfl sc5 ?_; (repeat (first | refine Look.here (of_decide_eq_true rfl) rfl ?_ | refine Look.next ?_)); (with_reducible show wpList _ _ _ _ _ _); simp only [Act.put, List.setIfInBounds_toArray, List.set_cons_zero, List.set_cons_succ])
  | ((with_reducible refine to_store 3 rfl ?_); refine Wl_store1 hS (fun _ => by rfl) _ _ (.int _ _) rfl rfl sc3 rfl rfl ?_; (repeat (first | refine Turn1.here (of_decide_eq_true rfl) (of_decide_eq_true rfl) ?_ | refine Turn1.next ?_)); clear hS; intro wW hS; (try simp only [Act.put, List.setIfInBounds_toArray, List.set_cons_zero, List.set_cons_succ]); try simp only [Nat.sub_zero, Nat.reduceSub, List.setIfInBounds_toArray, List.set_cons_zero, List.set_cons_succ] at hS)
  | ((with_reducible refine to_store 5 rfl ?_); refine Wl_store1 hS (fun _ => by rfl) _ _ (.int _ _) rfl rfl sc5 rfl rfl ?_; (repeat (first | refine Turn1.here (of_decide_eq_true rfl) (of_decide_eq_true rfl) ?_ | refine Turn1.next ?_)); clear hS; intro wW hS; (try simp only [Act.put, List.setIfInBounds_toArray, List.set_cons_zero, List.set_cons_succ]); try simp only [Nat.sub_zero, Nat.reduceSub, List.setIfInBounds_toArray, List.set_cons_zero, List.set_cons_succ] at hS))
      go_returns
      exact ⟨rfl, hS.done rfl⟩
  · rcases (show k = 0 ∨ k = 1 by omega) with rfl | rfl
    · have d0 : (n == 0) = false := by simpa using n0
      rw [if_neg n0, if_neg n0]
      go_enter Try.func37, Try.ntmps37
      go_wp2_with (first
  | ((with_reducible refine to_load 3 rfl ?_); refine Wl_load1 hS (fun _ => by rfl) _ _ rfl sc3 ?_; (repeat (first | refine Look.here (of_decide_eq_true rfl) rfl ?_ | refine Look.next ?_)); (with_reducible show wpList _ _ _ _ _ _); simp only [Act.put, List.setIfInBounds_toArray, List.set_cons_zero, List.set_cons_succ])
  | ((with_reducible refine to_load 5 rfl ?_); refine Wl_load1 hS (fun _ => by rfl) _ _ rfl sc5 ?_; (repeat (first | refine Look.here (of_decide_eq_true rfl) rfl ?_ | refine Look.next ?_)); (with_reducible show wpList _ _ _ _ _ _); simp only [Act.put, List.setIfInBounds_toArray, List.set_cons_zero, List.set_cons_succ])
  | ((with_reducible refine to_store 3 rfl ?_); refine Wl_store1 hS (fun _ => by rfl) _ _ (.int _ _) rfl rfl sc3 rfl rfl ?_; (repeat (first | refine Turn1.here (of_decide_eq_true rfl) (of_decide_eq_true rfl) ?_ | refine Turn1.next ?_)); clear hS; intro wW hS; (try simp only [Act.put, List.setIfInBounds_toArray, List.set_cons_zero, List.set_cons_succ]); try simp only [Nat.sub_zero, Nat.reduceSub, List.setIfInBounds_toArray, List.set_cons_zero, List.set_cons_succ] at hS)
  | ((with_reducible refine to_store 5 rfl ?_); refine Wl_store1 hS (fun _ => by rfl) _ _ (.int _ _) rfl rfl sc5 rfl rfl ?_; (repeat (first | refine Turn1.here (of_decide_eq_true rfl) (of_decide_eq_true rfl) ?_ | refine Turn1.next ?_)); clear hS; intro wW hS; (try simp only [Act.put, List.setIfInBounds_toArray, List.set_cons_zero, List.set_cons_succ]); try simp only [Nat.sub_zero, Nat.reduceSub, List.setIfInBounds_toArray, List.set_cons_zero, List.set_cons_succ] at hS))
      refine wp_region_held_drew (S := fun W => St B (17 * 0) 17 w [] W) (by kernel_rfl) (hS.drew.sub (by repeat (first | exact List.Sublist.slnil | apply List.Sublist.cons_cons | apply List.Sublist.cons))) ?_
      intro _
      replace hS := hS.drew
      generalize World.drew _ = wX at hS ⊢
      refine wpAnyH_take (i := 0) (v := ?_) rfl (by kernel_rfl) (by kernel_rfl) (by kernel_rfl) (fun _ _ _ h => h) (Or.inl ⟨by rfl, ?_⟩) (hS.sub (by repeat (first | exact List.Sublist.slnil | apply List.Sublist.cons_cons | apply List.Sublist.cons))) ?_
      rotate_left 1
      · intro W hW
        clear hW
        go_simp
        all_goals with_reducible rfl
      try simp only [Act.put, List.setIfInBounds_toArray, List.set_cons_zero, List.set_cons_succ, List.getElem_toArray, List.getElem_cons_succ, List.getElem_cons_zero]
      refine wpAnyH_take (i := 1) (v := ?_) rfl (by kernel_rfl) (by kernel_rfl) (by kernel_rfl) (fun _ _ _ h => h) (Or.inl ⟨by rfl, ?_⟩) (hS.sub (by repeat (first | exact List.Sublist.slnil | apply List.Sublist.cons_cons | apply List.Sublist.cons))) ?_
      rotate_left 1
      · intro W hW
        clear hW
        go_simp
        all_goals with_reducible rfl
      try simp only [Act.put, List.setIfInBounds_toArray, List.set_cons_zero, List.set_cons_succ, List.getElem_toArray, List.getElem_cons_succ, List.getElem_cons_zero]
      refine wpAnyH_take (i := 2) (v := ?_) rfl (by kernel_rfl) (by kernel_rfl) (by kernel_rfl) (fun _ _ _ h => h) (Or.inl ⟨by rfl, ?_⟩) (hS.sub (by repeat (first | exact List.Sublist.slnil | apply List.Sublist.cons_cons | apply List.Sublist.cons))) ?_
      rotate_left 1
      · intro W hW
        clear hW
        go_simp
        all_goals with_reducible rfl
      try simp only [Act.put, List.setIfInBounds_toArray, List.set_cons_zero, List.set_cons_succ, List.getElem_toArray, List.getElem_cons_succ, List.getElem_cons_zero]
      refine wpAnyH_take (i := 3) (v := ?_) rfl (by kernel_rfl) (by kernel_rfl) (by kernel_rfl) (fun _ _ _ h => h) (Or.inl ⟨by rfl, ?_⟩) (hS.sub (by repeat (first | exact List.Sublist.slnil | apply List.Sublist.cons_cons | apply List.Sublist.cons))) ?_
      rotate_left 1
      · intro W hW
        clear hW
        go_simp
        all_goals with_reducible rfl
      try simp only [Act.put, List.setIfInBounds_toArray, List.set_cons_zero, List.set_cons_succ, List.getElem_toArray, List.getElem_cons_succ, List.getElem_cons_zero]
      refine wpAnyH_take (i := 4) (v := ?_) rfl (by kernel_rfl) (by kernel_rfl) (by kernel_rfl) (fun _ _ _ h => h) (Or.inl ⟨by rfl, ?_⟩) (hS.sub (by repeat (first | exact List.Sublist.slnil | apply List.Sublist.cons_cons | apply List.Sublist.cons))) ?_
      rotate_left 1
      · intro W hW
        clear hW
        go_simp
        all_goals with_reducible rfl
      try simp only [Act.put, List.setIfInBounds_toArray, List.set_cons_zero, List.set_cons_succ, List.getElem_toArray, List.getElem_cons_succ, List.getElem_cons_zero]
      refine wpAnyH_take (i := 5) (v := ?_) rfl (by kernel_rfl) (by kernel_rfl) (by kernel_rfl) (fun _ _ _ h => h) (Or.inl ⟨by rfl, ?_⟩) (hS.sub (by repeat (first | exact List.Sublist.slnil | apply List.Sublist.cons_cons | apply List.Sublist.cons))) ?_
      rotate_left 1
      · intro W hW
        clear hW
        go_simp
        all_goals with_reducible rfl
      try simp only [Act.put, List.setIfInBounds_toArray, List.set_cons_zero, List.set_cons_succ, List.getElem_toArray, List.getElem_cons_succ, List.getElem_cons_zero]
      refine wpAnyH_take (i := 6) (v := ?_) rfl (by kernel_rfl) (by kernel_rfl) (by kernel_rfl) (fun _ _ _ h => h) (Or.inl ⟨by rfl, ?_⟩) (hS.sub (by repeat (first | exact List.Sublist.slnil | apply List.Sublist.cons_cons | apply List.Sublist.cons))) ?_
      rotate_left 1
      · intro W hW
        clear hW
        go_simp
        all_goals with_reducible rfl
      try simp only [Act.put, List.setIfInBounds_toArray, List.set_cons_zero, List.set_cons_succ, List.getElem_toArray, List.getElem_cons_succ, List.getElem_cons_zero]
      refine wpAnyH_take (i := 7) (v := ?_) rfl (by kernel_rfl) (by kernel_rfl) (by kernel_rfl) (fun _ _ _ h => h) (Or.inl ⟨by rfl, ?_⟩) (hS.sub (by repeat (first | exact List.Sublist.slnil | apply List.Sublist.cons_cons | apply List.Sublist.cons))) ?_
      rotate_left 1
      · intro W hW
        clear hW
        go_simp
        all_goals with_reducible rfl
      try simp only [Act.put, List.setIfInBounds_toArray, List.set_cons_zero, List.set_cons_succ, List.getElem_toArray, List.getElem_cons_succ, List.getElem_cons_zero]
      refine wpAnyH_ready (rs := [8]) (by kernel_rfl) (by simp) (AllReadyH.cons rfl ?_ AllReadyH.nil)
      intro K1 hK1
      rw [if_pos (by rfl)]
      try simp only [Act.put, List.setIfInBounds_toArray, List.set_cons_zero, List.set_cons_succ, List.getElem_toArray, List.getElem_cons_succ, List.getElem_cons_zero]
      refine wp_copy_st hS (.tmp 17) (.tmp 21) 52 52 5 rfl Try.underlying52 sc5.2 _ _ _ _ _ _ _ rfl rfl #[.int .u8 f1, .int .u8 f2] #[.int .u8 w0, .int .u8 w1, .int .u8 w2, .int .u8 w3, .int .u8 w4, .int .u8 w5, .int .u8 w6, .int .u8 w7, .int .i64 pt, .int .u8 f1, .int .u8 f2, .int .u8 f2, .int .i64 n, .bool over, .int .u8 tx, .bool full, .bool gone] rfl (by simp [Value.oneCell']) ?_
      refine Sub.here (of_decide_eq_true rfl) rfl ?_
      refine SubTurn.here (of_decide_eq_true rfl) (of_decide_eq_true rfl) rfl ?_
      clear hS
      intro wW hS
      refine hK1.out _ _ (hS.sub (by repeat (first | exact List.Sublist.slnil | apply List.Sublist.cons_cons | apply List.Sublist.cons))) (fun _ => ?_)
      clear hK1
      try simp only [Act.put, List.setIfInBounds_toArray, List.set_cons_zero, List.set_cons_succ, List.getElem_toArray, List.getElem_cons_succ, List.getElem_cons_zero]
      refine wpAnyH_done (by kernel_rfl) ?_ _
      go_wp2_with (first
  | ((with_reducible refine to_load 3 rfl ?_); refine Wl_load1 hS (fun _ => by rfl) _ _ rfl sc3 ?_; (repeat (first | refine Look.here (of_decide_eq_true rfl) rfl ?_ | refine Look.next ?_)); (with_reducible show wpList _ _ _ _ _ _); simp only [Act.put, List.setIfInBounds_toArray, List.set_cons_zero, List.set_cons_succ])
  | ((with_reducible refine to_load 5 rfl ?_); refine Wl_load1 hS (fun _ => by rfl) _ _ rfl sc5 ?_; (repeat (first | refine Look.here (of_decide_eq_true rfl) rfl ?_ | refine Look.next ?_)); (with_reducible show wpList _ _ _ _ _ _); simp only [Act.put, List.setIfInBounds_toArray, List.set_cons_zero, List.set_cons_succ])
  | ((with_reducible refine to_store 3 rfl ?_); refine Wl_store1 hS (fun _ => by rfl) _ _ (.int _ _) rfl rfl sc3 rfl rfl ?_; (repeat (first | refine Turn1.here (of_decide_eq_true rfl) (of_decide_eq_true rfl) ?_ | refine Turn1.next ?_)); clear hS; intro wW hS; (try simp only [Act.put, List.setIfInBounds_toArray, List.set_cons_zero, List.set_cons_succ]); try simp only [Nat.sub_zero, Nat.reduceSub, List.setIfInBounds_toArray, List.set_cons_zero, List.set_cons_succ] at hS)
  | ((with_reducible refine to_store 5 rfl ?_); refine Wl_store1 hS (fun _ => by rfl) _ _ (.int _ _) rfl rfl sc5 rfl rfl ?_; (repeat (first | refine Turn1.here (of_decide_eq_true rfl) (of_decide_eq_true rfl) ?_ | refine Turn1.next ?_)); clear hS; intro wW hS; (try simp only [Act.put, List.setIfInBounds_toArray, List.set_cons_zero, List.set_cons_succ]); try simp only [Nat.sub_zero, Nat.reduceSub, List.setIfInBounds_toArray, List.set_cons_zero, List.set_cons_succ] at hS))
      go_returns
      exact ⟨rfl, hS.done rfl⟩
    · have d0 : (n == 0) = false := by simpa using n0
      rw [if_neg n0, if_neg n0]
      go_enter Try.func37, Try.ntmps37
      go_wp2_with (first
  | ((with_reducible refine to_load 3 rfl ?_); refine Wl_load1 hS (fun _ => by rfl) _ _ rfl sc3 ?_; (repeat (first | refine Look.here (of_decide_eq_true rfl) rfl ?_ | refine Look.next ?_)); (with_reducible show wpList _ _ _ _ _ _); simp only [Act.put, List.setIfInBounds_toArray, List.set_cons_zero, List.set_cons_succ])
  | ((with_reducible refine to_load 5 rfl ?_); refine Wl_load1 hS (fun _ => by rfl) _ _ rfl sc5 ?_; (repeat (first | refine Look.here (of_decide_eq_true rfl) rfl ?_ | refine Look.next ?_)); (with_reducible show wpList _ _ _ _ _ _); simp only [Act.put, List.setIfInBounds_toArray, List.set_cons_zero, List.set_cons_succ])
  | ((with_reducible refine to_store 3 rfl ?_); refine Wl_store1 hS (fun _ => by rfl) _ _ (.int _ _) rfl rfl sc3 rfl rfl ?_; (repeat (first | refine Turn1.here (of_decide_eq_true rfl) (of_decide_eq_true rfl) ?_ | refine Turn1.next ?_)); clear hS; intro wW hS; (try simp only [Act.put, List.setIfInBounds_toArray, List.set_cons_zero, List.set_cons_succ]); try simp only [Nat.sub_zero, Nat.reduceSub, List.setIfInBounds_toArray, List.set_cons_zero, List.set_cons_succ] at hS)
  | ((with_reducible refine to_store 5 rfl ?_); refine Wl_store1 hS (fun _ => by rfl) _ _ (.int _ _) rfl rfl sc5 rfl rfl ?_; (repeat (first | refine Turn1.here (of_decide_eq_true rfl) (of_decide_eq_true rfl) ?_ | refine Turn1.next ?_)); clear hS; intro wW hS; (try simp only [Act.put, List.setIfInBounds_toArray, List.set_cons_zero, List.set_cons_succ]); try simp only [Nat.sub_zero, Nat.reduceSub, List.setIfInBounds_toArray, List.set_cons_zero, List.set_cons_succ] at hS))
      refine wp_region_held_drew (S := fun W => St B (17 * 1) 17 w [] W) (by kernel_rfl) (hS.drew.sub (by repeat (first | exact List.Sublist.slnil | apply List.Sublist.cons_cons | apply List.Sublist.cons))) ?_
      intro _
      replace hS := hS.drew
      generalize World.drew _ = wX at hS ⊢
      refine wpAnyH_take (i := 0) (v := ?_) rfl (by kernel_rfl) (by kernel_rfl) (by kernel_rfl) (fun _ _ _ h => h) (Or.inl ⟨by rfl, ?_⟩) (hS.sub (by repeat (first | exact List.Sublist.slnil | apply List.Sublist.cons_cons | apply List.Sublist.cons))) ?_
      rotate_left 1
      · intro W hW
        clear hW
        go_simp
        all_goals with_reducible rfl
      try simp only [Act.put, List.setIfInBounds_toArray, List.set_cons_zero, List.set_cons_succ, List.getElem_toArray, List.getElem_cons_succ, List.getElem_cons_zero]
      refine wpAnyH_take (i := 1) (v := ?_) rfl (by kernel_rfl) (by kernel_rfl) (by kernel_rfl) (fun _ _ _ h => h) (Or.inl ⟨by rfl, ?_⟩) (hS.sub (by repeat (first | exact List.Sublist.slnil | apply List.Sublist.cons_cons | apply List.Sublist.cons))) ?_
      rotate_left 1
      · intro W hW
        clear hW
        go_simp
        all_goals with_reducible rfl
      try simp only [Act.put, List.setIfInBounds_toArray, List.set_cons_zero, List.set_cons_succ, List.getElem_toArray, List.getElem_cons_succ, List.getElem_cons_zero]
      refine wpAnyH_take (i := 2) (v := ?_) rfl (by kernel_rfl) (by kernel_rfl) (by kernel_rfl) (fun _ _ _ h => h) (Or.inl ⟨by rfl, ?_⟩) (hS.sub (by repeat (first | exact List.Sublist.slnil | apply List.Sublist.cons_cons | apply List.Sublist.cons))) ?_
      rotate_left 1
      · intro W hW
        clear hW
        go_simp
        all_goals with_reducible rfl
      try simp only [Act.put, List.setIfInBounds_toArray, List.set_cons_zero, List.set_cons_succ, List.getElem_toArray, List.getElem_cons_succ, List.getElem_cons_zero]
      refine wpAnyH_take (i := 3) (v := ?_) rfl (by kernel_rfl) (by kernel_rfl) (by kernel_rfl) (fun _ _ _ h => h) (Or.inl ⟨by rfl, ?_⟩) (hS.sub (by repeat (first | exact List.Sublist.slnil | apply List.Sublist.cons_cons | apply List.Sublist.cons))) ?_
      rotate_left 1
      · intro W hW
        clear hW
        go_simp
        all_goals with_reducible rfl
      try simp only [Act.put, List.setIfInBounds_toArray, List.set_cons_zero, List.set_cons_succ, List.getElem_toArray, List.getElem_cons_succ, List.getElem_cons_zero]
      refine wpAnyH_take (i := 4) (v := ?_) rfl (by kernel_rfl) (by kernel_rfl) (by kernel_rfl) (fun _ _ _ h => h) (Or.inl ⟨by rfl, ?_⟩) (hS.sub (by repeat (first | exact List.Sublist.slnil | apply List.Sublist.cons_cons | apply List.Sublist.cons))) ?_
      rotate_left 1
      · intro W hW
        clear hW
        go_simp
        all_goals with_reducible rfl
      try simp only [Act.put, List.setIfInBounds_toArray, List.set_cons_zero, List.set_cons_succ, List.getElem_toArray, List.getElem_cons_succ, List.getElem_cons_zero]
      refine wpAnyH_take (i := 5) (v := ?_) rfl (by kernel_rfl) (by kernel_rfl) (by kernel_rfl) (fun _ _ _ h => h) (Or.inl ⟨by rfl, ?_⟩) (hS.sub (by repeat (first | exact List.Sublist.slnil | apply List.Sublist.cons_cons | apply List.Sublist.cons))) ?_
      rotate_left 1
      · intro W hW
        clear hW
        go_simp
        all_goals with_reducible rfl
      try simp only [Act.put, List.setIfInBounds_toArray, List.set_cons_zero, List.set_cons_succ, List.getElem_toArray, List.getElem_cons_succ, List.getElem_cons_zero]
      refine wpAnyH_take (i := 6) (v := ?_) rfl (by kernel_rfl) (by kernel_rfl) (by kernel_rfl) (fun _ _ _ h => h) (Or.inl ⟨by rfl, ?_⟩) (hS.sub (by repeat (first | exact List.Sublist.slnil | apply List.Sublist.cons_cons | apply List.Sublist.cons))) ?_
      rotate_left 1
      · intro W hW
        clear hW
        go_simp
        all_goals with_reducible rfl
      try simp only [Act.put, List.setIfInBounds_toArray, List.set_cons_zero, List.set_cons_succ, List.getElem_toArray, List.getElem_cons_succ, List.getElem_cons_zero]
      refine wpAnyH_take (i := 7) (v := ?_) rfl (by kernel_rfl) (by kernel_rfl) (by kernel_rfl) (fun _ _ _ h => h) (Or.inl ⟨by rfl, ?_⟩) (hS.sub (by repeat (first | exact List.Sublist.slnil | apply List.Sublist.cons_cons | apply List.Sublist.cons))) ?_
      rotate_left 1
      · intro W hW
        clear hW
        go_simp
        all_goals with_reducible rfl
      try simp only [Act.put, List.setIfInBounds_toArray, List.set_cons_zero, List.set_cons_succ, List.getElem_toArray, List.getElem_cons_succ, List.getElem_cons_zero]
      refine wpAnyH_ready (rs := [8]) (by kernel_rfl) (by simp) (AllReadyH.cons rfl ?_ AllReadyH.nil)
      intro K1 hK1
      rw [if_pos (by rfl)]
      try simp only [Act.put, List.setIfInBounds_toArray, List.set_cons_zero, List.set_cons_succ, List.getElem_toArray, List.getElem_cons_succ, List.getElem_cons_zero]
      refine wp_copy_st hS (.tmp 17) (.tmp 21) 52 52 5 rfl Try.underlying52 sc5.2 _ _ _ _ _ _ _ rfl rfl #[.int .u8 f1, .int .u8 f2] #[.int .u8 w0, .int .u8 w1, .int .u8 w2, .int .u8 w3, .int .u8 w4, .int .u8 w5, .int .u8 w6, .int .u8 w7, .int .i64 pt, .int .u8 f1, .int .u8 f2, .int .u8 f2, .int .i64 n, .bool over, .int .u8 tx, .bool full, .bool gone] rfl (by simp [Value.oneCell']) ?_
      refine Sub.here (of_decide_eq_true rfl) rfl ?_
      refine SubTurn.here (of_decide_eq_true rfl) (of_decide_eq_true rfl) rfl ?_
      clear hS
      intro wW hS
      refine hK1.out _ _ (hS.sub (by repeat (first | exact List.Sublist.slnil | apply List.Sublist.cons_cons | apply List.Sublist.cons))) (fun _ => ?_)
      clear hK1
      try simp only [Act.put, List.setIfInBounds_toArray, List.set_cons_zero, List.set_cons_succ, List.getElem_toArray, List.getElem_cons_succ, List.getElem_cons_zero]
      refine wpAnyH_done (by kernel_rfl) ?_ _
      go_wp2_with (first
  | ((with_reducible refine to_load 3 rfl ?_); refine Wl_load1 hS (fun _ => by rfl) _ _ rfl sc3 ?_; (repeat (first | refine Look.here (of_decide_eq_true rfl) rfl ?_ | refine Look.next ?_)); (with_reducible show wpList _ _ _ _ _ _); simp only [Act.put, List.setIfInBounds_toArray, List.set_cons_zero, List.set_cons_succ])
  | ((with_reducible refine to_load 5 rfl ?_); refine Wl_load1 hS (fun _ => by rfl) _ _ rfl sc5 ?_; (repeat (first | refine Look.here (of_decide_eq_true rfl) rfl ?_ | refine Look.next ?_)); (with_reducible show wpList _ _ _ _ _ _); simp only [Act.put, List.setIfInBounds_toArray, List.set_cons_zero, List.set_cons_succ])
  | ((with_reducible refine to_store 3 rfl ?_); refine Wl_store1 hS (fun _ => by rfl) _ _ (.int _ _) rfl rfl sc3 rfl rfl ?_; (repeat (first | refine Turn1.here (of_decide_eq_true rfl) (of_decide_eq_true rfl) ?_ | refine Turn1.next ?_)); clear hS; intro wW hS; (try simp only [Act.put, List.setIfInBounds_toArray, List.set_cons_zero, List.set_cons_succ]); try simp only [Nat.sub_zero, Nat.reduceSub, List.setIfInBounds_toArray, List.set_cons_zero, List.set_cons_succ] at hS)
  | ((with_reducible refine to_store 5 rfl ?_); refine Wl_store1 hS (fun _ => by rfl) _ _ (.int _ _) rfl rfl sc5 rfl rfl ?_; (repeat (first | refine Turn1.here (of_decide_eq_true rfl) (of_decide_eq_true rfl) ?_ | refine Turn1.next ?_)); clear hS; intro wW hS; (try simp only [Act.put, List.setIfInBounds_toArray, List.set_cons_zero, List.set_cons_succ]); try simp only [Nat.sub_zero, Nat.reduceSub, List.setIfInBounds_toArray, List.set_cons_zero, List.set_cons_succ] at hS))
      go_returns
      exact ⟨rfl, hS.done rfl⟩
def M.zAll (l : List Int) : Bool := l.all fun x => x == 0
theorem eqItems_u8 (d : Nat) (xs ys : Array Value) (w : World) (f : Nat → Int) : ∀ (l : List Nat), (∀ i, i ∈ l → xs[i]? = some (.int .u8 (f i)) ∧ ys[i]? = some (.int .u8 0)) →
    (Op.eqItems (d + 1) 5 1 xs ys l).run Try.prog w = .ok (l.all fun i => f i == 0) w := by
  have ha : (isAgg 5).run Try.prog w = .ok false w := by
    have h2 := run_underlying Try.underlying5 w
    simp [isAgg, Sem.run_bind, h2]
  have hb := fun a b : Int => run_equalIn_int (w := w) d 5 .u8 .u8 a b Try.underlying5
  intro l
  induction l with
  | nil => intro _; simp [Op.eqItems]
  | cons i l ih =>
    intro h
    obtain ⟨hx, hy⟩ := h i (.head _)
    have hr := ih (fun j hj => h j (.tail _ hj))
    simp only [Op.eqItems, Sem.run_bind, part, ha, Nat.mul_one, hx, hy, hb, Result.andThen_ok, Bool.false_eq_true, if_false, Sem.run_pure, List.all_cons]
    cases hc : (f i == 0)
    · simp
    · simpa using hr
theorem eql_zeros (t n : Nat) (vs : List Int) (hn : vs.length = n) (hu : Try.prog.underlying t = some (.array n 5)) (w : World) :
    (binOp .eql t (.agg (vs.map (Value.int .u8)).toArray) (.agg (Array.replicate n (Value.int .u8 0)))).run Try.prog w = .ok (.bool (M.zAll vs)) w := by
  have hi : ∃ i, Try.prog.info? 5 = some i := by
    have h1 : (Try.prog.info? 5).map (·.size) = some 1 := by kernel_rfl
    cases hq : Try.prog.info? 5 with
    | none => simp [hq] at h1
    | some i => exact ⟨i, rfl⟩
  obtain ⟨i, hi⟩ := hi
  have hcl : Try.prog.cellsOf 5 = 1 := by kernel_rfl
  rw [run_eql_struct, show (10000 : Nat) = 9998 + 1 + 1 from rfl, run_equalIn_array w _ _ _ hu hi, hcl, eqItems_u8 9998 _ _ w (fun i => vs.getD i 0) (List.range n) (fun i hi => by
    have hi' := List.mem_range.1 hi
    constructor
    · simp [hn, hi', List.getD_eq_getElem?_getD]
    · simp [hi'])]
  have : ((List.range n).all fun i => vs.getD i 0 == 0) = M.zAll vs := by
    unfold M.zAll
    subst hn
    rw [Bool.eq_iff_iff]
    simp only [List.all_eq_true, List.mem_range]
    constructor
    · intro h x hx
      obtain ⟨i, hi, rfl⟩ := List.getElem_of_mem hx
      have := h i hi
      rwa [List.getD_eq_getElem?_getD, List.getElem?_eq_getElem hi] at this
    · intro h i hi
      rw [List.getD_eq_getElem?_getD, List.getElem?_eq_getElem hi]
      exact h _ (List.getElem_mem hi)
  rw [this]
  rfl
def M.blankB (x : M.Cn) : Bool := M.zAll [x.w0, x.w1, x.w2, x.w3, x.w4, x.w5, x.w6, x.w7] && M.zAll [x.f0, x.f1, x.f2]
theorem M.blank_w3 {x : M.Cn} (h : M.blankB x = true) : x.w3 = 0 := by
  simp [M.blankB, M.zAll] at h
  omega
set_option maxHeartbeats 4000000 in
theorem blank_any (k : Nat) (hk : k < 2) (B : Nat) (x : M.Cn) (w : World) (hr : w.rangeAt B (17 * k) x.a.toList) (hf : Free w B (17 * k) 17) (hB : B < w.heap.size) :
    Calls Try.prog 45 #[.pointer (some ⟨B, 17 * k, none⟩)] w fun e w' => e = .returned (.bool (M.blankB x)) ∧ w = w' := by
  have hS : St B (17 * k) 17 w [⟨B, 17 * k, true, x.a⟩] w := St.handed hr hf hB
  clear hr hf hB
  obtain ⟨w0, w1, w2, w3, w4, w5, w6, w7, pt, f0, f1, f2, n, over, tx, full, gone⟩ := x
  have q8 := fun W => eql_zeros 22 8 [w0, w1, w2, w3, w4, w5, w6, w7] rfl Try.underlying22 W
  have q3 := fun W => eql_zeros 23 3 [f0, f1, f2] rfl Try.underlying23 W
  unfold M.blankB
  simp only
  generalize M.zAll [w0, w1, w2, w3, w4, w5, w6, w7] = b8 at q8 ⊢
  generalize M.zAll [f0, f1, f2] = b3 at q3 ⊢
  change ∀ W, (binOp .eql 22 (.agg #[.int .u8 w0, .int .u8 w1, .int .u8 w2, .int .u8 w3, .int .u8 w4, .int .u8 w5, .int .u8 w6, .int .u8 w7]) (.agg #[.int .u8 0, .int .u8 0, .int .u8 0, .int .u8 0, .int .u8 0, .int .u8 0, .int .u8 0, .int .u8 0])).run Try.prog W = _ at q8
  change ∀ W, (binOp .eql 23 (.agg #[.int .u8 f0, .int .u8 f1, .int .u8 f2]) (.agg #[.int .u8 0, .int .u8 0, .int .u8 0])).run Try.prog W = _ at q3
  rw [cn_mk] at hS
  have i8 : (Try.prog.info? 22).map (·.size) = some 8 := by kernel_rfl
  have i3 : (Try.prog.info? 23).map (·.size) = some 3 := by kernel_rfl
  rcases (show k = 0 ∨ k = 1 by omega) with rfl | rfl <;> cases b8
  all_goals
    go_enter Try.func45, Try.ntmps45
    go_wp2_with (first
      | ((with_reducible refine to_load 22 rfl ?_); refine Wl_load_sub hS (fun _ => by rfl) _ _ rfl _ Try.underlying22 rfl #[.int .u8 w0, .int .u8 w1, .int .u8 w2, .int .u8 w3, .int .u8 w4, .int .u8 w5, .int .u8 w6, .int .u8 w7] (i8.trans rfl) ?_; (repeat (first | (refine Sub.here (of_decide_eq_true rfl) rfl ?_) | refine Sub.next ?_)); (with_reducible show wpList _ _ _ _ _ _); simp only [Act.put, List.setIfInBounds_toArray, List.set_cons_zero, List.set_cons_succ])
      | ((with_reducible refine to_load 23 rfl ?_); refine Wl_load_sub hS (fun _ => by rfl) _ _ rfl _ Try.underlying23 rfl #[.int .u8 f0, .int .u8 f1, .int .u8 f2] (i3.trans rfl) ?_; (repeat (first | (refine Sub.here (of_decide_eq_true rfl) rfl ?_) | refine Sub.next ?_)); (with_reducible show wpList _ _ _ _ _ _); simp only [Act.put, List.setIfInBounds_toArray, List.set_cons_zero, List.set_cons_succ]))
    go_returns
    exact ⟨rfl, rfl⟩
end Go.Proofs.Ytlpoldnidojgmaa
