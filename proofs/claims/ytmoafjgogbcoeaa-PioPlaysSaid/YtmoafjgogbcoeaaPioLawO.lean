/- charabanclaw24.PioOnce is true at whatever ports, port and byte. -/
import Derived.Test.YtmoafjgogbcoeaaPioAwake
import Derived.Test.YtmoafjgogbcoeaaPioEq
namespace Go.Proofs.Ytmoafjgogbcoeaa
open Go.RowKit
set_option linter.unusedVariables false
set_option linter.unusedSimpArgs false
set_option maxRecDepth 100000
def M.clr (p : M.Pi2) : M.Pi2 := ⟨{ p.p0 with pend := false }, { p.p1 with pend := false }⟩
theorem M.soB_clr (x : M.Po) (b : Int) (u v : Bool) : M.soB { x with inn := b, was := u, pend := v } = M.soB { x with inn := b } := rfl
theorem M.clr_fix (p : M.Pi2) (k b : Int) : M.pLines (M.clr (M.pLines p k b)) k b = M.clr (M.pLines p k b) := by
  by_cases hk : k = 0 ∨ k = 1
  · rcases hk with rfl | rfl
    · obtain ⟨⟨mode, out, inn, dir, vec, mask, con, next, ready, was, pend⟩, y⟩ := p
      by_cases h3 : mode = 3
      · subst h3
        simp only [M.pLines, M.Pi2.at, M.Pi2.set, M.clr, M.lined, M.pLook, M.pSignal, Int.toNat_zero, true_or, and_self, if_true]
        have e : M.soB (M.Po.mk 3 out b dir vec mask con next ready was pend) = M.soB (M.Po.mk 3 out b dir vec mask con next ready false false) := rfl
        rw [e]
        cases hs : M.soB (M.Po.mk 3 out b dir vec mask con next ready false false) <;> cases was
        all_goals
          have e2 : ∀ u v, M.soB (M.Po.mk 3 out b dir vec mask con next ready u v) = M.soB (M.Po.mk 3 out b dir vec mask con next ready false false) := fun _ _ => rfl
          simp [e2, hs]
      · simp [M.pLines, M.Pi2.at, M.Pi2.set, M.clr, h3]
    · obtain ⟨y, ⟨mode, out, inn, dir, vec, mask, con, next, ready, was, pend⟩⟩ := p
      by_cases h3 : mode = 3
      · subst h3
        simp only [M.pLines, M.Pi2.at, M.Pi2.set, M.clr, M.lined, M.pLook, M.pSignal, show Int.toNat 1 = 1 from rfl, or_true, and_self, if_true]
        have e : M.soB (M.Po.mk 3 out b dir vec mask con next ready was pend) = M.soB (M.Po.mk 3 out b dir vec mask con next ready false false) := rfl
        rw [e]
        cases hs : M.soB (M.Po.mk 3 out b dir vec mask con next ready false false) <;> cases was
        all_goals
          have e2 : ∀ u v, M.soB (M.Po.mk 3 out b dir vec mask con next ready u v) = M.soB (M.Po.mk 3 out b dir vec mask con next ready false false) := fun _ _ => rfl
          simp [e2, hs]
      · simp [M.pLines, M.Pi2.at, M.Pi2.set, M.clr, h3]
  · have h1 : ∀ q, M.pLines q k b = q := fun q => by
      unfold M.pLines
      rw [if_neg (fun h => hk h.1)]
    rw [h1, h1]
theorem M.pLines_ok {p : M.Pi2} {k b : Int} (hp : p.ok) (h0 : 0 ≤ b) (h1 : b ≤ 255) : (M.pLines p k b).ok := by
  unfold M.pLines
  split
  · have hx := pi_at_ok hp k.toNat
    have set_ok : ∀ (x : M.Po) (n : Nat), x.ok → (p.set x n).ok := fun x n hx => by
      unfold M.Pi2.set
      split
      · exact ⟨hx, hp.2⟩
      · exact ⟨hp.1, hx⟩
    refine set_ok _ _ ?_
    have hl : (M.lined (p.at k.toNat) b).ok := ⟨hx.1, hx.2.1, ⟨h0, h1⟩, hx.2.2.2⟩
    split
    · exact hl
    · exact hl
  · exact hp
theorem M.clr_ok {p : M.Pi2} (hp : p.ok) : (M.clr p).ok := hp
theorem M.acks (p : M.Pi2) : (M.pPend p = -1 ∧ p = M.clr p) ∨ (0 ≤ M.pPend p ∧ M.pPend (M.pAck p) = -1 ∧ M.pAck p = M.clr p) ∨ (0 ≤ M.pPend p ∧ 0 ≤ M.pPend (M.pAck p) ∧ M.pPend (M.pAck (M.pAck p)) = -1 ∧ M.pAck (M.pAck p) = M.clr p) := by
  obtain ⟨⟨mode, out, inn, dir, vec, mask, con, next, ready, was, pend⟩, ⟨mode', out', inn', dir', vec', mask', con', next', ready', was', pend'⟩⟩ := p
  cases pend <;> cases pend' <;> simp [M.pPend, M.pAck, M.clr]
theorem M.clr_pend (p : M.Pi2) : M.pPend (M.clr p) = -1 := by simp [M.pPend, M.clr]
set_option maxHeartbeats 8000000 in
theorem ponce_true (p : M.Pi2) (hp : p.ok) (a b : Int) (h0 : 0 ≤ b) (h1 : b ≤ 255) (w : World) : Calls Try.prog 14 #[.agg p.a, .int .i64 a, .int .u8 b] w fun e w' => e = .returned (.bool true) ∧ Below w.heap.size w w' := by
  obtain ⟨k, hk⟩ : ∃ k, k = bits .and .i64 a 1 := ⟨_, rfl⟩
  have hK := Lib.hid hk
  have hok : (M.pLines p k b).ok := M.pLines_ok hp h0 h1
  have l1 := fun W => plines_any p hp k b h0 h1 W
  have l2 := fun W => plines_any (M.clr (M.pLines p k b)) (M.clr_ok hok) k b h0 h1 W
  rw [M.clr_fix, hk] at l2
  rw [hk] at l1
  have pr := fun W => ppend_any (M.clr (M.pLines p k b)) W
  rw [M.clr_pend] at pr
  have eq := fun W => eqlO (M.clr (M.pLines p k b)) W
  have hA := M.acks (M.pLines p k b)
  have pe0 := fun W => ppend_any (M.pLines p k b) W
  have ak0 := fun W => pack_any (M.pLines p k b) W
  have pe1 := fun W => ppend_any (M.pAck (M.pLines p k b)) W
  have ak1 := fun W => pack_any (M.pAck (M.pLines p k b)) W
  rw [hk] at *
  clear hok hk
  generalize M.pLines p (bits .and .i64 a 1) b = Q at *
  generalize M.clr Q = R at *
  have L1 := Lib.hid l1
  have L2 := Lib.hid l2
  have PR := Lib.hid pr
  clear l1 l2 pr
  have hS := St.start w.heap.size 0 0 w
  rcases hA with ⟨v0, hR⟩ | ⟨v0, v1, hR⟩ | ⟨v0, v1, v2, hR⟩
  · subst hR
    clear pe0 pe1 ak0 ak1 v0
    go_enter Try.func14, Try.ntmps14
    go_wp2_with (first
  | ((with_reducible refine to_box ?_); (first | refine Wl_box hS (fun _ => by rfl) _ rfl ?_ | refine Wl_box1 hS (fun _ => by rfl) (.int _ _) rfl rfl ?_ | refine Wl_box1 hS (fun _ => by rfl) (.bool _) rfl rfl ?_ | refine Wl_box1 hS (fun _ => by rfl) (.slice _ _ _) rfl rfl ?_ | refine Wl_box1 hS (fun _ => by rfl) (.pointer _) rfl rfl ?_); clear hS; intro b3 wW hS; simp only [Act.put, List.setIfInBounds_toArray, List.set_cons_zero, List.set_cons_succ])
  | ((with_reducible refine to_alloc 80 rfl ?_); refine Wl_alloc hS (fun _ => by rfl) _ zero80r ?_; clear hS; intro b9 wW hS; simp only [Act.put, List.setIfInBounds_toArray, List.set_cons_zero, List.set_cons_succ])
  | ((with_reducible refine to_load 80 rfl ?_); refine Wl_load hS (fun _ => by rfl) _ _ rfl _ Try.underlying80 rfl ?_; (repeat (first | (refine Row.here ⟨info80c _, ?_⟩) | refine Row.next ?_)); (with_reducible show wpList _ _ _ _ _ _); simp only [Act.put, List.setIfInBounds_toArray, List.set_cons_zero, List.set_cons_succ])
  | ((with_reducible refine to_store 80 rfl ?_); refine Wl_store hS (fun _ => by rfl) _ _ _ rfl rfl (info80c _) (pi_one _) ?_; (repeat (first | refine Turn.here rfl ?_ | refine Turn.next ?_)); clear hS; intro wW hS; try simp only [Act.put, List.setIfInBounds_toArray, List.set_cons_zero, List.set_cons_succ]))
    refine (pawake_any _).mono ?_
    rintro e w1 ⟨rfl, hb⟩
    replace hS := hS.call hb
    clear hb
    go_wp2_with (first
  | ((with_reducible refine to_box ?_); (first | refine Wl_box hS (fun _ => by rfl) _ rfl ?_ | refine Wl_box1 hS (fun _ => by rfl) (.int _ _) rfl rfl ?_ | refine Wl_box1 hS (fun _ => by rfl) (.bool _) rfl rfl ?_ | refine Wl_box1 hS (fun _ => by rfl) (.slice _ _ _) rfl rfl ?_ | refine Wl_box1 hS (fun _ => by rfl) (.pointer _) rfl rfl ?_); clear hS; intro b3 wW hS; simp only [Act.put, List.setIfInBounds_toArray, List.set_cons_zero, List.set_cons_succ])
  | ((with_reducible refine to_alloc 80 rfl ?_); refine Wl_alloc hS (fun _ => by rfl) _ zero80r ?_; clear hS; intro b9 wW hS; simp only [Act.put, List.setIfInBounds_toArray, List.set_cons_zero, List.set_cons_succ])
  | ((with_reducible refine to_load 80 rfl ?_); refine Wl_load hS (fun _ => by rfl) _ _ rfl _ Try.underlying80 rfl ?_; (repeat (first | (refine Row.here ⟨info80c _, ?_⟩) | refine Row.next ?_)); (with_reducible show wpList _ _ _ _ _ _); simp only [Act.put, List.setIfInBounds_toArray, List.set_cons_zero, List.set_cons_succ])
  | ((with_reducible refine to_store 80 rfl ?_); refine Wl_store hS (fun _ => by rfl) _ _ _ rfl rfl (info80c _) (pi_one _) ?_; (repeat (first | refine Turn.here rfl ?_ | refine Turn.next ?_)); clear hS; intro wW hS; try simp only [Act.put, List.setIfInBounds_toArray, List.set_cons_zero, List.set_cons_succ]))
    refine (L1.out _).mono ?_
    rintro e w1 ⟨rfl, hb⟩
    replace hS := hS.call hb
    clear hb
    go_wp2_with (first
  | ((with_reducible refine to_box ?_); (first | refine Wl_box hS (fun _ => by rfl) _ rfl ?_ | refine Wl_box1 hS (fun _ => by rfl) (.int _ _) rfl rfl ?_ | refine Wl_box1 hS (fun _ => by rfl) (.bool _) rfl rfl ?_ | refine Wl_box1 hS (fun _ => by rfl) (.slice _ _ _) rfl rfl ?_ | refine Wl_box1 hS (fun _ => by rfl) (.pointer _) rfl rfl ?_); clear hS; intro b3 wW hS; simp only [Act.put, List.setIfInBounds_toArray, List.set_cons_zero, List.set_cons_succ])
  | ((with_reducible refine to_alloc 80 rfl ?_); refine Wl_alloc hS (fun _ => by rfl) _ zero80r ?_; clear hS; intro b9 wW hS; simp only [Act.put, List.setIfInBounds_toArray, List.set_cons_zero, List.set_cons_succ])
  | ((with_reducible refine to_load 80 rfl ?_); refine Wl_load hS (fun _ => by rfl) _ _ rfl _ Try.underlying80 rfl ?_; (repeat (first | (refine Row.here ⟨info80c _, ?_⟩) | refine Row.next ?_)); (with_reducible show wpList _ _ _ _ _ _); simp only [Act.put, List.setIfInBounds_toArray, List.set_cons_zero, List.set_cons_succ])
  | ((with_reducible refine to_store 80 rfl ?_); refine Wl_store hS (fun _ => by rfl) _ _ _ rfl rfl (info80c _) (pi_one _) ?_; (repeat (first | refine Turn.here rfl ?_ | refine Turn.next ?_)); clear hS; intro wW hS; try simp only [Act.put, List.setIfInBounds_toArray, List.set_cons_zero, List.set_cons_succ]))
    refine wp_loop_rounds 4 ?_
    rw [rounds_succ]
    go_wp2_with (first
  | ((with_reducible refine to_box ?_); (first | refine Wl_box hS (fun _ => by rfl) _ rfl ?_ | refine Wl_box1 hS (fun _ => by rfl) (.int _ _) rfl rfl ?_ | refine Wl_box1 hS (fun _ => by rfl) (.bool _) rfl rfl ?_ | refine Wl_box1 hS (fun _ => by rfl) (.slice _ _ _) rfl rfl ?_ | refine Wl_box1 hS (fun _ => by rfl) (.pointer _) rfl rfl ?_); clear hS; intro b3 wW hS; simp only [Act.put, List.setIfInBounds_toArray, List.set_cons_zero, List.set_cons_succ])
  | ((with_reducible refine to_alloc 80 rfl ?_); refine Wl_alloc hS (fun _ => by rfl) _ zero80r ?_; clear hS; intro b9 wW hS; simp only [Act.put, List.setIfInBounds_toArray, List.set_cons_zero, List.set_cons_succ])
  | ((with_reducible refine to_load 80 rfl ?_); refine Wl_load hS (fun _ => by rfl) _ _ rfl _ Try.underlying80 rfl ?_; (repeat (first | (refine Row.here ⟨info80c _, ?_⟩) | refine Row.next ?_)); (with_reducible show wpList _ _ _ _ _ _); simp only [Act.put, List.setIfInBounds_toArray, List.set_cons_zero, List.set_cons_succ])
  | ((with_reducible refine to_store 80 rfl ?_); refine Wl_store hS (fun _ => by rfl) _ _ _ rfl rfl (info80c _) (pi_one _) ?_; (repeat (first | refine Turn.here rfl ?_ | refine Turn.next ?_)); clear hS; intro wW hS; try simp only [Act.put, List.setIfInBounds_toArray, List.set_cons_zero, List.set_cons_succ]))
    refine (PR.out _).mono ?_
    rintro e w1 ⟨rfl, hb⟩
    replace hS := hS.call hb
    clear hb
    go_wp2_with (first
  | ((with_reducible refine to_box ?_); (first | refine Wl_box hS (fun _ => by rfl) _ rfl ?_ | refine Wl_box1 hS (fun _ => by rfl) (.int _ _) rfl rfl ?_ | refine Wl_box1 hS (fun _ => by rfl) (.bool _) rfl rfl ?_ | refine Wl_box1 hS (fun _ => by rfl) (.slice _ _ _) rfl rfl ?_ | refine Wl_box1 hS (fun _ => by rfl) (.pointer _) rfl rfl ?_); clear hS; intro b3 wW hS; simp only [Act.put, List.setIfInBounds_toArray, List.set_cons_zero, List.set_cons_succ])
  | ((with_reducible refine to_alloc 80 rfl ?_); refine Wl_alloc hS (fun _ => by rfl) _ zero80r ?_; clear hS; intro b9 wW hS; simp only [Act.put, List.setIfInBounds_toArray, List.set_cons_zero, List.set_cons_succ])
  | ((with_reducible refine to_load 80 rfl ?_); refine Wl_load hS (fun _ => by rfl) _ _ rfl _ Try.underlying80 rfl ?_; (repeat (first | (refine Row.here ⟨info80c _, ?_⟩) | refine Row.next ?_)); (with_reducible show wpList _ _ _ _ _ _); simp only [Act.put, List.setIfInBounds_toArray, List.set_cons_zero, List.set_cons_succ])
  | ((with_reducible refine to_store 80 rfl ?_); refine Wl_store hS (fun _ => by rfl) _ _ _ rfl rfl (info80c _) (pi_one _) ?_; (repeat (first | refine Turn.here rfl ?_ | refine Turn.next ?_)); clear hS; intro wW hS; try simp only [Act.put, List.setIfInBounds_toArray, List.set_cons_zero, List.set_cons_succ]))
    refine (L2.out _).mono ?_
    rintro e w1 ⟨rfl, hb⟩
    replace hS := hS.call hb
    clear hb
    go_wp2_with (first
  | ((with_reducible refine to_box ?_); (first | refine Wl_box hS (fun _ => by rfl) _ rfl ?_ | refine Wl_box1 hS (fun _ => by rfl) (.int _ _) rfl rfl ?_ | refine Wl_box1 hS (fun _ => by rfl) (.bool _) rfl rfl ?_ | refine Wl_box1 hS (fun _ => by rfl) (.slice _ _ _) rfl rfl ?_ | refine Wl_box1 hS (fun _ => by rfl) (.pointer _) rfl rfl ?_); clear hS; intro b3 wW hS; simp only [Act.put, List.setIfInBounds_toArray, List.set_cons_zero, List.set_cons_succ])
  | ((with_reducible refine to_alloc 80 rfl ?_); refine Wl_alloc hS (fun _ => by rfl) _ zero80r ?_; clear hS; intro b9 wW hS; simp only [Act.put, List.setIfInBounds_toArray, List.set_cons_zero, List.set_cons_succ])
  | ((with_reducible refine to_load 80 rfl ?_); refine Wl_load hS (fun _ => by rfl) _ _ rfl _ Try.underlying80 rfl ?_; (repeat (first | (refine Row.here ⟨info80c _, ?_⟩) | refine Row.next ?_)); (with_reducible show wpList _ _ _ _ _ _); simp only [Act.put, List.setIfInBounds_toArray, List.set_cons_zero, List.set_cons_succ])
  | ((with_reducible refine to_store 80 rfl ?_); refine Wl_store hS (fun _ => by rfl) _ _ _ rfl rfl (info80c _) (pi_one _) ?_; (repeat (first | refine Turn.here rfl ?_ | refine Turn.next ?_)); clear hS; intro wW hS; try simp only [Act.put, List.setIfInBounds_toArray, List.set_cons_zero, List.set_cons_succ]))
    refine (PR.out _).mono ?_
    rintro e w1 ⟨rfl, hb⟩
    replace hS := hS.call hb
    clear hb
    go_wp2_with (first
  | ((with_reducible refine to_box ?_); (first | refine Wl_box hS (fun _ => by rfl) _ rfl ?_ | refine Wl_box1 hS (fun _ => by rfl) (.int _ _) rfl rfl ?_ | refine Wl_box1 hS (fun _ => by rfl) (.bool _) rfl rfl ?_ | refine Wl_box1 hS (fun _ => by rfl) (.slice _ _ _) rfl rfl ?_ | refine Wl_box1 hS (fun _ => by rfl) (.pointer _) rfl rfl ?_); clear hS; intro b3 wW hS; simp only [Act.put, List.setIfInBounds_toArray, List.set_cons_zero, List.set_cons_succ])
  | ((with_reducible refine to_alloc 80 rfl ?_); refine Wl_alloc hS (fun _ => by rfl) _ zero80r ?_; clear hS; intro b9 wW hS; simp only [Act.put, List.setIfInBounds_toArray, List.set_cons_zero, List.set_cons_succ])
  | ((with_reducible refine to_load 80 rfl ?_); refine Wl_load hS (fun _ => by rfl) _ _ rfl _ Try.underlying80 rfl ?_; (repeat (first | (refine Row.here ⟨info80c _, ?_⟩) | refine Row.next ?_)); (with_reducible show wpList _ _ _ _ _ _); simp only [Act.put, List.setIfInBounds_toArray, List.set_cons_zero, List.set_cons_succ])
  | ((with_reducible refine to_store 80 rfl ?_); refine Wl_store hS (fun _ => by rfl) _ _ _ rfl rfl (info80c _) (pi_one _) ?_; (repeat (first | refine Turn.here rfl ?_ | refine Turn.next ?_)); clear hS; intro wW hS; try simp only [Act.put, List.setIfInBounds_toArray, List.set_cons_zero, List.set_cons_succ]))
    refine (PR.out _).mono ?_
    rintro e w1 ⟨rfl, hb⟩
    replace hS := hS.call hb
    clear hb
    go_wp2_with (first
  | ((with_reducible refine to_box ?_); (first | refine Wl_box hS (fun _ => by rfl) _ rfl ?_ | refine Wl_box1 hS (fun _ => by rfl) (.int _ _) rfl rfl ?_ | refine Wl_box1 hS (fun _ => by rfl) (.bool _) rfl rfl ?_ | refine Wl_box1 hS (fun _ => by rfl) (.slice _ _ _) rfl rfl ?_ | refine Wl_box1 hS (fun _ => by rfl) (.pointer _) rfl rfl ?_); clear hS; intro b3 wW hS; simp only [Act.put, List.setIfInBounds_toArray, List.set_cons_zero, List.set_cons_succ])
  | ((with_reducible refine to_alloc 80 rfl ?_); refine Wl_alloc hS (fun _ => by rfl) _ zero80r ?_; clear hS; intro b9 wW hS; simp only [Act.put, List.setIfInBounds_toArray, List.set_cons_zero, List.set_cons_succ])
  | ((with_reducible refine to_load 80 rfl ?_); refine Wl_load hS (fun _ => by rfl) _ _ rfl _ Try.underlying80 rfl ?_; (repeat (first | (refine Row.here ⟨info80c _, ?_⟩) | refine Row.next ?_)); (with_reducible show wpList _ _ _ _ _ _); simp only [Act.put, List.setIfInBounds_toArray, List.set_cons_zero, List.set_cons_succ])
  | ((with_reducible refine to_store 80 rfl ?_); refine Wl_store hS (fun _ => by rfl) _ _ _ rfl rfl (info80c _) (pi_one _) ?_; (repeat (first | refine Turn.here rfl ?_ | refine Turn.next ?_)); clear hS; intro wW hS; try simp only [Act.put, List.setIfInBounds_toArray, List.set_cons_zero, List.set_cons_succ]))
    go_returns
    exact ⟨rfl, hS.below⟩
  · rw [hR] at ak0
    clear pe1 ak1 v1
    generalize M.pPend Q = n0 at *
    have PE0 := Lib.hid pe0
    have AK0 := Lib.hid ak0
    clear pe0 ak0 hR
    go_enter Try.func14, Try.ntmps14
    go_wp2_with (first
  | ((with_reducible refine to_box ?_); (first | refine Wl_box hS (fun _ => by rfl) _ rfl ?_ | refine Wl_box1 hS (fun _ => by rfl) (.int _ _) rfl rfl ?_ | refine Wl_box1 hS (fun _ => by rfl) (.bool _) rfl rfl ?_ | refine Wl_box1 hS (fun _ => by rfl) (.slice _ _ _) rfl rfl ?_ | refine Wl_box1 hS (fun _ => by rfl) (.pointer _) rfl rfl ?_); clear hS; intro b3 wW hS; simp only [Act.put, List.setIfInBounds_toArray, List.set_cons_zero, List.set_cons_succ])
  | ((with_reducible refine to_alloc 80 rfl ?_); refine Wl_alloc hS (fun _ => by rfl) _ zero80r ?_; clear hS; intro b9 wW hS; simp only [Act.put, List.setIfInBounds_toArray, List.set_cons_zero, List.set_cons_succ])
  | ((with_reducible refine to_load 80 rfl ?_); refine Wl_load hS (fun _ => by rfl) _ _ rfl _ Try.underlying80 rfl ?_; (repeat (first | (refine Row.here ⟨info80c _, ?_⟩) | refine Row.next ?_)); (with_reducible show wpList _ _ _ _ _ _); simp only [Act.put, List.setIfInBounds_toArray, List.set_cons_zero, List.set_cons_succ])
  | ((with_reducible refine to_store 80 rfl ?_); refine Wl_store hS (fun _ => by rfl) _ _ _ rfl rfl (info80c _) (pi_one _) ?_; (repeat (first | refine Turn.here rfl ?_ | refine Turn.next ?_)); clear hS; intro wW hS; try simp only [Act.put, List.setIfInBounds_toArray, List.set_cons_zero, List.set_cons_succ]))
    refine (pawake_any _).mono ?_
    rintro e w1 ⟨rfl, hb⟩
    replace hS := hS.call hb
    clear hb
    go_wp2_with (first
  | ((with_reducible refine to_box ?_); (first | refine Wl_box hS (fun _ => by rfl) _ rfl ?_ | refine Wl_box1 hS (fun _ => by rfl) (.int _ _) rfl rfl ?_ | refine Wl_box1 hS (fun _ => by rfl) (.bool _) rfl rfl ?_ | refine Wl_box1 hS (fun _ => by rfl) (.slice _ _ _) rfl rfl ?_ | refine Wl_box1 hS (fun _ => by rfl) (.pointer _) rfl rfl ?_); clear hS; intro b3 wW hS; simp only [Act.put, List.setIfInBounds_toArray, List.set_cons_zero, List.set_cons_succ])
  | ((with_reducible refine to_alloc 80 rfl ?_); refine Wl_alloc hS (fun _ => by rfl) _ zero80r ?_; clear hS; intro b9 wW hS; simp only [Act.put, List.setIfInBounds_toArray, List.set_cons_zero, List.set_cons_succ])
  | ((with_reducible refine to_load 80 rfl ?_); refine Wl_load hS (fun _ => by rfl) _ _ rfl _ Try.underlying80 rfl ?_; (repeat (first | (refine Row.here ⟨info80c _, ?_⟩) | refine Row.next ?_)); (with_reducible show wpList _ _ _ _ _ _); simp only [Act.put, List.setIfInBounds_toArray, List.set_cons_zero, List.set_cons_succ])
  | ((with_reducible refine to_store 80 rfl ?_); refine Wl_store hS (fun _ => by rfl) _ _ _ rfl rfl (info80c _) (pi_one _) ?_; (repeat (first | refine Turn.here rfl ?_ | refine Turn.next ?_)); clear hS; intro wW hS; try simp only [Act.put, List.setIfInBounds_toArray, List.set_cons_zero, List.set_cons_succ]))
    refine (L1.out _).mono ?_
    rintro e w1 ⟨rfl, hb⟩
    replace hS := hS.call hb
    clear hb
    go_wp2_with (first
  | ((with_reducible refine to_box ?_); (first | refine Wl_box hS (fun _ => by rfl) _ rfl ?_ | refine Wl_box1 hS (fun _ => by rfl) (.int _ _) rfl rfl ?_ | refine Wl_box1 hS (fun _ => by rfl) (.bool _) rfl rfl ?_ | refine Wl_box1 hS (fun _ => by rfl) (.slice _ _ _) rfl rfl ?_ | refine Wl_box1 hS (fun _ => by rfl) (.pointer _) rfl rfl ?_); clear hS; intro b3 wW hS; simp only [Act.put, List.setIfInBounds_toArray, List.set_cons_zero, List.set_cons_succ])
  | ((with_reducible refine to_alloc 80 rfl ?_); refine Wl_alloc hS (fun _ => by rfl) _ zero80r ?_; clear hS; intro b9 wW hS; simp only [Act.put, List.setIfInBounds_toArray, List.set_cons_zero, List.set_cons_succ])
  | ((with_reducible refine to_load 80 rfl ?_); refine Wl_load hS (fun _ => by rfl) _ _ rfl _ Try.underlying80 rfl ?_; (repeat (first | (refine Row.here ⟨info80c _, ?_⟩) | refine Row.next ?_)); (with_reducible show wpList _ _ _ _ _ _); simp only [Act.put, List.setIfInBounds_toArray, List.set_cons_zero, List.set_cons_succ])
  | ((with_reducible refine to_store 80 rfl ?_); refine Wl_store hS (fun _ => by rfl) _ _ _ rfl rfl (info80c _) (pi_one _) ?_; (repeat (first | refine Turn.here rfl ?_ | refine Turn.next ?_)); clear hS; intro wW hS; try simp only [Act.put, List.setIfInBounds_toArray, List.set_cons_zero, List.set_cons_succ]))
    refine wp_loop_rounds 4 ?_
    rw [rounds_succ]
    go_wp2_with (first
  | ((with_reducible refine to_box ?_); (first | refine Wl_box hS (fun _ => by rfl) _ rfl ?_ | refine Wl_box1 hS (fun _ => by rfl) (.int _ _) rfl rfl ?_ | refine Wl_box1 hS (fun _ => by rfl) (.bool _) rfl rfl ?_ | refine Wl_box1 hS (fun _ => by rfl) (.slice _ _ _) rfl rfl ?_ | refine Wl_box1 hS (fun _ => by rfl) (.pointer _) rfl rfl ?_); clear hS; intro b3 wW hS; simp only [Act.put, List.setIfInBounds_toArray, List.set_cons_zero, List.set_cons_succ])
  | ((with_reducible refine to_alloc 80 rfl ?_); refine Wl_alloc hS (fun _ => by rfl) _ zero80r ?_; clear hS; intro b9 wW hS; simp only [Act.put, List.setIfInBounds_toArray, List.set_cons_zero, List.set_cons_succ])
  | ((with_reducible refine to_load 80 rfl ?_); refine Wl_load hS (fun _ => by rfl) _ _ rfl _ Try.underlying80 rfl ?_; (repeat (first | (refine Row.here ⟨info80c _, ?_⟩) | refine Row.next ?_)); (with_reducible show wpList _ _ _ _ _ _); simp only [Act.put, List.setIfInBounds_toArray, List.set_cons_zero, List.set_cons_succ])
  | ((with_reducible refine to_store 80 rfl ?_); refine Wl_store hS (fun _ => by rfl) _ _ _ rfl rfl (info80c _) (pi_one _) ?_; (repeat (first | refine Turn.here rfl ?_ | refine Turn.next ?_)); clear hS; intro wW hS; try simp only [Act.put, List.setIfInBounds_toArray, List.set_cons_zero, List.set_cons_succ]))
    refine (PE0.out _).mono ?_
    rintro e w1 ⟨rfl, hb⟩
    replace hS := hS.call hb
    clear hb
    go_wp2_with (first
  | ((with_reducible refine to_box ?_); (first | refine Wl_box hS (fun _ => by rfl) _ rfl ?_ | refine Wl_box1 hS (fun _ => by rfl) (.int _ _) rfl rfl ?_ | refine Wl_box1 hS (fun _ => by rfl) (.bool _) rfl rfl ?_ | refine Wl_box1 hS (fun _ => by rfl) (.slice _ _ _) rfl rfl ?_ | refine Wl_box1 hS (fun _ => by rfl) (.pointer _) rfl rfl ?_); clear hS; intro b3 wW hS; simp only [Act.put, List.setIfInBounds_toArray, List.set_cons_zero, List.set_cons_succ])
  | ((with_reducible refine to_alloc 80 rfl ?_); refine Wl_alloc hS (fun _ => by rfl) _ zero80r ?_; clear hS; intro b9 wW hS; simp only [Act.put, List.setIfInBounds_toArray, List.set_cons_zero, List.set_cons_succ])
  | ((with_reducible refine to_load 80 rfl ?_); refine Wl_load hS (fun _ => by rfl) _ _ rfl _ Try.underlying80 rfl ?_; (repeat (first | (refine Row.here ⟨info80c _, ?_⟩) | refine Row.next ?_)); (with_reducible show wpList _ _ _ _ _ _); simp only [Act.put, List.setIfInBounds_toArray, List.set_cons_zero, List.set_cons_succ])
  | ((with_reducible refine to_store 80 rfl ?_); refine Wl_store hS (fun _ => by rfl) _ _ _ rfl rfl (info80c _) (pi_one _) ?_; (repeat (first | refine Turn.here rfl ?_ | refine Turn.next ?_)); clear hS; intro wW hS; try simp only [Act.put, List.setIfInBounds_toArray, List.set_cons_zero, List.set_cons_succ]))
    refine (AK0.out _).mono ?_
    rintro e w1 ⟨rfl, hb⟩
    replace hS := hS.call hb
    clear hb
    go_wp2_with (first
  | ((with_reducible refine to_box ?_); (first | refine Wl_box hS (fun _ => by rfl) _ rfl ?_ | refine Wl_box1 hS (fun _ => by rfl) (.int _ _) rfl rfl ?_ | refine Wl_box1 hS (fun _ => by rfl) (.bool _) rfl rfl ?_ | refine Wl_box1 hS (fun _ => by rfl) (.slice _ _ _) rfl rfl ?_ | refine Wl_box1 hS (fun _ => by rfl) (.pointer _) rfl rfl ?_); clear hS; intro b3 wW hS; simp only [Act.put, List.setIfInBounds_toArray, List.set_cons_zero, List.set_cons_succ])
  | ((with_reducible refine to_alloc 80 rfl ?_); refine Wl_alloc hS (fun _ => by rfl) _ zero80r ?_; clear hS; intro b9 wW hS; simp only [Act.put, List.setIfInBounds_toArray, List.set_cons_zero, List.set_cons_succ])
  | ((with_reducible refine to_load 80 rfl ?_); refine Wl_load hS (fun _ => by rfl) _ _ rfl _ Try.underlying80 rfl ?_; (repeat (first | (refine Row.here ⟨info80c _, ?_⟩) | refine Row.next ?_)); (with_reducible show wpList _ _ _ _ _ _); simp only [Act.put, List.setIfInBounds_toArray, List.set_cons_zero, List.set_cons_succ])
  | ((with_reducible refine to_store 80 rfl ?_); refine Wl_store hS (fun _ => by rfl) _ _ _ rfl rfl (info80c _) (pi_one _) ?_; (repeat (first | refine Turn.here rfl ?_ | refine Turn.next ?_)); clear hS; intro wW hS; try simp only [Act.put, List.setIfInBounds_toArray, List.set_cons_zero, List.set_cons_succ]))
    rw [rounds_succ]
    go_wp2_with (first
  | ((with_reducible refine to_box ?_); (first | refine Wl_box hS (fun _ => by rfl) _ rfl ?_ | refine Wl_box1 hS (fun _ => by rfl) (.int _ _) rfl rfl ?_ | refine Wl_box1 hS (fun _ => by rfl) (.bool _) rfl rfl ?_ | refine Wl_box1 hS (fun _ => by rfl) (.slice _ _ _) rfl rfl ?_ | refine Wl_box1 hS (fun _ => by rfl) (.pointer _) rfl rfl ?_); clear hS; intro b3 wW hS; simp only [Act.put, List.setIfInBounds_toArray, List.set_cons_zero, List.set_cons_succ])
  | ((with_reducible refine to_alloc 80 rfl ?_); refine Wl_alloc hS (fun _ => by rfl) _ zero80r ?_; clear hS; intro b9 wW hS; simp only [Act.put, List.setIfInBounds_toArray, List.set_cons_zero, List.set_cons_succ])
  | ((with_reducible refine to_load 80 rfl ?_); refine Wl_load hS (fun _ => by rfl) _ _ rfl _ Try.underlying80 rfl ?_; (repeat (first | (refine Row.here ⟨info80c _, ?_⟩) | refine Row.next ?_)); (with_reducible show wpList _ _ _ _ _ _); simp only [Act.put, List.setIfInBounds_toArray, List.set_cons_zero, List.set_cons_succ])
  | ((with_reducible refine to_store 80 rfl ?_); refine Wl_store hS (fun _ => by rfl) _ _ _ rfl rfl (info80c _) (pi_one _) ?_; (repeat (first | refine Turn.here rfl ?_ | refine Turn.next ?_)); clear hS; intro wW hS; try simp only [Act.put, List.setIfInBounds_toArray, List.set_cons_zero, List.set_cons_succ]))
    refine (PR.out _).mono ?_
    rintro e w1 ⟨rfl, hb⟩
    replace hS := hS.call hb
    clear hb
    go_wp2_with (first
  | ((with_reducible refine to_box ?_); (first | refine Wl_box hS (fun _ => by rfl) _ rfl ?_ | refine Wl_box1 hS (fun _ => by rfl) (.int _ _) rfl rfl ?_ | refine Wl_box1 hS (fun _ => by rfl) (.bool _) rfl rfl ?_ | refine Wl_box1 hS (fun _ => by rfl) (.slice _ _ _) rfl rfl ?_ | refine Wl_box1 hS (fun _ => by rfl) (.pointer _) rfl rfl ?_); clear hS; intro b3 wW hS; simp only [Act.put, List.setIfInBounds_toArray, List.set_cons_zero, List.set_cons_succ])
  | ((with_reducible refine to_alloc 80 rfl ?_); refine Wl_alloc hS (fun _ => by rfl) _ zero80r ?_; clear hS; intro b9 wW hS; simp only [Act.put, List.setIfInBounds_toArray, List.set_cons_zero, List.set_cons_succ])
  | ((with_reducible refine to_load 80 rfl ?_); refine Wl_load hS (fun _ => by rfl) _ _ rfl _ Try.underlying80 rfl ?_; (repeat (first | (refine Row.here ⟨info80c _, ?_⟩) | refine Row.next ?_)); (with_reducible show wpList _ _ _ _ _ _); simp only [Act.put, List.setIfInBounds_toArray, List.set_cons_zero, List.set_cons_succ])
  | ((with_reducible refine to_store 80 rfl ?_); refine Wl_store hS (fun _ => by rfl) _ _ _ rfl rfl (info80c _) (pi_one _) ?_; (repeat (first | refine Turn.here rfl ?_ | refine Turn.next ?_)); clear hS; intro wW hS; try simp only [Act.put, List.setIfInBounds_toArray, List.set_cons_zero, List.set_cons_succ]))
    refine (L2.out _).mono ?_
    rintro e w1 ⟨rfl, hb⟩
    replace hS := hS.call hb
    clear hb
    go_wp2_with (first
  | ((with_reducible refine to_box ?_); (first | refine Wl_box hS (fun _ => by rfl) _ rfl ?_ | refine Wl_box1 hS (fun _ => by rfl) (.int _ _) rfl rfl ?_ | refine Wl_box1 hS (fun _ => by rfl) (.bool _) rfl rfl ?_ | refine Wl_box1 hS (fun _ => by rfl) (.slice _ _ _) rfl rfl ?_ | refine Wl_box1 hS (fun _ => by rfl) (.pointer _) rfl rfl ?_); clear hS; intro b3 wW hS; simp only [Act.put, List.setIfInBounds_toArray, List.set_cons_zero, List.set_cons_succ])
  | ((with_reducible refine to_alloc 80 rfl ?_); refine Wl_alloc hS (fun _ => by rfl) _ zero80r ?_; clear hS; intro b9 wW hS; simp only [Act.put, List.setIfInBounds_toArray, List.set_cons_zero, List.set_cons_succ])
  | ((with_reducible refine to_load 80 rfl ?_); refine Wl_load hS (fun _ => by rfl) _ _ rfl _ Try.underlying80 rfl ?_; (repeat (first | (refine Row.here ⟨info80c _, ?_⟩) | refine Row.next ?_)); (with_reducible show wpList _ _ _ _ _ _); simp only [Act.put, List.setIfInBounds_toArray, List.set_cons_zero, List.set_cons_succ])
  | ((with_reducible refine to_store 80 rfl ?_); refine Wl_store hS (fun _ => by rfl) _ _ _ rfl rfl (info80c _) (pi_one _) ?_; (repeat (first | refine Turn.here rfl ?_ | refine Turn.next ?_)); clear hS; intro wW hS; try simp only [Act.put, List.setIfInBounds_toArray, List.set_cons_zero, List.set_cons_succ]))
    refine (PR.out _).mono ?_
    rintro e w1 ⟨rfl, hb⟩
    replace hS := hS.call hb
    clear hb
    go_wp2_with (first
  | ((with_reducible refine to_box ?_); (first | refine Wl_box hS (fun _ => by rfl) _ rfl ?_ | refine Wl_box1 hS (fun _ => by rfl) (.int _ _) rfl rfl ?_ | refine Wl_box1 hS (fun _ => by rfl) (.bool _) rfl rfl ?_ | refine Wl_box1 hS (fun _ => by rfl) (.slice _ _ _) rfl rfl ?_ | refine Wl_box1 hS (fun _ => by rfl) (.pointer _) rfl rfl ?_); clear hS; intro b3 wW hS; simp only [Act.put, List.setIfInBounds_toArray, List.set_cons_zero, List.set_cons_succ])
  | ((with_reducible refine to_alloc 80 rfl ?_); refine Wl_alloc hS (fun _ => by rfl) _ zero80r ?_; clear hS; intro b9 wW hS; simp only [Act.put, List.setIfInBounds_toArray, List.set_cons_zero, List.set_cons_succ])
  | ((with_reducible refine to_load 80 rfl ?_); refine Wl_load hS (fun _ => by rfl) _ _ rfl _ Try.underlying80 rfl ?_; (repeat (first | (refine Row.here ⟨info80c _, ?_⟩) | refine Row.next ?_)); (with_reducible show wpList _ _ _ _ _ _); simp only [Act.put, List.setIfInBounds_toArray, List.set_cons_zero, List.set_cons_succ])
  | ((with_reducible refine to_store 80 rfl ?_); refine Wl_store hS (fun _ => by rfl) _ _ _ rfl rfl (info80c _) (pi_one _) ?_; (repeat (first | refine Turn.here rfl ?_ | refine Turn.next ?_)); clear hS; intro wW hS; try simp only [Act.put, List.setIfInBounds_toArray, List.set_cons_zero, List.set_cons_succ]))
    refine (PR.out _).mono ?_
    rintro e w1 ⟨rfl, hb⟩
    replace hS := hS.call hb
    clear hb
    go_wp2_with (first
  | ((with_reducible refine to_box ?_); (first | refine Wl_box hS (fun _ => by rfl) _ rfl ?_ | refine Wl_box1 hS (fun _ => by rfl) (.int _ _) rfl rfl ?_ | refine Wl_box1 hS (fun _ => by rfl) (.bool _) rfl rfl ?_ | refine Wl_box1 hS (fun _ => by rfl) (.slice _ _ _) rfl rfl ?_ | refine Wl_box1 hS (fun _ => by rfl) (.pointer _) rfl rfl ?_); clear hS; intro b3 wW hS; simp only [Act.put, List.setIfInBounds_toArray, List.set_cons_zero, List.set_cons_succ])
  | ((with_reducible refine to_alloc 80 rfl ?_); refine Wl_alloc hS (fun _ => by rfl) _ zero80r ?_; clear hS; intro b9 wW hS; simp only [Act.put, List.setIfInBounds_toArray, List.set_cons_zero, List.set_cons_succ])
  | ((with_reducible refine to_load 80 rfl ?_); refine Wl_load hS (fun _ => by rfl) _ _ rfl _ Try.underlying80 rfl ?_; (repeat (first | (refine Row.here ⟨info80c _, ?_⟩) | refine Row.next ?_)); (with_reducible show wpList _ _ _ _ _ _); simp only [Act.put, List.setIfInBounds_toArray, List.set_cons_zero, List.set_cons_succ])
  | ((with_reducible refine to_store 80 rfl ?_); refine Wl_store hS (fun _ => by rfl) _ _ _ rfl rfl (info80c _) (pi_one _) ?_; (repeat (first | refine Turn.here rfl ?_ | refine Turn.next ?_)); clear hS; intro wW hS; try simp only [Act.put, List.setIfInBounds_toArray, List.set_cons_zero, List.set_cons_succ]))
    go_returns
    exact ⟨rfl, hS.below⟩
  · rw [hR] at ak1
    clear v2
    generalize M.pPend (M.pAck Q) = n1 at *
    generalize M.pAck Q = Q1 at *
    generalize M.pPend Q = n0 at *
    have PE0 := Lib.hid pe0
    have AK0 := Lib.hid ak0
    have PE1 := Lib.hid pe1
    have AK1 := Lib.hid ak1
    clear pe0 ak0 pe1 ak1 hR
    go_enter Try.func14, Try.ntmps14
    go_wp2_with (first
  | ((with_reducible refine to_box ?_); (first | refine Wl_box hS (fun _ => by rfl) _ rfl ?_ | refine Wl_box1 hS (fun _ => by rfl) (.int _ _) rfl rfl ?_ | refine Wl_box1 hS (fun _ => by rfl) (.bool _) rfl rfl ?_ | refine Wl_box1 hS (fun _ => by rfl) (.slice _ _ _) rfl rfl ?_ | refine Wl_box1 hS (fun _ => by rfl) (.pointer _) rfl rfl ?_); clear hS; intro b3 wW hS; simp only [Act.put, List.setIfInBounds_toArray, List.set_cons_zero, List.set_cons_succ])
  | ((with_reducible refine to_alloc 80 rfl ?_); refine Wl_alloc hS (fun _ => by rfl) _ zero80r ?_; clear hS; intro b9 wW hS; simp only [Act.put, List.setIfInBounds_toArray, List.set_cons_zero, List.set_cons_succ])
  | ((with_reducible refine to_load 80 rfl ?_); refine Wl_load hS (fun _ => by rfl) _ _ rfl _ Try.underlying80 rfl ?_; (repeat (first | (refine Row.here ⟨info80c _, ?_⟩) | refine Row.next ?_)); (with_reducible show wpList _ _ _ _ _ _); simp only [Act.put, List.setIfInBounds_toArray, List.set_cons_zero, List.set_cons_succ])
  | ((with_reducible refine to_store 80 rfl ?_); refine Wl_store hS (fun _ => by rfl) _ _ _ rfl rfl (info80c _) (pi_one _) ?_; (repeat (first | refine Turn.here rfl ?_ | refine Turn.next ?_)); clear hS; intro wW hS; try simp only [Act.put, List.setIfInBounds_toArray, List.set_cons_zero, List.set_cons_succ]))
    refine (pawake_any _).mono ?_
    rintro e w1 ⟨rfl, hb⟩
    replace hS := hS.call hb
    clear hb
    go_wp2_with (first
  | ((with_reducible refine to_box ?_); (first | refine Wl_box hS (fun _ => by rfl) _ rfl ?_ | refine Wl_box1 hS (fun _ => by rfl) (.int _ _) rfl rfl ?_ | refine Wl_box1 hS (fun _ => by rfl) (.bool _) rfl rfl ?_ | refine Wl_box1 hS (fun _ => by rfl) (.slice _ _ _) rfl rfl ?_ | refine Wl_box1 hS (fun _ => by rfl) (.pointer _) rfl rfl ?_); clear hS; intro b3 wW hS; simp only [Act.put, List.setIfInBounds_toArray, List.set_cons_zero, List.set_cons_succ])
  | ((with_reducible refine to_alloc 80 rfl ?_); refine Wl_alloc hS (fun _ => by rfl) _ zero80r ?_; clear hS; intro b9 wW hS; simp only [Act.put, List.setIfInBounds_toArray, List.set_cons_zero, List.set_cons_succ])
  | ((with_reducible refine to_load 80 rfl ?_); refine Wl_load hS (fun _ => by rfl) _ _ rfl _ Try.underlying80 rfl ?_; (repeat (first | (refine Row.here ⟨info80c _, ?_⟩) | refine Row.next ?_)); (with_reducible show wpList _ _ _ _ _ _); simp only [Act.put, List.setIfInBounds_toArray, List.set_cons_zero, List.set_cons_succ])
  | ((with_reducible refine to_store 80 rfl ?_); refine Wl_store hS (fun _ => by rfl) _ _ _ rfl rfl (info80c _) (pi_one _) ?_; (repeat (first | refine Turn.here rfl ?_ | refine Turn.next ?_)); clear hS; intro wW hS; try simp only [Act.put, List.setIfInBounds_toArray, List.set_cons_zero, List.set_cons_succ]))
    refine (L1.out _).mono ?_
    rintro e w1 ⟨rfl, hb⟩
    replace hS := hS.call hb
    clear hb
    go_wp2_with (first
  | ((with_reducible refine to_box ?_); (first | refine Wl_box hS (fun _ => by rfl) _ rfl ?_ | refine Wl_box1 hS (fun _ => by rfl) (.int _ _) rfl rfl ?_ | refine Wl_box1 hS (fun _ => by rfl) (.bool _) rfl rfl ?_ | refine Wl_box1 hS (fun _ => by rfl) (.slice _ _ _) rfl rfl ?_ | refine Wl_box1 hS (fun _ => by rfl) (.pointer _) rfl rfl ?_); clear hS; intro b3 wW hS; simp only [Act.put, List.setIfInBounds_toArray, List.set_cons_zero, List.set_cons_succ])
  | ((with_reducible refine to_alloc 80 rfl ?_); refine Wl_alloc hS (fun _ => by rfl) _ zero80r ?_; clear hS; intro b9 wW hS; simp only [Act.put, List.setIfInBounds_toArray, List.set_cons_zero, List.set_cons_succ])
  | ((with_reducible refine to_load 80 rfl ?_); refine Wl_load hS (fun _ => by rfl) _ _ rfl _ Try.underlying80 rfl ?_; (repeat (first | (refine Row.here ⟨info80c _, ?_⟩) | refine Row.next ?_)); (with_reducible show wpList _ _ _ _ _ _); simp only [Act.put, List.setIfInBounds_toArray, List.set_cons_zero, List.set_cons_succ])
  | ((with_reducible refine to_store 80 rfl ?_); refine Wl_store hS (fun _ => by rfl) _ _ _ rfl rfl (info80c _) (pi_one _) ?_; (repeat (first | refine Turn.here rfl ?_ | refine Turn.next ?_)); clear hS; intro wW hS; try simp only [Act.put, List.setIfInBounds_toArray, List.set_cons_zero, List.set_cons_succ]))
    refine wp_loop_rounds 4 ?_
    rw [rounds_succ]
    go_wp2_with (first
  | ((with_reducible refine to_box ?_); (first | refine Wl_box hS (fun _ => by rfl) _ rfl ?_ | refine Wl_box1 hS (fun _ => by rfl) (.int _ _) rfl rfl ?_ | refine Wl_box1 hS (fun _ => by rfl) (.bool _) rfl rfl ?_ | refine Wl_box1 hS (fun _ => by rfl) (.slice _ _ _) rfl rfl ?_ | refine Wl_box1 hS (fun _ => by rfl) (.pointer _) rfl rfl ?_); clear hS; intro b3 wW hS; simp only [Act.put, List.setIfInBounds_toArray, List.set_cons_zero, List.set_cons_succ])
  | ((with_reducible refine to_alloc 80 rfl ?_); refine Wl_alloc hS (fun _ => by rfl) _ zero80r ?_; clear hS; intro b9 wW hS; simp only [Act.put, List.setIfInBounds_toArray, List.set_cons_zero, List.set_cons_succ])
  | ((with_reducible refine to_load 80 rfl ?_); refine Wl_load hS (fun _ => by rfl) _ _ rfl _ Try.underlying80 rfl ?_; (repeat (first | (refine Row.here ⟨info80c _, ?_⟩) | refine Row.next ?_)); (with_reducible show wpList _ _ _ _ _ _); simp only [Act.put, List.setIfInBounds_toArray, List.set_cons_zero, List.set_cons_succ])
  | ((with_reducible refine to_store 80 rfl ?_); refine Wl_store hS (fun _ => by rfl) _ _ _ rfl rfl (info80c _) (pi_one _) ?_; (repeat (first | refine Turn.here rfl ?_ | refine Turn.next ?_)); clear hS; intro wW hS; try simp only [Act.put, List.setIfInBounds_toArray, List.set_cons_zero, List.set_cons_succ]))
    refine (PE0.out _).mono ?_
    rintro e w1 ⟨rfl, hb⟩
    replace hS := hS.call hb
    clear hb
    go_wp2_with (first
  | ((with_reducible refine to_box ?_); (first | refine Wl_box hS (fun _ => by rfl) _ rfl ?_ | refine Wl_box1 hS (fun _ => by rfl) (.int _ _) rfl rfl ?_ | refine Wl_box1 hS (fun _ => by rfl) (.bool _) rfl rfl ?_ | refine Wl_box1 hS (fun _ => by rfl) (.slice _ _ _) rfl rfl ?_ | refine Wl_box1 hS (fun _ => by rfl) (.pointer _) rfl rfl ?_); clear hS; intro b3 wW hS; simp only [Act.put, List.setIfInBounds_toArray, List.set_cons_zero, List.set_cons_succ])
  | ((with_reducible refine to_alloc 80 rfl ?_); refine Wl_alloc hS (fun _ => by rfl) _ zero80r ?_; clear hS; intro b9 wW hS; simp only [Act.put, List.setIfInBounds_toArray, List.set_cons_zero, List.set_cons_succ])
  | ((with_reducible refine to_load 80 rfl ?_); refine Wl_load hS (fun _ => by rfl) _ _ rfl _ Try.underlying80 rfl ?_; (repeat (first | (refine Row.here ⟨info80c _, ?_⟩) | refine Row.next ?_)); (with_reducible show wpList _ _ _ _ _ _); simp only [Act.put, List.setIfInBounds_toArray, List.set_cons_zero, List.set_cons_succ])
  | ((with_reducible refine to_store 80 rfl ?_); refine Wl_store hS (fun _ => by rfl) _ _ _ rfl rfl (info80c _) (pi_one _) ?_; (repeat (first | refine Turn.here rfl ?_ | refine Turn.next ?_)); clear hS; intro wW hS; try simp only [Act.put, List.setIfInBounds_toArray, List.set_cons_zero, List.set_cons_succ]))
    refine (AK0.out _).mono ?_
    rintro e w1 ⟨rfl, hb⟩
    replace hS := hS.call hb
    clear hb
    go_wp2_with (first
  | ((with_reducible refine to_box ?_); (first | refine Wl_box hS (fun _ => by rfl) _ rfl ?_ | refine Wl_box1 hS (fun _ => by rfl) (.int _ _) rfl rfl ?_ | refine Wl_box1 hS (fun _ => by rfl) (.bool _) rfl rfl ?_ | refine Wl_box1 hS (fun _ => by rfl) (.slice _ _ _) rfl rfl ?_ | refine Wl_box1 hS (fun _ => by rfl) (.pointer _) rfl rfl ?_); clear hS; intro b3 wW hS; simp only [Act.put, List.setIfInBounds_toArray, List.set_cons_zero, List.set_cons_succ])
  | ((with_reducible refine to_alloc 80 rfl ?_); refine Wl_alloc hS (fun _ => by rfl) _ zero80r ?_; clear hS; intro b9 wW hS; simp only [Act.put, List.setIfInBounds_toArray, List.set_cons_zero, List.set_cons_succ])
  | ((with_reducible refine to_load 80 rfl ?_); refine Wl_load hS (fun _ => by rfl) _ _ rfl _ Try.underlying80 rfl ?_; (repeat (first | (refine Row.here ⟨info80c _, ?_⟩) | refine Row.next ?_)); (with_reducible show wpList _ _ _ _ _ _); simp only [Act.put, List.setIfInBounds_toArray, List.set_cons_zero, List.set_cons_succ])
  | ((with_reducible refine to_store 80 rfl ?_); refine Wl_store hS (fun _ => by rfl) _ _ _ rfl rfl (info80c _) (pi_one _) ?_; (repeat (first | refine Turn.here rfl ?_ | refine Turn.next ?_)); clear hS; intro wW hS; try simp only [Act.put, List.setIfInBounds_toArray, List.set_cons_zero, List.set_cons_succ]))
    rw [rounds_succ]
    go_wp2_with (first
  | ((with_reducible refine to_box ?_); (first | refine Wl_box hS (fun _ => by rfl) _ rfl ?_ | refine Wl_box1 hS (fun _ => by rfl) (.int _ _) rfl rfl ?_ | refine Wl_box1 hS (fun _ => by rfl) (.bool _) rfl rfl ?_ | refine Wl_box1 hS (fun _ => by rfl) (.slice _ _ _) rfl rfl ?_ | refine Wl_box1 hS (fun _ => by rfl) (.pointer _) rfl rfl ?_); clear hS; intro b3 wW hS; simp only [Act.put, List.setIfInBounds_toArray, List.set_cons_zero, List.set_cons_succ])
  | ((with_reducible refine to_alloc 80 rfl ?_); refine Wl_alloc hS (fun _ => by rfl) _ zero80r ?_; clear hS; intro b9 wW hS; simp only [Act.put, List.setIfInBounds_toArray, List.set_cons_zero, List.set_cons_succ])
  | ((with_reducible refine to_load 80 rfl ?_); refine Wl_load hS (fun _ => by rfl) _ _ rfl _ Try.underlying80 rfl ?_; (repeat (first | (refine Row.here ⟨info80c _, ?_⟩) | refine Row.next ?_)); (with_reducible show wpList _ _ _ _ _ _); simp only [Act.put, List.setIfInBounds_toArray, List.set_cons_zero, List.set_cons_succ])
  | ((with_reducible refine to_store 80 rfl ?_); refine Wl_store hS (fun _ => by rfl) _ _ _ rfl rfl (info80c _) (pi_one _) ?_; (repeat (first | refine Turn.here rfl ?_ | refine Turn.next ?_)); clear hS; intro wW hS; try simp only [Act.put, List.setIfInBounds_toArray, List.set_cons_zero, List.set_cons_succ]))
    refine (PE1.out _).mono ?_
    rintro e w1 ⟨rfl, hb⟩
    replace hS := hS.call hb
    clear hb
    go_wp2_with (first
  | ((with_reducible refine to_box ?_); (first | refine Wl_box hS (fun _ => by rfl) _ rfl ?_ | refine Wl_box1 hS (fun _ => by rfl) (.int _ _) rfl rfl ?_ | refine Wl_box1 hS (fun _ => by rfl) (.bool _) rfl rfl ?_ | refine Wl_box1 hS (fun _ => by rfl) (.slice _ _ _) rfl rfl ?_ | refine Wl_box1 hS (fun _ => by rfl) (.pointer _) rfl rfl ?_); clear hS; intro b3 wW hS; simp only [Act.put, List.setIfInBounds_toArray, List.set_cons_zero, List.set_cons_succ])
  | ((with_reducible refine to_alloc 80 rfl ?_); refine Wl_alloc hS (fun _ => by rfl) _ zero80r ?_; clear hS; intro b9 wW hS; simp only [Act.put, List.setIfInBounds_toArray, List.set_cons_zero, List.set_cons_succ])
  | ((with_reducible refine to_load 80 rfl ?_); refine Wl_load hS (fun _ => by rfl) _ _ rfl _ Try.underlying80 rfl ?_; (repeat (first | (refine Row.here ⟨info80c _, ?_⟩) | refine Row.next ?_)); (with_reducible show wpList _ _ _ _ _ _); simp only [Act.put, List.setIfInBounds_toArray, List.set_cons_zero, List.set_cons_succ])
  | ((with_reducible refine to_store 80 rfl ?_); refine Wl_store hS (fun _ => by rfl) _ _ _ rfl rfl (info80c _) (pi_one _) ?_; (repeat (first | refine Turn.here rfl ?_ | refine Turn.next ?_)); clear hS; intro wW hS; try simp only [Act.put, List.setIfInBounds_toArray, List.set_cons_zero, List.set_cons_succ]))
    refine (AK1.out _).mono ?_
    rintro e w1 ⟨rfl, hb⟩
    replace hS := hS.call hb
    clear hb
    go_wp2_with (first
  | ((with_reducible refine to_box ?_); (first | refine Wl_box hS (fun _ => by rfl) _ rfl ?_ | refine Wl_box1 hS (fun _ => by rfl) (.int _ _) rfl rfl ?_ | refine Wl_box1 hS (fun _ => by rfl) (.bool _) rfl rfl ?_ | refine Wl_box1 hS (fun _ => by rfl) (.slice _ _ _) rfl rfl ?_ | refine Wl_box1 hS (fun _ => by rfl) (.pointer _) rfl rfl ?_); clear hS; intro b3 wW hS; simp only [Act.put, List.setIfInBounds_toArray, List.set_cons_zero, List.set_cons_succ])
  | ((with_reducible refine to_alloc 80 rfl ?_); refine Wl_alloc hS (fun _ => by rfl) _ zero80r ?_; clear hS; intro b9 wW hS; simp only [Act.put, List.setIfInBounds_toArray, List.set_cons_zero, List.set_cons_succ])
  | ((with_reducible refine to_load 80 rfl ?_); refine Wl_load hS (fun _ => by rfl) _ _ rfl _ Try.underlying80 rfl ?_; (repeat (first | (refine Row.here ⟨info80c _, ?_⟩) | refine Row.next ?_)); (with_reducible show wpList _ _ _ _ _ _); simp only [Act.put, List.setIfInBounds_toArray, List.set_cons_zero, List.set_cons_succ])
  | ((with_reducible refine to_store 80 rfl ?_); refine Wl_store hS (fun _ => by rfl) _ _ _ rfl rfl (info80c _) (pi_one _) ?_; (repeat (first | refine Turn.here rfl ?_ | refine Turn.next ?_)); clear hS; intro wW hS; try simp only [Act.put, List.setIfInBounds_toArray, List.set_cons_zero, List.set_cons_succ]))
    rw [rounds_succ]
    go_wp2_with (first
  | ((with_reducible refine to_box ?_); (first | refine Wl_box hS (fun _ => by rfl) _ rfl ?_ | refine Wl_box1 hS (fun _ => by rfl) (.int _ _) rfl rfl ?_ | refine Wl_box1 hS (fun _ => by rfl) (.bool _) rfl rfl ?_ | refine Wl_box1 hS (fun _ => by rfl) (.slice _ _ _) rfl rfl ?_ | refine Wl_box1 hS (fun _ => by rfl) (.pointer _) rfl rfl ?_); clear hS; intro b3 wW hS; simp only [Act.put, List.setIfInBounds_toArray, List.set_cons_zero, List.set_cons_succ])
  | ((with_reducible refine to_alloc 80 rfl ?_); refine Wl_alloc hS (fun _ => by rfl) _ zero80r ?_; clear hS; intro b9 wW hS; simp only [Act.put, List.setIfInBounds_toArray, List.set_cons_zero, List.set_cons_succ])
  | ((with_reducible refine to_load 80 rfl ?_); refine Wl_load hS (fun _ => by rfl) _ _ rfl _ Try.underlying80 rfl ?_; (repeat (first | (refine Row.here ⟨info80c _, ?_⟩) | refine Row.next ?_)); (with_reducible show wpList _ _ _ _ _ _); simp only [Act.put, List.setIfInBounds_toArray, List.set_cons_zero, List.set_cons_succ])
  | ((with_reducible refine to_store 80 rfl ?_); refine Wl_store hS (fun _ => by rfl) _ _ _ rfl rfl (info80c _) (pi_one _) ?_; (repeat (first | refine Turn.here rfl ?_ | refine Turn.next ?_)); clear hS; intro wW hS; try simp only [Act.put, List.setIfInBounds_toArray, List.set_cons_zero, List.set_cons_succ]))
    refine (PR.out _).mono ?_
    rintro e w1 ⟨rfl, hb⟩
    replace hS := hS.call hb
    clear hb
    go_wp2_with (first
  | ((with_reducible refine to_box ?_); (first | refine Wl_box hS (fun _ => by rfl) _ rfl ?_ | refine Wl_box1 hS (fun _ => by rfl) (.int _ _) rfl rfl ?_ | refine Wl_box1 hS (fun _ => by rfl) (.bool _) rfl rfl ?_ | refine Wl_box1 hS (fun _ => by rfl) (.slice _ _ _) rfl rfl ?_ | refine Wl_box1 hS (fun _ => by rfl) (.pointer _) rfl rfl ?_); clear hS; intro b3 wW hS; simp only [Act.put, List.setIfInBounds_toArray, List.set_cons_zero, List.set_cons_succ])
  | ((with_reducible refine to_alloc 80 rfl ?_); refine Wl_alloc hS (fun _ => by rfl) _ zero80r ?_; clear hS; intro b9 wW hS; simp only [Act.put, List.setIfInBounds_toArray, List.set_cons_zero, List.set_cons_succ])
  | ((with_reducible refine to_load 80 rfl ?_); refine Wl_load hS (fun _ => by rfl) _ _ rfl _ Try.underlying80 rfl ?_; (repeat (first | (refine Row.here ⟨info80c _, ?_⟩) | refine Row.next ?_)); (with_reducible show wpList _ _ _ _ _ _); simp only [Act.put, List.setIfInBounds_toArray, List.set_cons_zero, List.set_cons_succ])
  | ((with_reducible refine to_store 80 rfl ?_); refine Wl_store hS (fun _ => by rfl) _ _ _ rfl rfl (info80c _) (pi_one _) ?_; (repeat (first | refine Turn.here rfl ?_ | refine Turn.next ?_)); clear hS; intro wW hS; try simp only [Act.put, List.setIfInBounds_toArray, List.set_cons_zero, List.set_cons_succ]))
    refine (L2.out _).mono ?_
    rintro e w1 ⟨rfl, hb⟩
    replace hS := hS.call hb
    clear hb
    go_wp2_with (first
  | ((with_reducible refine to_box ?_); (first | refine Wl_box hS (fun _ => by rfl) _ rfl ?_ | refine Wl_box1 hS (fun _ => by rfl) (.int _ _) rfl rfl ?_ | refine Wl_box1 hS (fun _ => by rfl) (.bool _) rfl rfl ?_ | refine Wl_box1 hS (fun _ => by rfl) (.slice _ _ _) rfl rfl ?_ | refine Wl_box1 hS (fun _ => by rfl) (.pointer _) rfl rfl ?_); clear hS; intro b3 wW hS; simp only [Act.put, List.setIfInBounds_toArray, List.set_cons_zero, List.set_cons_succ])
  | ((with_reducible refine to_alloc 80 rfl ?_); refine Wl_alloc hS (fun _ => by rfl) _ zero80r ?_; clear hS; intro b9 wW hS; simp only [Act.put, List.setIfInBounds_toArray, List.set_cons_zero, List.set_cons_succ])
  | ((with_reducible refine to_load 80 rfl ?_); refine Wl_load hS (fun _ => by rfl) _ _ rfl _ Try.underlying80 rfl ?_; (repeat (first | (refine Row.here ⟨info80c _, ?_⟩) | refine Row.next ?_)); (with_reducible show wpList _ _ _ _ _ _); simp only [Act.put, List.setIfInBounds_toArray, List.set_cons_zero, List.set_cons_succ])
  | ((with_reducible refine to_store 80 rfl ?_); refine Wl_store hS (fun _ => by rfl) _ _ _ rfl rfl (info80c _) (pi_one _) ?_; (repeat (first | refine Turn.here rfl ?_ | refine Turn.next ?_)); clear hS; intro wW hS; try simp only [Act.put, List.setIfInBounds_toArray, List.set_cons_zero, List.set_cons_succ]))
    refine (PR.out _).mono ?_
    rintro e w1 ⟨rfl, hb⟩
    replace hS := hS.call hb
    clear hb
    go_wp2_with (first
  | ((with_reducible refine to_box ?_); (first | refine Wl_box hS (fun _ => by rfl) _ rfl ?_ | refine Wl_box1 hS (fun _ => by rfl) (.int _ _) rfl rfl ?_ | refine Wl_box1 hS (fun _ => by rfl) (.bool _) rfl rfl ?_ | refine Wl_box1 hS (fun _ => by rfl) (.slice _ _ _) rfl rfl ?_ | refine Wl_box1 hS (fun _ => by rfl) (.pointer _) rfl rfl ?_); clear hS; intro b3 wW hS; simp only [Act.put, List.setIfInBounds_toArray, List.set_cons_zero, List.set_cons_succ])
  | ((with_reducible refine to_alloc 80 rfl ?_); refine Wl_alloc hS (fun _ => by rfl) _ zero80r ?_; clear hS; intro b9 wW hS; simp only [Act.put, List.setIfInBounds_toArray, List.set_cons_zero, List.set_cons_succ])
  | ((with_reducible refine to_load 80 rfl ?_); refine Wl_load hS (fun _ => by rfl) _ _ rfl _ Try.underlying80 rfl ?_; (repeat (first | (refine Row.here ⟨info80c _, ?_⟩) | refine Row.next ?_)); (with_reducible show wpList _ _ _ _ _ _); simp only [Act.put, List.setIfInBounds_toArray, List.set_cons_zero, List.set_cons_succ])
  | ((with_reducible refine to_store 80 rfl ?_); refine Wl_store hS (fun _ => by rfl) _ _ _ rfl rfl (info80c _) (pi_one _) ?_; (repeat (first | refine Turn.here rfl ?_ | refine Turn.next ?_)); clear hS; intro wW hS; try simp only [Act.put, List.setIfInBounds_toArray, List.set_cons_zero, List.set_cons_succ]))
    refine (PR.out _).mono ?_
    rintro e w1 ⟨rfl, hb⟩
    replace hS := hS.call hb
    clear hb
    go_wp2_with (first
  | ((with_reducible refine to_box ?_); (first | refine Wl_box hS (fun _ => by rfl) _ rfl ?_ | refine Wl_box1 hS (fun _ => by rfl) (.int _ _) rfl rfl ?_ | refine Wl_box1 hS (fun _ => by rfl) (.bool _) rfl rfl ?_ | refine Wl_box1 hS (fun _ => by rfl) (.slice _ _ _) rfl rfl ?_ | refine Wl_box1 hS (fun _ => by rfl) (.pointer _) rfl rfl ?_); clear hS; intro b3 wW hS; simp only [Act.put, List.setIfInBounds_toArray, List.set_cons_zero, List.set_cons_succ])
  | ((with_reducible refine to_alloc 80 rfl ?_); refine Wl_alloc hS (fun _ => by rfl) _ zero80r ?_; clear hS; intro b9 wW hS; simp only [Act.put, List.setIfInBounds_toArray, List.set_cons_zero, List.set_cons_succ])
  | ((with_reducible refine to_load 80 rfl ?_); refine Wl_load hS (fun _ => by rfl) _ _ rfl _ Try.underlying80 rfl ?_; (repeat (first | (refine Row.here ⟨info80c _, ?_⟩) | refine Row.next ?_)); (with_reducible show wpList _ _ _ _ _ _); simp only [Act.put, List.setIfInBounds_toArray, List.set_cons_zero, List.set_cons_succ])
  | ((with_reducible refine to_store 80 rfl ?_); refine Wl_store hS (fun _ => by rfl) _ _ _ rfl rfl (info80c _) (pi_one _) ?_; (repeat (first | refine Turn.here rfl ?_ | refine Turn.next ?_)); clear hS; intro wW hS; try simp only [Act.put, List.setIfInBounds_toArray, List.set_cons_zero, List.set_cons_succ]))
    go_returns
    exact ⟨rfl, hS.below⟩
end Go.Proofs.Ytmoafjgogbcoeaa
