/- The reference's take (charabancref21), by its contract. -/
import Derived.Test.YtkkkjdbcckaedaaRgRef2
namespace Go.Proofs.Ytkkkjdbcckaedaa
open Go.RowKit
set_option linter.unusedVariables false
set_option linter.unusedSimpArgs false
set_option maxRecDepth 100000
/-- A slice's copy. -/
theorem rwantedCopy (A1 : Option Addr) (c1 : Nat) (L1 : List Int) (hL : L1.length ≤ 10000) (w : World) (r1 : Ls 0 w (.slice A1 L1.length c1) (ints .i64 L1)) :
    Calls Try.prog 74 #[.slice A1 L1.length c1, .int .u8 0, .int .i64 0, .slice none 0 0] w fun e w' => ∃ A c, e = .returned (.slice A L1.length c) ∧ Ls w.heap.size w' (.slice A L1.length c) (ints .i64 L1) ∧ Below w.heap.size w w' := by
  have := rwantedN A1 c1 L1 0 0 0 0 none 0 (by decide) (by decide) (by decide) (by decide) (by decide) (by decide) hL w r1 (Ls.nil _ _ _ _ (Nat.zero_le _))
  simpa [M.rWants] using this
set_option maxHeartbeats 16000000 in
theorem rtake_any (r : M.Rg) (hr : r.ok) (k : Int) (rest : List Int) (hL : rest.length ≤ 9000) (bq q c : Nat) (b : Int) (h0 : 0 ≤ b) (h1 : b ≤ 255) (w : World) (r1 : Ls 0 w (.slice (some ⟨bq, q, none⟩) (rest.length + 1) c) (ints .i64 (k :: rest))) :
    Calls Try.prog 72 #[.agg (r.c (.slice (some ⟨bq, q, none⟩) (rest.length + 1) c)), .int .u8 b] w fun e w' => ∃ A' c', e = .returned (.agg ((M.rTake r b k rest).c (.slice A' (M.rTake r b k rest).want.length c'))) ∧ Ls w.heap.size w' (.slice A' (M.rTake r b k rest).want.length c') (ints .i64 (M.rTake r b k rest).want) ∧ Below w.heap.size w w' := by
  have hS := St.start w.heap.size 0 0 w
  obtain ⟨b', q', c', hs, h2, h3, hcell⟩ := r1.at_ (i := 0) (by simp)
  simp only [Value.slice.injEq, Option.some.injEq, Addr.mk.injEq, List.length_cons] at hs h3
  obtain ⟨⟨rfl, rfl, -⟩, -, rfl⟩ := hs
  replace hS := hS.one hcell
  simp only [Nat.add_zero, List.getD_cons_zero] at hS
  clear hcell h2
  replace hL : rest.length ≤ 10000 := by omega
  have hc1 : (1 : Int) ≤ ((rest.length : Nat) : Int) + 1 := by omega
  have hc2 : ((rest.length : Nat) : Int) + 1 ≤ (c : Int) := by omega
  have ha := hr.a
  have hrb := hr.b
  have hlen := hr.len
  clear hr
  by_cases k1 : k = 1
  · subst k1
    have e1 : M.rTake r b 1 rest = { r with want := rest, a := M.lowW r.a b } := by unfold M.rTake; simp
    rw [e1]
    clear e1
    by_cases hcc : c = 1
    case' pos =>
      have hrr : rest = [] := List.eq_nil_of_length_eq_zero (by omega)
      subst hrr
    all_goals
      go_enter Try.func72, Try.ntmps72
      go_wp2_with (first
  | ((with_reducible refine to_boxT 40 rfl ?_); refine Wl_box hS (fun _ => by rfl) _ rfl ?_; clear hS; intro b2 wW hS; simp only [nA])
  | ((with_reducible refine to_alloc 40 rfl ?_); refine Wl_alloc hS (fun _ => by rfl) _ rrgZ ?_; clear hS; intro b4 wW hS; simp only [nA])
  | ((with_reducible first | refine to_load 3 rfl ?_ | refine to_load 4 rfl ?_ | refine to_load 5 rfl ?_ | refine to_load 24 rfl ?_ | refine to_load 25 rfl ?_); refine Wl_load1 hS (fun _ => by rfl) _ _ rfl (scT _ rfl) ?_; (repeat (first | refine Look.here (of_decide_eq_true rfl) rfl ?_ | refine Look.self rfl ?_ | refine Look.next ?_)); (with_reducible show wpList _ _ _ _ _ _); simp only [nA])
  | ((with_reducible first | refine to_store 3 rfl ?_ | refine to_store 4 rfl ?_ | refine to_store 5 rfl ?_ | refine to_store 24 rfl ?_ | refine to_store 25 rfl ?_); (first | refine Wl_store1 hS (fun _ => by rfl) _ _ (.int _ _) rfl rfl (scT _ rfl) rfl rfl ?_ | refine Wl_store1 hS (fun _ => by rfl) _ _ (.bool _) rfl rfl (scT _ rfl) rfl rfl ?_ | refine Wl_store1 hS (fun _ => by rfl) _ _ (.slice _ _ _) rfl rfl (scT _ rfl) rfl rfl ?_); (repeat (first | refine Turn1.here (of_decide_eq_true rfl) (of_decide_eq_true rfl) ?_ | refine Turn1.next ?_)); clear hS; intro wW hS; (try simp only [nA]); try simp only [Nat.sub_zero, Nat.add_zero, Nat.zero_add, Nat.reduceSub, Nat.add_sub_cancel_left, rg_ss] at hS)
  | ((with_reducible refine to_load 40 rfl ?_); refine Wl_load hS (fun _ => by rfl) _ _ rfl _ Try.underlying40 rfl ?_; (repeat (first | (refine Row.here ⟨rrgI.trans rfl, ?_⟩) | refine Row.next ?_)); (with_reducible show wpList _ _ _ _ _ _); simp only [nA])
  | ((with_reducible refine to_store 40 rfl ?_); refine Wl_store hS (fun _ => by rfl) _ _ _ rfl rfl (rrgI.trans rfl) (rg_one _ _ _ _) ?_; (repeat (first | refine Turn.here rfl ?_ | refine Turn.next ?_)); clear hS; intro wW hS; try simp only [nA]))
      (first | refine (rwantedCopy _ _ rest hL _ (r1.tail.below hS.below)).mono ?_ | refine (rwantedCopy _ _ [] (by decide) _ (Ls.nil _ _ _ _ (Nat.zero_le _))).mono ?_)
      rintro e w1 ⟨A1, c1, rfl, hl, hb⟩
      have hfA1 := fun e he => Nat.le_trans hS.size (hl.ent e he).1
      replace hS := hS.callN hb hl
      simp only [List.cons_append, List.nil_append] at hS
      have hshA1 := hl.shp
      clear hb hl
      go_wp2_with (first
  | ((with_reducible refine to_boxT 40 rfl ?_); refine Wl_box hS (fun _ => by rfl) _ rfl ?_; clear hS; intro b2 wW hS; simp only [nA])
  | ((with_reducible refine to_alloc 40 rfl ?_); refine Wl_alloc hS (fun _ => by rfl) _ rrgZ ?_; clear hS; intro b4 wW hS; simp only [nA])
  | ((with_reducible first | refine to_load 3 rfl ?_ | refine to_load 4 rfl ?_ | refine to_load 5 rfl ?_ | refine to_load 24 rfl ?_ | refine to_load 25 rfl ?_); refine Wl_load1 hS (fun _ => by rfl) _ _ rfl (scT _ rfl) ?_; (repeat (first | refine Look.here (of_decide_eq_true rfl) rfl ?_ | refine Look.self rfl ?_ | refine Look.next ?_)); (with_reducible show wpList _ _ _ _ _ _); simp only [nA])
  | ((with_reducible first | refine to_store 3 rfl ?_ | refine to_store 4 rfl ?_ | refine to_store 5 rfl ?_ | refine to_store 24 rfl ?_ | refine to_store 25 rfl ?_); (first | refine Wl_store1 hS (fun _ => by rfl) _ _ (.int _ _) rfl rfl (scT _ rfl) rfl rfl ?_ | refine Wl_store1 hS (fun _ => by rfl) _ _ (.bool _) rfl rfl (scT _ rfl) rfl rfl ?_ | refine Wl_store1 hS (fun _ => by rfl) _ _ (.slice _ _ _) rfl rfl (scT _ rfl) rfl rfl ?_); (repeat (first | refine Turn1.here (of_decide_eq_true rfl) (of_decide_eq_true rfl) ?_ | refine Turn1.next ?_)); clear hS; intro wW hS; (try simp only [nA]); try simp only [Nat.sub_zero, Nat.add_zero, Nat.zero_add, Nat.reduceSub, Nat.add_sub_cancel_left, rg_ss] at hS)
  | ((with_reducible refine to_load 40 rfl ?_); refine Wl_load hS (fun _ => by rfl) _ _ rfl _ Try.underlying40 rfl ?_; (repeat (first | (refine Row.here ⟨rrgI.trans rfl, ?_⟩) | refine Row.next ?_)); (with_reducible show wpList _ _ _ _ _ _); simp only [nA])
  | ((with_reducible refine to_store 40 rfl ?_); refine Wl_store hS (fun _ => by rfl) _ _ _ rfl rfl (rrgI.trans rfl) (rg_one _ _ _ _) ?_; (repeat (first | refine Turn.here rfl ?_ | refine Turn.next ?_)); clear hS; intro wW hS; try simp only [nA]))
    all_goals
      refine (rlower_any r.a b ha.1 ha.2 h0 h1 _).mono ?_
      rintro e w1 ⟨rfl, rfl⟩
      go_wp2_with (first
  | ((with_reducible refine to_boxT 40 rfl ?_); refine Wl_box hS (fun _ => by rfl) _ rfl ?_; clear hS; intro b2 wW hS; simp only [nA])
  | ((with_reducible refine to_alloc 40 rfl ?_); refine Wl_alloc hS (fun _ => by rfl) _ rrgZ ?_; clear hS; intro b4 wW hS; simp only [nA])
  | ((with_reducible first | refine to_load 3 rfl ?_ | refine to_load 4 rfl ?_ | refine to_load 5 rfl ?_ | refine to_load 24 rfl ?_ | refine to_load 25 rfl ?_); refine Wl_load1 hS (fun _ => by rfl) _ _ rfl (scT _ rfl) ?_; (repeat (first | refine Look.here (of_decide_eq_true rfl) rfl ?_ | refine Look.self rfl ?_ | refine Look.next ?_)); (with_reducible show wpList _ _ _ _ _ _); simp only [nA])
  | ((with_reducible first | refine to_store 3 rfl ?_ | refine to_store 4 rfl ?_ | refine to_store 5 rfl ?_ | refine to_store 24 rfl ?_ | refine to_store 25 rfl ?_); (first | refine Wl_store1 hS (fun _ => by rfl) _ _ (.int _ _) rfl rfl (scT _ rfl) rfl rfl ?_ | refine Wl_store1 hS (fun _ => by rfl) _ _ (.bool _) rfl rfl (scT _ rfl) rfl rfl ?_ | refine Wl_store1 hS (fun _ => by rfl) _ _ (.slice _ _ _) rfl rfl (scT _ rfl) rfl rfl ?_); (repeat (first | refine Turn1.here (of_decide_eq_true rfl) (of_decide_eq_true rfl) ?_ | refine Turn1.next ?_)); clear hS; intro wW hS; (try simp only [nA]); try simp only [Nat.sub_zero, Nat.add_zero, Nat.zero_add, Nat.reduceSub, Nat.add_sub_cancel_left, rg_ss] at hS)
  | ((with_reducible refine to_load 40 rfl ?_); refine Wl_load hS (fun _ => by rfl) _ _ rfl _ Try.underlying40 rfl ?_; (repeat (first | (refine Row.here ⟨rrgI.trans rfl, ?_⟩) | refine Row.next ?_)); (with_reducible show wpList _ _ _ _ _ _); simp only [nA])
  | ((with_reducible refine to_store 40 rfl ?_); refine Wl_store hS (fun _ => by rfl) _ _ _ rfl rfl (rrgI.trans rfl) (rg_one _ _ _ _) ?_; (repeat (first | refine Turn.here rfl ?_ | refine Turn.next ?_)); clear hS; intro wW hS; try simp only [nA]))
      refine ret_st hS rfl _ _ rfl rfl _ Try.underlying40 rfl ?_
      repeat (first | (refine Row.here ⟨rrgI.trans rfl, ?_⟩) | refine Row.next ?_)
      exact ⟨A1, c1, rfl, hS.lsF hshA1 hfA1 (fun e he => by repeat (first | exact he | exact List.mem_append_right _ he | exact List.mem_append_left _ he | refine List.Mem.tail _ ?_)), hS.below⟩
  by_cases k2 : k = 2
  · subst k2
    have e1 : M.rTake r b 2 rest = { r with want := rest, a := M.highW r.a b } := by unfold M.rTake; simp
    rw [e1]
    clear e1
    by_cases hcc : c = 1
    case' pos =>
      have hrr : rest = [] := List.eq_nil_of_length_eq_zero (by omega)
      subst hrr
    all_goals
      go_enter Try.func72, Try.ntmps72
      go_wp2_with (first
  | ((with_reducible refine to_boxT 40 rfl ?_); refine Wl_box hS (fun _ => by rfl) _ rfl ?_; clear hS; intro b2 wW hS; simp only [nA])
  | ((with_reducible refine to_alloc 40 rfl ?_); refine Wl_alloc hS (fun _ => by rfl) _ rrgZ ?_; clear hS; intro b4 wW hS; simp only [nA])
  | ((with_reducible first | refine to_load 3 rfl ?_ | refine to_load 4 rfl ?_ | refine to_load 5 rfl ?_ | refine to_load 24 rfl ?_ | refine to_load 25 rfl ?_); refine Wl_load1 hS (fun _ => by rfl) _ _ rfl (scT _ rfl) ?_; (repeat (first | refine Look.here (of_decide_eq_true rfl) rfl ?_ | refine Look.self rfl ?_ | refine Look.next ?_)); (with_reducible show wpList _ _ _ _ _ _); simp only [nA])
  | ((with_reducible first | refine to_store 3 rfl ?_ | refine to_store 4 rfl ?_ | refine to_store 5 rfl ?_ | refine to_store 24 rfl ?_ | refine to_store 25 rfl ?_); (first | refine Wl_store1 hS (fun _ => by rfl) _ _ (.int _ _) rfl rfl (scT _ rfl) rfl rfl ?_ | refine Wl_store1 hS (fun _ => by rfl) _ _ (.bool _) rfl rfl (scT _ rfl) rfl rfl ?_ | refine Wl_store1 hS (fun _ => by rfl) _ _ (.slice _ _ _) rfl rfl (scT _ rfl) rfl rfl ?_); (repeat (first | refine Turn1.here (of_decide_eq_true rfl) (of_decide_eq_true rfl) ?_ | refine Turn1.next ?_)); clear hS; intro wW hS; (try simp only [nA]); try simp only [Nat.sub_zero, Nat.add_zero, Nat.zero_add, Nat.reduceSub, Nat.add_sub_cancel_left, rg_ss] at hS)
  | ((with_reducible refine to_load 40 rfl ?_); refine Wl_load hS (fun _ => by rfl) _ _ rfl _ Try.underlying40 rfl ?_; (repeat (first | (refine Row.here ⟨rrgI.trans rfl, ?_⟩) | refine Row.next ?_)); (with_reducible show wpList _ _ _ _ _ _); simp only [nA])
  | ((with_reducible refine to_store 40 rfl ?_); refine Wl_store hS (fun _ => by rfl) _ _ _ rfl rfl (rrgI.trans rfl) (rg_one _ _ _ _) ?_; (repeat (first | refine Turn.here rfl ?_ | refine Turn.next ?_)); clear hS; intro wW hS; try simp only [nA]))
      (first | refine (rwantedCopy _ _ rest hL _ (r1.tail.below hS.below)).mono ?_ | refine (rwantedCopy _ _ [] (by decide) _ (Ls.nil _ _ _ _ (Nat.zero_le _))).mono ?_)
      rintro e w1 ⟨A1, c1, rfl, hl, hb⟩
      have hfA1 := fun e he => Nat.le_trans hS.size (hl.ent e he).1
      replace hS := hS.callN hb hl
      simp only [List.cons_append, List.nil_append] at hS
      have hshA1 := hl.shp
      clear hb hl
      go_wp2_with (first
  | ((with_reducible refine to_boxT 40 rfl ?_); refine Wl_box hS (fun _ => by rfl) _ rfl ?_; clear hS; intro b2 wW hS; simp only [nA])
  | ((with_reducible refine to_alloc 40 rfl ?_); refine Wl_alloc hS (fun _ => by rfl) _ rrgZ ?_; clear hS; intro b4 wW hS; simp only [nA])
  | ((with_reducible first | refine to_load 3 rfl ?_ | refine to_load 4 rfl ?_ | refine to_load 5 rfl ?_ | refine to_load 24 rfl ?_ | refine to_load 25 rfl ?_); refine Wl_load1 hS (fun _ => by rfl) _ _ rfl (scT _ rfl) ?_; (repeat (first | refine Look.here (of_decide_eq_true rfl) rfl ?_ | refine Look.self rfl ?_ | refine Look.next ?_)); (with_reducible show wpList _ _ _ _ _ _); simp only [nA])
  | ((with_reducible first | refine to_store 3 rfl ?_ | refine to_store 4 rfl ?_ | refine to_store 5 rfl ?_ | refine to_store 24 rfl ?_ | refine to_store 25 rfl ?_); (first | refine Wl_store1 hS (fun _ => by rfl) _ _ (.int _ _) rfl rfl (scT _ rfl) rfl rfl ?_ | refine Wl_store1 hS (fun _ => by rfl) _ _ (.bool _) rfl rfl (scT _ rfl) rfl rfl ?_ | refine Wl_store1 hS (fun _ => by rfl) _ _ (.slice _ _ _) rfl rfl (scT _ rfl) rfl rfl ?_); (repeat (first | refine Turn1.here (of_decide_eq_true rfl) (of_decide_eq_true rfl) ?_ | refine Turn1.next ?_)); clear hS; intro wW hS; (try simp only [nA]); try simp only [Nat.sub_zero, Nat.add_zero, Nat.zero_add, Nat.reduceSub, Nat.add_sub_cancel_left, rg_ss] at hS)
  | ((with_reducible refine to_load 40 rfl ?_); refine Wl_load hS (fun _ => by rfl) _ _ rfl _ Try.underlying40 rfl ?_; (repeat (first | (refine Row.here ⟨rrgI.trans rfl, ?_⟩) | refine Row.next ?_)); (with_reducible show wpList _ _ _ _ _ _); simp only [nA])
  | ((with_reducible refine to_store 40 rfl ?_); refine Wl_store hS (fun _ => by rfl) _ _ _ rfl rfl (rrgI.trans rfl) (rg_one _ _ _ _) ?_; (repeat (first | refine Turn.here rfl ?_ | refine Turn.next ?_)); clear hS; intro wW hS; try simp only [nA]))
    all_goals
      refine (rhigher_any r.a b ha.1 ha.2 h0 h1 _).mono ?_
      rintro e w1 ⟨rfl, rfl⟩
      go_wp2_with (first
  | ((with_reducible refine to_boxT 40 rfl ?_); refine Wl_box hS (fun _ => by rfl) _ rfl ?_; clear hS; intro b2 wW hS; simp only [nA])
  | ((with_reducible refine to_alloc 40 rfl ?_); refine Wl_alloc hS (fun _ => by rfl) _ rrgZ ?_; clear hS; intro b4 wW hS; simp only [nA])
  | ((with_reducible first | refine to_load 3 rfl ?_ | refine to_load 4 rfl ?_ | refine to_load 5 rfl ?_ | refine to_load 24 rfl ?_ | refine to_load 25 rfl ?_); refine Wl_load1 hS (fun _ => by rfl) _ _ rfl (scT _ rfl) ?_; (repeat (first | refine Look.here (of_decide_eq_true rfl) rfl ?_ | refine Look.self rfl ?_ | refine Look.next ?_)); (with_reducible show wpList _ _ _ _ _ _); simp only [nA])
  | ((with_reducible first | refine to_store 3 rfl ?_ | refine to_store 4 rfl ?_ | refine to_store 5 rfl ?_ | refine to_store 24 rfl ?_ | refine to_store 25 rfl ?_); (first | refine Wl_store1 hS (fun _ => by rfl) _ _ (.int _ _) rfl rfl (scT _ rfl) rfl rfl ?_ | refine Wl_store1 hS (fun _ => by rfl) _ _ (.bool _) rfl rfl (scT _ rfl) rfl rfl ?_ | refine Wl_store1 hS (fun _ => by rfl) _ _ (.slice _ _ _) rfl rfl (scT _ rfl) rfl rfl ?_); (repeat (first | refine Turn1.here (of_decide_eq_true rfl) (of_decide_eq_true rfl) ?_ | refine Turn1.next ?_)); clear hS; intro wW hS; (try simp only [nA]); try simp only [Nat.sub_zero, Nat.add_zero, Nat.zero_add, Nat.reduceSub, Nat.add_sub_cancel_left, rg_ss] at hS)
  | ((with_reducible refine to_load 40 rfl ?_); refine Wl_load hS (fun _ => by rfl) _ _ rfl _ Try.underlying40 rfl ?_; (repeat (first | (refine Row.here ⟨rrgI.trans rfl, ?_⟩) | refine Row.next ?_)); (with_reducible show wpList _ _ _ _ _ _); simp only [nA])
  | ((with_reducible refine to_store 40 rfl ?_); refine Wl_store hS (fun _ => by rfl) _ _ _ rfl rfl (rrgI.trans rfl) (rg_one _ _ _ _) ?_; (repeat (first | refine Turn.here rfl ?_ | refine Turn.next ?_)); clear hS; intro wW hS; try simp only [nA]))
      refine ret_st hS rfl _ _ rfl rfl _ Try.underlying40 rfl ?_
      repeat (first | (refine Row.here ⟨rrgI.trans rfl, ?_⟩) | refine Row.next ?_)
      exact ⟨A1, c1, rfl, hS.lsF hshA1 hfA1 (fun e he => by repeat (first | exact he | exact List.mem_append_right _ he | exact List.mem_append_left _ he | refine List.Mem.tail _ ?_)), hS.below⟩
  by_cases k3 : k = 3
  · subst k3
    have e1 : M.rTake r b 3 rest = { r with want := rest, len := M.lowW r.len b } := by unfold M.rTake; simp
    rw [e1]
    clear e1
    by_cases hcc : c = 1
    case' pos =>
      have hrr : rest = [] := List.eq_nil_of_length_eq_zero (by omega)
      subst hrr
    all_goals
      go_enter Try.func72, Try.ntmps72
      go_wp2_with (first
  | ((with_reducible refine to_boxT 40 rfl ?_); refine Wl_box hS (fun _ => by rfl) _ rfl ?_; clear hS; intro b2 wW hS; simp only [nA])
  | ((with_reducible refine to_alloc 40 rfl ?_); refine Wl_alloc hS (fun _ => by rfl) _ rrgZ ?_; clear hS; intro b4 wW hS; simp only [nA])
  | ((with_reducible first | refine to_load 3 rfl ?_ | refine to_load 4 rfl ?_ | refine to_load 5 rfl ?_ | refine to_load 24 rfl ?_ | refine to_load 25 rfl ?_); refine Wl_load1 hS (fun _ => by rfl) _ _ rfl (scT _ rfl) ?_; (repeat (first | refine Look.here (of_decide_eq_true rfl) rfl ?_ | refine Look.self rfl ?_ | refine Look.next ?_)); (with_reducible show wpList _ _ _ _ _ _); simp only [nA])
  | ((with_reducible first | refine to_store 3 rfl ?_ | refine to_store 4 rfl ?_ | refine to_store 5 rfl ?_ | refine to_store 24 rfl ?_ | refine to_store 25 rfl ?_); (first | refine Wl_store1 hS (fun _ => by rfl) _ _ (.int _ _) rfl rfl (scT _ rfl) rfl rfl ?_ | refine Wl_store1 hS (fun _ => by rfl) _ _ (.bool _) rfl rfl (scT _ rfl) rfl rfl ?_ | refine Wl_store1 hS (fun _ => by rfl) _ _ (.slice _ _ _) rfl rfl (scT _ rfl) rfl rfl ?_); (repeat (first | refine Turn1.here (of_decide_eq_true rfl) (of_decide_eq_true rfl) ?_ | refine Turn1.next ?_)); clear hS; intro wW hS; (try simp only [nA]); try simp only [Nat.sub_zero, Nat.add_zero, Nat.zero_add, Nat.reduceSub, Nat.add_sub_cancel_left, rg_ss] at hS)
  | ((with_reducible refine to_load 40 rfl ?_); refine Wl_load hS (fun _ => by rfl) _ _ rfl _ Try.underlying40 rfl ?_; (repeat (first | (refine Row.here ⟨rrgI.trans rfl, ?_⟩) | refine Row.next ?_)); (with_reducible show wpList _ _ _ _ _ _); simp only [nA])
  | ((with_reducible refine to_store 40 rfl ?_); refine Wl_store hS (fun _ => by rfl) _ _ _ rfl rfl (rrgI.trans rfl) (rg_one _ _ _ _) ?_; (repeat (first | refine Turn.here rfl ?_ | refine Turn.next ?_)); clear hS; intro wW hS; try simp only [nA]))
      (first | refine (rwantedCopy _ _ rest hL _ (r1.tail.below hS.below)).mono ?_ | refine (rwantedCopy _ _ [] (by decide) _ (Ls.nil _ _ _ _ (Nat.zero_le _))).mono ?_)
      rintro e w1 ⟨A1, c1, rfl, hl, hb⟩
      have hfA1 := fun e he => Nat.le_trans hS.size (hl.ent e he).1
      replace hS := hS.callN hb hl
      simp only [List.cons_append, List.nil_append] at hS
      have hshA1 := hl.shp
      clear hb hl
      go_wp2_with (first
  | ((with_reducible refine to_boxT 40 rfl ?_); refine Wl_box hS (fun _ => by rfl) _ rfl ?_; clear hS; intro b2 wW hS; simp only [nA])
  | ((with_reducible refine to_alloc 40 rfl ?_); refine Wl_alloc hS (fun _ => by rfl) _ rrgZ ?_; clear hS; intro b4 wW hS; simp only [nA])
  | ((with_reducible first | refine to_load 3 rfl ?_ | refine to_load 4 rfl ?_ | refine to_load 5 rfl ?_ | refine to_load 24 rfl ?_ | refine to_load 25 rfl ?_); refine Wl_load1 hS (fun _ => by rfl) _ _ rfl (scT _ rfl) ?_; (repeat (first | refine Look.here (of_decide_eq_true rfl) rfl ?_ | refine Look.self rfl ?_ | refine Look.next ?_)); (with_reducible show wpList _ _ _ _ _ _); simp only [nA])
  | ((with_reducible first | refine to_store 3 rfl ?_ | refine to_store 4 rfl ?_ | refine to_store 5 rfl ?_ | refine to_store 24 rfl ?_ | refine to_store 25 rfl ?_); (first | refine Wl_store1 hS (fun _ => by rfl) _ _ (.int _ _) rfl rfl (scT _ rfl) rfl rfl ?_ | refine Wl_store1 hS (fun _ => by rfl) _ _ (.bool _) rfl rfl (scT _ rfl) rfl rfl ?_ | refine Wl_store1 hS (fun _ => by rfl) _ _ (.slice _ _ _) rfl rfl (scT _ rfl) rfl rfl ?_); (repeat (first | refine Turn1.here (of_decide_eq_true rfl) (of_decide_eq_true rfl) ?_ | refine Turn1.next ?_)); clear hS; intro wW hS; (try simp only [nA]); try simp only [Nat.sub_zero, Nat.add_zero, Nat.zero_add, Nat.reduceSub, Nat.add_sub_cancel_left, rg_ss] at hS)
  | ((with_reducible refine to_load 40 rfl ?_); refine Wl_load hS (fun _ => by rfl) _ _ rfl _ Try.underlying40 rfl ?_; (repeat (first | (refine Row.here ⟨rrgI.trans rfl, ?_⟩) | refine Row.next ?_)); (with_reducible show wpList _ _ _ _ _ _); simp only [nA])
  | ((with_reducible refine to_store 40 rfl ?_); refine Wl_store hS (fun _ => by rfl) _ _ _ rfl rfl (rrgI.trans rfl) (rg_one _ _ _ _) ?_; (repeat (first | refine Turn.here rfl ?_ | refine Turn.next ?_)); clear hS; intro wW hS; try simp only [nA]))
    all_goals
      refine (rlower_any r.len b hlen.1 hlen.2 h0 h1 _).mono ?_
      rintro e w1 ⟨rfl, rfl⟩
      go_wp2_with (first
  | ((with_reducible refine to_boxT 40 rfl ?_); refine Wl_box hS (fun _ => by rfl) _ rfl ?_; clear hS; intro b2 wW hS; simp only [nA])
  | ((with_reducible refine to_alloc 40 rfl ?_); refine Wl_alloc hS (fun _ => by rfl) _ rrgZ ?_; clear hS; intro b4 wW hS; simp only [nA])
  | ((with_reducible first | refine to_load 3 rfl ?_ | refine to_load 4 rfl ?_ | refine to_load 5 rfl ?_ | refine to_load 24 rfl ?_ | refine to_load 25 rfl ?_); refine Wl_load1 hS (fun _ => by rfl) _ _ rfl (scT _ rfl) ?_; (repeat (first | refine Look.here (of_decide_eq_true rfl) rfl ?_ | refine Look.self rfl ?_ | refine Look.next ?_)); (with_reducible show wpList _ _ _ _ _ _); simp only [nA])
  | ((with_reducible first | refine to_store 3 rfl ?_ | refine to_store 4 rfl ?_ | refine to_store 5 rfl ?_ | refine to_store 24 rfl ?_ | refine to_store 25 rfl ?_); (first | refine Wl_store1 hS (fun _ => by rfl) _ _ (.int _ _) rfl rfl (scT _ rfl) rfl rfl ?_ | refine Wl_store1 hS (fun _ => by rfl) _ _ (.bool _) rfl rfl (scT _ rfl) rfl rfl ?_ | refine Wl_store1 hS (fun _ => by rfl) _ _ (.slice _ _ _) rfl rfl (scT _ rfl) rfl rfl ?_); (repeat (first | refine Turn1.here (of_decide_eq_true rfl) (of_decide_eq_true rfl) ?_ | refine Turn1.next ?_)); clear hS; intro wW hS; (try simp only [nA]); try simp only [Nat.sub_zero, Nat.add_zero, Nat.zero_add, Nat.reduceSub, Nat.add_sub_cancel_left, rg_ss] at hS)
  | ((with_reducible refine to_load 40 rfl ?_); refine Wl_load hS (fun _ => by rfl) _ _ rfl _ Try.underlying40 rfl ?_; (repeat (first | (refine Row.here ⟨rrgI.trans rfl, ?_⟩) | refine Row.next ?_)); (with_reducible show wpList _ _ _ _ _ _); simp only [nA])
  | ((with_reducible refine to_store 40 rfl ?_); refine Wl_store hS (fun _ => by rfl) _ _ _ rfl rfl (rrgI.trans rfl) (rg_one _ _ _ _) ?_; (repeat (first | refine Turn.here rfl ?_ | refine Turn.next ?_)); clear hS; intro wW hS; try simp only [nA]))
      refine ret_st hS rfl _ _ rfl rfl _ Try.underlying40 rfl ?_
      repeat (first | (refine Row.here ⟨rrgI.trans rfl, ?_⟩) | refine Row.next ?_)
      exact ⟨A1, c1, rfl, hS.lsF hshA1 hfA1 (fun e he => by repeat (first | exact he | exact List.mem_append_right _ he | exact List.mem_append_left _ he | refine List.Mem.tail _ ?_)), hS.below⟩
  by_cases k4 : k = 4
  · subst k4
    have e1 : M.rTake r b 4 rest = { r with want := rest, len := M.highW r.len b } := by unfold M.rTake; simp
    rw [e1]
    clear e1
    by_cases hcc : c = 1
    case' pos =>
      have hrr : rest = [] := List.eq_nil_of_length_eq_zero (by omega)
      subst hrr
    all_goals
      go_enter Try.func72, Try.ntmps72
      go_wp2_with (first
  | ((with_reducible refine to_boxT 40 rfl ?_); refine Wl_box hS (fun _ => by rfl) _ rfl ?_; clear hS; intro b2 wW hS; simp only [nA])
  | ((with_reducible refine to_alloc 40 rfl ?_); refine Wl_alloc hS (fun _ => by rfl) _ rrgZ ?_; clear hS; intro b4 wW hS; simp only [nA])
  | ((with_reducible first | refine to_load 3 rfl ?_ | refine to_load 4 rfl ?_ | refine to_load 5 rfl ?_ | refine to_load 24 rfl ?_ | refine to_load 25 rfl ?_); refine Wl_load1 hS (fun _ => by rfl) _ _ rfl (scT _ rfl) ?_; (repeat (first | refine Look.here (of_decide_eq_true rfl) rfl ?_ | refine Look.self rfl ?_ | refine Look.next ?_)); (with_reducible show wpList _ _ _ _ _ _); simp only [nA])
  | ((with_reducible first | refine to_store 3 rfl ?_ | refine to_store 4 rfl ?_ | refine to_store 5 rfl ?_ | refine to_store 24 rfl ?_ | refine to_store 25 rfl ?_); (first | refine Wl_store1 hS (fun _ => by rfl) _ _ (.int _ _) rfl rfl (scT _ rfl) rfl rfl ?_ | refine Wl_store1 hS (fun _ => by rfl) _ _ (.bool _) rfl rfl (scT _ rfl) rfl rfl ?_ | refine Wl_store1 hS (fun _ => by rfl) _ _ (.slice _ _ _) rfl rfl (scT _ rfl) rfl rfl ?_); (repeat (first | refine Turn1.here (of_decide_eq_true rfl) (of_decide_eq_true rfl) ?_ | refine Turn1.next ?_)); clear hS; intro wW hS; (try simp only [nA]); try simp only [Nat.sub_zero, Nat.add_zero, Nat.zero_add, Nat.reduceSub, Nat.add_sub_cancel_left, rg_ss] at hS)
  | ((with_reducible refine to_load 40 rfl ?_); refine Wl_load hS (fun _ => by rfl) _ _ rfl _ Try.underlying40 rfl ?_; (repeat (first | (refine Row.here ⟨rrgI.trans rfl, ?_⟩) | refine Row.next ?_)); (with_reducible show wpList _ _ _ _ _ _); simp only [nA])
  | ((with_reducible refine to_store 40 rfl ?_); refine Wl_store hS (fun _ => by rfl) _ _ _ rfl rfl (rrgI.trans rfl) (rg_one _ _ _ _) ?_; (repeat (first | refine Turn.here rfl ?_ | refine Turn.next ?_)); clear hS; intro wW hS; try simp only [nA]))
      (first | refine (rwantedCopy _ _ rest hL _ (r1.tail.below hS.below)).mono ?_ | refine (rwantedCopy _ _ [] (by decide) _ (Ls.nil _ _ _ _ (Nat.zero_le _))).mono ?_)
      rintro e w1 ⟨A1, c1, rfl, hl, hb⟩
      have hfA1 := fun e he => Nat.le_trans hS.size (hl.ent e he).1
      replace hS := hS.callN hb hl
      simp only [List.cons_append, List.nil_append] at hS
      have hshA1 := hl.shp
      clear hb hl
      go_wp2_with (first
  | ((with_reducible refine to_boxT 40 rfl ?_); refine Wl_box hS (fun _ => by rfl) _ rfl ?_; clear hS; intro b2 wW hS; simp only [nA])
  | ((with_reducible refine to_alloc 40 rfl ?_); refine Wl_alloc hS (fun _ => by rfl) _ rrgZ ?_; clear hS; intro b4 wW hS; simp only [nA])
  | ((with_reducible first | refine to_load 3 rfl ?_ | refine to_load 4 rfl ?_ | refine to_load 5 rfl ?_ | refine to_load 24 rfl ?_ | refine to_load 25 rfl ?_); refine Wl_load1 hS (fun _ => by rfl) _ _ rfl (scT _ rfl) ?_; (repeat (first | refine Look.here (of_decide_eq_true rfl) rfl ?_ | refine Look.self rfl ?_ | refine Look.next ?_)); (with_reducible show wpList _ _ _ _ _ _); simp only [nA])
  | ((with_reducible first | refine to_store 3 rfl ?_ | refine to_store 4 rfl ?_ | refine to_store 5 rfl ?_ | refine to_store 24 rfl ?_ | refine to_store 25 rfl ?_); (first | refine Wl_store1 hS (fun _ => by rfl) _ _ (.int _ _) rfl rfl (scT _ rfl) rfl rfl ?_ | refine Wl_store1 hS (fun _ => by rfl) _ _ (.bool _) rfl rfl (scT _ rfl) rfl rfl ?_ | refine Wl_store1 hS (fun _ => by rfl) _ _ (.slice _ _ _) rfl rfl (scT _ rfl) rfl rfl ?_); (repeat (first | refine Turn1.here (of_decide_eq_true rfl) (of_decide_eq_true rfl) ?_ | refine Turn1.next ?_)); clear hS; intro wW hS; (try simp only [nA]); try simp only [Nat.sub_zero, Nat.add_zero, Nat.zero_add, Nat.reduceSub, Nat.add_sub_cancel_left, rg_ss] at hS)
  | ((with_reducible refine to_load 40 rfl ?_); refine Wl_load hS (fun _ => by rfl) _ _ rfl _ Try.underlying40 rfl ?_; (repeat (first | (refine Row.here ⟨rrgI.trans rfl, ?_⟩) | refine Row.next ?_)); (with_reducible show wpList _ _ _ _ _ _); simp only [nA])
  | ((with_reducible refine to_store 40 rfl ?_); refine Wl_store hS (fun _ => by rfl) _ _ _ rfl rfl (rrgI.trans rfl) (rg_one _ _ _ _) ?_; (repeat (first | refine Turn.here rfl ?_ | refine Turn.next ?_)); clear hS; intro wW hS; try simp only [nA]))
    all_goals
      refine (rhigher_any r.len b hlen.1 hlen.2 h0 h1 _).mono ?_
      rintro e w1 ⟨rfl, rfl⟩
      go_wp2_with (first
  | ((with_reducible refine to_boxT 40 rfl ?_); refine Wl_box hS (fun _ => by rfl) _ rfl ?_; clear hS; intro b2 wW hS; simp only [nA])
  | ((with_reducible refine to_alloc 40 rfl ?_); refine Wl_alloc hS (fun _ => by rfl) _ rrgZ ?_; clear hS; intro b4 wW hS; simp only [nA])
  | ((with_reducible first | refine to_load 3 rfl ?_ | refine to_load 4 rfl ?_ | refine to_load 5 rfl ?_ | refine to_load 24 rfl ?_ | refine to_load 25 rfl ?_); refine Wl_load1 hS (fun _ => by rfl) _ _ rfl (scT _ rfl) ?_; (repeat (first | refine Look.here (of_decide_eq_true rfl) rfl ?_ | refine Look.self rfl ?_ | refine Look.next ?_)); (with_reducible show wpList _ _ _ _ _ _); simp only [nA])
  | ((with_reducible first | refine to_store 3 rfl ?_ | refine to_store 4 rfl ?_ | refine to_store 5 rfl ?_ | refine to_store 24 rfl ?_ | refine to_store 25 rfl ?_); (first | refine Wl_store1 hS (fun _ => by rfl) _ _ (.int _ _) rfl rfl (scT _ rfl) rfl rfl ?_ | refine Wl_store1 hS (fun _ => by rfl) _ _ (.bool _) rfl rfl (scT _ rfl) rfl rfl ?_ | refine Wl_store1 hS (fun _ => by rfl) _ _ (.slice _ _ _) rfl rfl (scT _ rfl) rfl rfl ?_); (repeat (first | refine Turn1.here (of_decide_eq_true rfl) (of_decide_eq_true rfl) ?_ | refine Turn1.next ?_)); clear hS; intro wW hS; (try simp only [nA]); try simp only [Nat.sub_zero, Nat.add_zero, Nat.zero_add, Nat.reduceSub, Nat.add_sub_cancel_left, rg_ss] at hS)
  | ((with_reducible refine to_load 40 rfl ?_); refine Wl_load hS (fun _ => by rfl) _ _ rfl _ Try.underlying40 rfl ?_; (repeat (first | (refine Row.here ⟨rrgI.trans rfl, ?_⟩) | refine Row.next ?_)); (with_reducible show wpList _ _ _ _ _ _); simp only [nA])
  | ((with_reducible refine to_store 40 rfl ?_); refine Wl_store hS (fun _ => by rfl) _ _ _ rfl rfl (rrgI.trans rfl) (rg_one _ _ _ _) ?_; (repeat (first | refine Turn.here rfl ?_ | refine Turn.next ?_)); clear hS; intro wW hS; try simp only [nA]))
      refine ret_st hS rfl _ _ rfl rfl _ Try.underlying40 rfl ?_
      repeat (first | (refine Row.here ⟨rrgI.trans rfl, ?_⟩) | refine Row.next ?_)
      exact ⟨A1, c1, rfl, hS.lsF hshA1 hfA1 (fun e he => by repeat (first | exact he | exact List.mem_append_right _ he | exact List.mem_append_left _ he | refine List.Mem.tail _ ?_)), hS.below⟩
  by_cases k5 : k = 5
  · subst k5
    have e1 : M.rTake r b 5 rest = { r with want := rest, atime := M.rTime b } := by unfold M.rTake; simp
    rw [e1]
    clear e1
    by_cases hcc : c = 1
    case' pos =>
      have hrr : rest = [] := List.eq_nil_of_length_eq_zero (by omega)
      subst hrr
    all_goals
      go_enter Try.func72, Try.ntmps72
      go_wp2_with (first
  | ((with_reducible refine to_boxT 40 rfl ?_); refine Wl_box hS (fun _ => by rfl) _ rfl ?_; clear hS; intro b2 wW hS; simp only [nA])
  | ((with_reducible refine to_alloc 40 rfl ?_); refine Wl_alloc hS (fun _ => by rfl) _ rrgZ ?_; clear hS; intro b4 wW hS; simp only [nA])
  | ((with_reducible first | refine to_load 3 rfl ?_ | refine to_load 4 rfl ?_ | refine to_load 5 rfl ?_ | refine to_load 24 rfl ?_ | refine to_load 25 rfl ?_); refine Wl_load1 hS (fun _ => by rfl) _ _ rfl (scT _ rfl) ?_; (repeat (first | refine Look.here (of_decide_eq_true rfl) rfl ?_ | refine Look.self rfl ?_ | refine Look.next ?_)); (with_reducible show wpList _ _ _ _ _ _); simp only [nA])
  | ((with_reducible first | refine to_store 3 rfl ?_ | refine to_store 4 rfl ?_ | refine to_store 5 rfl ?_ | refine to_store 24 rfl ?_ | refine to_store 25 rfl ?_); (first | refine Wl_store1 hS (fun _ => by rfl) _ _ (.int _ _) rfl rfl (scT _ rfl) rfl rfl ?_ | refine Wl_store1 hS (fun _ => by rfl) _ _ (.bool _) rfl rfl (scT _ rfl) rfl rfl ?_ | refine Wl_store1 hS (fun _ => by rfl) _ _ (.slice _ _ _) rfl rfl (scT _ rfl) rfl rfl ?_); (repeat (first | refine Turn1.here (of_decide_eq_true rfl) (of_decide_eq_true rfl) ?_ | refine Turn1.next ?_)); clear hS; intro wW hS; (try simp only [nA]); try simp only [Nat.sub_zero, Nat.add_zero, Nat.zero_add, Nat.reduceSub, Nat.add_sub_cancel_left, rg_ss] at hS)
  | ((with_reducible refine to_load 40 rfl ?_); refine Wl_load hS (fun _ => by rfl) _ _ rfl _ Try.underlying40 rfl ?_; (repeat (first | (refine Row.here ⟨rrgI.trans rfl, ?_⟩) | refine Row.next ?_)); (with_reducible show wpList _ _ _ _ _ _); simp only [nA])
  | ((with_reducible refine to_store 40 rfl ?_); refine Wl_store hS (fun _ => by rfl) _ _ _ rfl rfl (rrgI.trans rfl) (rg_one _ _ _ _) ?_; (repeat (first | refine Turn.here rfl ?_ | refine Turn.next ?_)); clear hS; intro wW hS; try simp only [nA]))
      (first | refine (rwantedCopy _ _ rest hL _ (r1.tail.below hS.below)).mono ?_ | refine (rwantedCopy _ _ [] (by decide) _ (Ls.nil _ _ _ _ (Nat.zero_le _))).mono ?_)
      rintro e w1 ⟨A1, c1, rfl, hl, hb⟩
      have hfA1 := fun e he => Nat.le_trans hS.size (hl.ent e he).1
      replace hS := hS.callN hb hl
      simp only [List.cons_append, List.nil_append] at hS
      have hshA1 := hl.shp
      clear hb hl
      go_wp2_with (first
  | ((with_reducible refine to_boxT 40 rfl ?_); refine Wl_box hS (fun _ => by rfl) _ rfl ?_; clear hS; intro b2 wW hS; simp only [nA])
  | ((with_reducible refine to_alloc 40 rfl ?_); refine Wl_alloc hS (fun _ => by rfl) _ rrgZ ?_; clear hS; intro b4 wW hS; simp only [nA])
  | ((with_reducible first | refine to_load 3 rfl ?_ | refine to_load 4 rfl ?_ | refine to_load 5 rfl ?_ | refine to_load 24 rfl ?_ | refine to_load 25 rfl ?_); refine Wl_load1 hS (fun _ => by rfl) _ _ rfl (scT _ rfl) ?_; (repeat (first | refine Look.here (of_decide_eq_true rfl) rfl ?_ | refine Look.self rfl ?_ | refine Look.next ?_)); (with_reducible show wpList _ _ _ _ _ _); simp only [nA])
  | ((with_reducible first | refine to_store 3 rfl ?_ | refine to_store 4 rfl ?_ | refine to_store 5 rfl ?_ | refine to_store 24 rfl ?_ | refine to_store 25 rfl ?_); (first | refine Wl_store1 hS (fun _ => by rfl) _ _ (.int _ _) rfl rfl (scT _ rfl) rfl rfl ?_ | refine Wl_store1 hS (fun _ => by rfl) _ _ (.bool _) rfl rfl (scT _ rfl) rfl rfl ?_ | refine Wl_store1 hS (fun _ => by rfl) _ _ (.slice _ _ _) rfl rfl (scT _ rfl) rfl rfl ?_); (repeat (first | refine Turn1.here (of_decide_eq_true rfl) (of_decide_eq_true rfl) ?_ | refine Turn1.next ?_)); clear hS; intro wW hS; (try simp only [nA]); try simp only [Nat.sub_zero, Nat.add_zero, Nat.zero_add, Nat.reduceSub, Nat.add_sub_cancel_left, rg_ss] at hS)
  | ((with_reducible refine to_load 40 rfl ?_); refine Wl_load hS (fun _ => by rfl) _ _ rfl _ Try.underlying40 rfl ?_; (repeat (first | (refine Row.here ⟨rrgI.trans rfl, ?_⟩) | refine Row.next ?_)); (with_reducible show wpList _ _ _ _ _ _); simp only [nA])
  | ((with_reducible refine to_store 40 rfl ?_); refine Wl_store hS (fun _ => by rfl) _ _ _ rfl rfl (rrgI.trans rfl) (rg_one _ _ _ _) ?_; (repeat (first | refine Turn.here rfl ?_ | refine Turn.next ?_)); clear hS; intro wW hS; try simp only [nA]))
    all_goals
      refine (rtime_any b h0 h1 _).mono ?_
      rintro e w1 ⟨rfl, hb⟩
      replace hS := hS.call hb
      clear hb
      go_wp2_with (first
  | ((with_reducible refine to_boxT 40 rfl ?_); refine Wl_box hS (fun _ => by rfl) _ rfl ?_; clear hS; intro b2 wW hS; simp only [nA])
  | ((with_reducible refine to_alloc 40 rfl ?_); refine Wl_alloc hS (fun _ => by rfl) _ rrgZ ?_; clear hS; intro b4 wW hS; simp only [nA])
  | ((with_reducible first | refine to_load 3 rfl ?_ | refine to_load 4 rfl ?_ | refine to_load 5 rfl ?_ | refine to_load 24 rfl ?_ | refine to_load 25 rfl ?_); refine Wl_load1 hS (fun _ => by rfl) _ _ rfl (scT _ rfl) ?_; (repeat (first | refine Look.here (of_decide_eq_true rfl) rfl ?_ | refine Look.self rfl ?_ | refine Look.next ?_)); (with_reducible show wpList _ _ _ _ _ _); simp only [nA])
  | ((with_reducible first | refine to_store 3 rfl ?_ | refine to_store 4 rfl ?_ | refine to_store 5 rfl ?_ | refine to_store 24 rfl ?_ | refine to_store 25 rfl ?_); (first | refine Wl_store1 hS (fun _ => by rfl) _ _ (.int _ _) rfl rfl (scT _ rfl) rfl rfl ?_ | refine Wl_store1 hS (fun _ => by rfl) _ _ (.bool _) rfl rfl (scT _ rfl) rfl rfl ?_ | refine Wl_store1 hS (fun _ => by rfl) _ _ (.slice _ _ _) rfl rfl (scT _ rfl) rfl rfl ?_); (repeat (first | refine Turn1.here (of_decide_eq_true rfl) (of_decide_eq_true rfl) ?_ | refine Turn1.next ?_)); clear hS; intro wW hS; (try simp only [nA]); try simp only [Nat.sub_zero, Nat.add_zero, Nat.zero_add, Nat.reduceSub, Nat.add_sub_cancel_left, rg_ss] at hS)
  | ((with_reducible refine to_load 40 rfl ?_); refine Wl_load hS (fun _ => by rfl) _ _ rfl _ Try.underlying40 rfl ?_; (repeat (first | (refine Row.here ⟨rrgI.trans rfl, ?_⟩) | refine Row.next ?_)); (with_reducible show wpList _ _ _ _ _ _); simp only [nA])
  | ((with_reducible refine to_store 40 rfl ?_); refine Wl_store hS (fun _ => by rfl) _ _ _ rfl rfl (rrgI.trans rfl) (rg_one _ _ _ _) ?_; (repeat (first | refine Turn.here rfl ?_ | refine Turn.next ?_)); clear hS; intro wW hS; try simp only [nA]))
      refine ret_st hS rfl _ _ rfl rfl _ Try.underlying40 rfl ?_
      repeat (first | (refine Row.here ⟨rrgI.trans rfl, ?_⟩) | refine Row.next ?_)
      exact ⟨A1, c1, rfl, hS.lsF hshA1 hfA1 (fun e he => by repeat (first | exact he | exact List.mem_append_right _ he | exact List.mem_append_left _ he | refine List.Mem.tail _ ?_)), hS.below⟩
  by_cases k6 : k = 6
  · subst k6
    have e1 : M.rTake r b 6 rest = { r with want := rest, btime := M.rTime b } := by unfold M.rTake; simp
    rw [e1]
    clear e1
    by_cases hcc : c = 1
    case' pos =>
      have hrr : rest = [] := List.eq_nil_of_length_eq_zero (by omega)
      subst hrr
    all_goals
      go_enter Try.func72, Try.ntmps72
      go_wp2_with (first
  | ((with_reducible refine to_boxT 40 rfl ?_); refine Wl_box hS (fun _ => by rfl) _ rfl ?_; clear hS; intro b2 wW hS; simp only [nA])
  | ((with_reducible refine to_alloc 40 rfl ?_); refine Wl_alloc hS (fun _ => by rfl) _ rrgZ ?_; clear hS; intro b4 wW hS; simp only [nA])
  | ((with_reducible first | refine to_load 3 rfl ?_ | refine to_load 4 rfl ?_ | refine to_load 5 rfl ?_ | refine to_load 24 rfl ?_ | refine to_load 25 rfl ?_); refine Wl_load1 hS (fun _ => by rfl) _ _ rfl (scT _ rfl) ?_; (repeat (first | refine Look.here (of_decide_eq_true rfl) rfl ?_ | refine Look.self rfl ?_ | refine Look.next ?_)); (with_reducible show wpList _ _ _ _ _ _); simp only [nA])
  | ((with_reducible first | refine to_store 3 rfl ?_ | refine to_store 4 rfl ?_ | refine to_store 5 rfl ?_ | refine to_store 24 rfl ?_ | refine to_store 25 rfl ?_); (first | refine Wl_store1 hS (fun _ => by rfl) _ _ (.int _ _) rfl rfl (scT _ rfl) rfl rfl ?_ | refine Wl_store1 hS (fun _ => by rfl) _ _ (.bool _) rfl rfl (scT _ rfl) rfl rfl ?_ | refine Wl_store1 hS (fun _ => by rfl) _ _ (.slice _ _ _) rfl rfl (scT _ rfl) rfl rfl ?_); (repeat (first | refine Turn1.here (of_decide_eq_true rfl) (of_decide_eq_true rfl) ?_ | refine Turn1.next ?_)); clear hS; intro wW hS; (try simp only [nA]); try simp only [Nat.sub_zero, Nat.add_zero, Nat.zero_add, Nat.reduceSub, Nat.add_sub_cancel_left, rg_ss] at hS)
  | ((with_reducible refine to_load 40 rfl ?_); refine Wl_load hS (fun _ => by rfl) _ _ rfl _ Try.underlying40 rfl ?_; (repeat (first | (refine Row.here ⟨rrgI.trans rfl, ?_⟩) | refine Row.next ?_)); (with_reducible show wpList _ _ _ _ _ _); simp only [nA])
  | ((with_reducible refine to_store 40 rfl ?_); refine Wl_store hS (fun _ => by rfl) _ _ _ rfl rfl (rrgI.trans rfl) (rg_one _ _ _ _) ?_; (repeat (first | refine Turn.here rfl ?_ | refine Turn.next ?_)); clear hS; intro wW hS; try simp only [nA]))
      (first | refine (rwantedCopy _ _ rest hL _ (r1.tail.below hS.below)).mono ?_ | refine (rwantedCopy _ _ [] (by decide) _ (Ls.nil _ _ _ _ (Nat.zero_le _))).mono ?_)
      rintro e w1 ⟨A1, c1, rfl, hl, hb⟩
      have hfA1 := fun e he => Nat.le_trans hS.size (hl.ent e he).1
      replace hS := hS.callN hb hl
      simp only [List.cons_append, List.nil_append] at hS
      have hshA1 := hl.shp
      clear hb hl
      go_wp2_with (first
  | ((with_reducible refine to_boxT 40 rfl ?_); refine Wl_box hS (fun _ => by rfl) _ rfl ?_; clear hS; intro b2 wW hS; simp only [nA])
  | ((with_reducible refine to_alloc 40 rfl ?_); refine Wl_alloc hS (fun _ => by rfl) _ rrgZ ?_; clear hS; intro b4 wW hS; simp only [nA])
  | ((with_reducible first | refine to_load 3 rfl ?_ | refine to_load 4 rfl ?_ | refine to_load 5 rfl ?_ | refine to_load 24 rfl ?_ | refine to_load 25 rfl ?_); refine Wl_load1 hS (fun _ => by rfl) _ _ rfl (scT _ rfl) ?_; (repeat (first | refine Look.here (of_decide_eq_true rfl) rfl ?_ | refine Look.self rfl ?_ | refine Look.next ?_)); (with_reducible show wpList _ _ _ _ _ _); simp only [nA])
  | ((with_reducible first | refine to_store 3 rfl ?_ | refine to_store 4 rfl ?_ | refine to_store 5 rfl ?_ | refine to_store 24 rfl ?_ | refine to_store 25 rfl ?_); (first | refine Wl_store1 hS (fun _ => by rfl) _ _ (.int _ _) rfl rfl (scT _ rfl) rfl rfl ?_ | refine Wl_store1 hS (fun _ => by rfl) _ _ (.bool _) rfl rfl (scT _ rfl) rfl rfl ?_ | refine Wl_store1 hS (fun _ => by rfl) _ _ (.slice _ _ _) rfl rfl (scT _ rfl) rfl rfl ?_); (repeat (first | refine Turn1.here (of_decide_eq_true rfl) (of_decide_eq_true rfl) ?_ | refine Turn1.next ?_)); clear hS; intro wW hS; (try simp only [nA]); try simp only [Nat.sub_zero, Nat.add_zero, Nat.zero_add, Nat.reduceSub, Nat.add_sub_cancel_left, rg_ss] at hS)
  | ((with_reducible refine to_load 40 rfl ?_); refine Wl_load hS (fun _ => by rfl) _ _ rfl _ Try.underlying40 rfl ?_; (repeat (first | (refine Row.here ⟨rrgI.trans rfl, ?_⟩) | refine Row.next ?_)); (with_reducible show wpList _ _ _ _ _ _); simp only [nA])
  | ((with_reducible refine to_store 40 rfl ?_); refine Wl_store hS (fun _ => by rfl) _ _ _ rfl rfl (rrgI.trans rfl) (rg_one _ _ _ _) ?_; (repeat (first | refine Turn.here rfl ?_ | refine Turn.next ?_)); clear hS; intro wW hS; try simp only [nA]))
    all_goals
      refine (rtime_any b h0 h1 _).mono ?_
      rintro e w1 ⟨rfl, hb⟩
      replace hS := hS.call hb
      clear hb
      go_wp2_with (first
  | ((with_reducible refine to_boxT 40 rfl ?_); refine Wl_box hS (fun _ => by rfl) _ rfl ?_; clear hS; intro b2 wW hS; simp only [nA])
  | ((with_reducible refine to_alloc 40 rfl ?_); refine Wl_alloc hS (fun _ => by rfl) _ rrgZ ?_; clear hS; intro b4 wW hS; simp only [nA])
  | ((with_reducible first | refine to_load 3 rfl ?_ | refine to_load 4 rfl ?_ | refine to_load 5 rfl ?_ | refine to_load 24 rfl ?_ | refine to_load 25 rfl ?_); refine Wl_load1 hS (fun _ => by rfl) _ _ rfl (scT _ rfl) ?_; (repeat (first | refine Look.here (of_decide_eq_true rfl) rfl ?_ | refine Look.self rfl ?_ | refine Look.next ?_)); (with_reducible show wpList _ _ _ _ _ _); simp only [nA])
  | ((with_reducible first | refine to_store 3 rfl ?_ | refine to_store 4 rfl ?_ | refine to_store 5 rfl ?_ | refine to_store 24 rfl ?_ | refine to_store 25 rfl ?_); (first | refine Wl_store1 hS (fun _ => by rfl) _ _ (.int _ _) rfl rfl (scT _ rfl) rfl rfl ?_ | refine Wl_store1 hS (fun _ => by rfl) _ _ (.bool _) rfl rfl (scT _ rfl) rfl rfl ?_ | refine Wl_store1 hS (fun _ => by rfl) _ _ (.slice _ _ _) rfl rfl (scT _ rfl) rfl rfl ?_); (repeat (first | refine Turn1.here (of_decide_eq_true rfl) (of_decide_eq_true rfl) ?_ | refine Turn1.next ?_)); clear hS; intro wW hS; (try simp only [nA]); try simp only [Nat.sub_zero, Nat.add_zero, Nat.zero_add, Nat.reduceSub, Nat.add_sub_cancel_left, rg_ss] at hS)
  | ((with_reducible refine to_load 40 rfl ?_); refine Wl_load hS (fun _ => by rfl) _ _ rfl _ Try.underlying40 rfl ?_; (repeat (first | (refine Row.here ⟨rrgI.trans rfl, ?_⟩) | refine Row.next ?_)); (with_reducible show wpList _ _ _ _ _ _); simp only [nA])
  | ((with_reducible refine to_store 40 rfl ?_); refine Wl_store hS (fun _ => by rfl) _ _ _ rfl rfl (rrgI.trans rfl) (rg_one _ _ _ _) ?_; (repeat (first | refine Turn.here rfl ?_ | refine Turn.next ?_)); clear hS; intro wW hS; try simp only [nA]))
      refine ret_st hS rfl _ _ rfl rfl _ Try.underlying40 rfl ?_
      repeat (first | (refine Row.here ⟨rrgI.trans rfl, ?_⟩) | refine Row.next ?_)
      exact ⟨A1, c1, rfl, hS.lsF hshA1 hfA1 (fun e he => by repeat (first | exact he | exact List.mem_append_right _ he | exact List.mem_append_left _ he | refine List.Mem.tail _ ?_)), hS.below⟩
  by_cases k7 : k = 7
  · subst k7
    have e1 : M.rTake r b 7 rest = { r with want := rest, mask := b } := by unfold M.rTake; simp
    rw [e1]
    clear e1
    by_cases hcc : c = 1
    case' pos =>
      have hrr : rest = [] := List.eq_nil_of_length_eq_zero (by omega)
      subst hrr
    all_goals
      go_enter Try.func72, Try.ntmps72
      go_wp2_with (first
  | ((with_reducible refine to_boxT 40 rfl ?_); refine Wl_box hS (fun _ => by rfl) _ rfl ?_; clear hS; intro b2 wW hS; simp only [nA])
  | ((with_reducible refine to_alloc 40 rfl ?_); refine Wl_alloc hS (fun _ => by rfl) _ rrgZ ?_; clear hS; intro b4 wW hS; simp only [nA])
  | ((with_reducible first | refine to_load 3 rfl ?_ | refine to_load 4 rfl ?_ | refine to_load 5 rfl ?_ | refine to_load 24 rfl ?_ | refine to_load 25 rfl ?_); refine Wl_load1 hS (fun _ => by rfl) _ _ rfl (scT _ rfl) ?_; (repeat (first | refine Look.here (of_decide_eq_true rfl) rfl ?_ | refine Look.self rfl ?_ | refine Look.next ?_)); (with_reducible show wpList _ _ _ _ _ _); simp only [nA])
  | ((with_reducible first | refine to_store 3 rfl ?_ | refine to_store 4 rfl ?_ | refine to_store 5 rfl ?_ | refine to_store 24 rfl ?_ | refine to_store 25 rfl ?_); (first | refine Wl_store1 hS (fun _ => by rfl) _ _ (.int _ _) rfl rfl (scT _ rfl) rfl rfl ?_ | refine Wl_store1 hS (fun _ => by rfl) _ _ (.bool _) rfl rfl (scT _ rfl) rfl rfl ?_ | refine Wl_store1 hS (fun _ => by rfl) _ _ (.slice _ _ _) rfl rfl (scT _ rfl) rfl rfl ?_); (repeat (first | refine Turn1.here (of_decide_eq_true rfl) (of_decide_eq_true rfl) ?_ | refine Turn1.next ?_)); clear hS; intro wW hS; (try simp only [nA]); try simp only [Nat.sub_zero, Nat.add_zero, Nat.zero_add, Nat.reduceSub, Nat.add_sub_cancel_left, rg_ss] at hS)
  | ((with_reducible refine to_load 40 rfl ?_); refine Wl_load hS (fun _ => by rfl) _ _ rfl _ Try.underlying40 rfl ?_; (repeat (first | (refine Row.here ⟨rrgI.trans rfl, ?_⟩) | refine Row.next ?_)); (with_reducible show wpList _ _ _ _ _ _); simp only [nA])
  | ((with_reducible refine to_store 40 rfl ?_); refine Wl_store hS (fun _ => by rfl) _ _ _ rfl rfl (rrgI.trans rfl) (rg_one _ _ _ _) ?_; (repeat (first | refine Turn.here rfl ?_ | refine Turn.next ?_)); clear hS; intro wW hS; try simp only [nA]))
      (first | refine (rwantedCopy _ _ rest hL _ (r1.tail.below hS.below)).mono ?_ | refine (rwantedCopy _ _ [] (by decide) _ (Ls.nil _ _ _ _ (Nat.zero_le _))).mono ?_)
      rintro e w1 ⟨A1, c1, rfl, hl, hb⟩
      have hfA1 := fun e he => Nat.le_trans hS.size (hl.ent e he).1
      replace hS := hS.callN hb hl
      simp only [List.cons_append, List.nil_append] at hS
      have hshA1 := hl.shp
      clear hb hl
      go_wp2_with (first
  | ((with_reducible refine to_boxT 40 rfl ?_); refine Wl_box hS (fun _ => by rfl) _ rfl ?_; clear hS; intro b2 wW hS; simp only [nA])
  | ((with_reducible refine to_alloc 40 rfl ?_); refine Wl_alloc hS (fun _ => by rfl) _ rrgZ ?_; clear hS; intro b4 wW hS; simp only [nA])
  | ((with_reducible first | refine to_load 3 rfl ?_ | refine to_load 4 rfl ?_ | refine to_load 5 rfl ?_ | refine to_load 24 rfl ?_ | refine to_load 25 rfl ?_); refine Wl_load1 hS (fun _ => by rfl) _ _ rfl (scT _ rfl) ?_; (repeat (first | refine Look.here (of_decide_eq_true rfl) rfl ?_ | refine Look.self rfl ?_ | refine Look.next ?_)); (with_reducible show wpList _ _ _ _ _ _); simp only [nA])
  | ((with_reducible first | refine to_store 3 rfl ?_ | refine to_store 4 rfl ?_ | refine to_store 5 rfl ?_ | refine to_store 24 rfl ?_ | refine to_store 25 rfl ?_); (first | refine Wl_store1 hS (fun _ => by rfl) _ _ (.int _ _) rfl rfl (scT _ rfl) rfl rfl ?_ | refine Wl_store1 hS (fun _ => by rfl) _ _ (.bool _) rfl rfl (scT _ rfl) rfl rfl ?_ | refine Wl_store1 hS (fun _ => by rfl) _ _ (.slice _ _ _) rfl rfl (scT _ rfl) rfl rfl ?_); (repeat (first | refine Turn1.here (of_decide_eq_true rfl) (of_decide_eq_true rfl) ?_ | refine Turn1.next ?_)); clear hS; intro wW hS; (try simp only [nA]); try simp only [Nat.sub_zero, Nat.add_zero, Nat.zero_add, Nat.reduceSub, Nat.add_sub_cancel_left, rg_ss] at hS)
  | ((with_reducible refine to_load 40 rfl ?_); refine Wl_load hS (fun _ => by rfl) _ _ rfl _ Try.underlying40 rfl ?_; (repeat (first | (refine Row.here ⟨rrgI.trans rfl, ?_⟩) | refine Row.next ?_)); (with_reducible show wpList _ _ _ _ _ _); simp only [nA])
  | ((with_reducible refine to_store 40 rfl ?_); refine Wl_store hS (fun _ => by rfl) _ _ _ rfl rfl (rrgI.trans rfl) (rg_one _ _ _ _) ?_; (repeat (first | refine Turn.here rfl ?_ | refine Turn.next ?_)); clear hS; intro wW hS; try simp only [nA]))
    all_goals
      refine ret_st hS rfl _ _ rfl rfl _ Try.underlying40 rfl ?_
      repeat (first | (refine Row.here ⟨rrgI.trans rfl, ?_⟩) | refine Row.next ?_)
      exact ⟨A1, c1, rfl, hS.lsF hshA1 hfA1 (fun e he => by repeat (first | exact he | exact List.mem_append_right _ he | exact List.mem_append_left _ he | refine List.Mem.tail _ ?_)), hS.below⟩
  by_cases k8 : k = 8
  · subst k8
    have e1 : M.rTake r b 8 rest = { r with want := rest, mat := b } := by unfold M.rTake; simp
    rw [e1]
    clear e1
    by_cases hcc : c = 1
    case' pos =>
      have hrr : rest = [] := List.eq_nil_of_length_eq_zero (by omega)
      subst hrr
    all_goals
      go_enter Try.func72, Try.ntmps72
      go_wp2_with (first
  | ((with_reducible refine to_boxT 40 rfl ?_); refine Wl_box hS (fun _ => by rfl) _ rfl ?_; clear hS; intro b2 wW hS; simp only [nA])
  | ((with_reducible refine to_alloc 40 rfl ?_); refine Wl_alloc hS (fun _ => by rfl) _ rrgZ ?_; clear hS; intro b4 wW hS; simp only [nA])
  | ((with_reducible first | refine to_load 3 rfl ?_ | refine to_load 4 rfl ?_ | refine to_load 5 rfl ?_ | refine to_load 24 rfl ?_ | refine to_load 25 rfl ?_); refine Wl_load1 hS (fun _ => by rfl) _ _ rfl (scT _ rfl) ?_; (repeat (first | refine Look.here (of_decide_eq_true rfl) rfl ?_ | refine Look.self rfl ?_ | refine Look.next ?_)); (with_reducible show wpList _ _ _ _ _ _); simp only [nA])
  | ((with_reducible first | refine to_store 3 rfl ?_ | refine to_store 4 rfl ?_ | refine to_store 5 rfl ?_ | refine to_store 24 rfl ?_ | refine to_store 25 rfl ?_); (first | refine Wl_store1 hS (fun _ => by rfl) _ _ (.int _ _) rfl rfl (scT _ rfl) rfl rfl ?_ | refine Wl_store1 hS (fun _ => by rfl) _ _ (.bool _) rfl rfl (scT _ rfl) rfl rfl ?_ | refine Wl_store1 hS (fun _ => by rfl) _ _ (.slice _ _ _) rfl rfl (scT _ rfl) rfl rfl ?_); (repeat (first | refine Turn1.here (of_decide_eq_true rfl) (of_decide_eq_true rfl) ?_ | refine Turn1.next ?_)); clear hS; intro wW hS; (try simp only [nA]); try simp only [Nat.sub_zero, Nat.add_zero, Nat.zero_add, Nat.reduceSub, Nat.add_sub_cancel_left, rg_ss] at hS)
  | ((with_reducible refine to_load 40 rfl ?_); refine Wl_load hS (fun _ => by rfl) _ _ rfl _ Try.underlying40 rfl ?_; (repeat (first | (refine Row.here ⟨rrgI.trans rfl, ?_⟩) | refine Row.next ?_)); (with_reducible show wpList _ _ _ _ _ _); simp only [nA])
  | ((with_reducible refine to_store 40 rfl ?_); refine Wl_store hS (fun _ => by rfl) _ _ _ rfl rfl (rrgI.trans rfl) (rg_one _ _ _ _) ?_; (repeat (first | refine Turn.here rfl ?_ | refine Turn.next ?_)); clear hS; intro wW hS; try simp only [nA]))
      (first | refine (rwantedCopy _ _ rest hL _ (r1.tail.below hS.below)).mono ?_ | refine (rwantedCopy _ _ [] (by decide) _ (Ls.nil _ _ _ _ (Nat.zero_le _))).mono ?_)
      rintro e w1 ⟨A1, c1, rfl, hl, hb⟩
      have hfA1 := fun e he => Nat.le_trans hS.size (hl.ent e he).1
      replace hS := hS.callN hb hl
      simp only [List.cons_append, List.nil_append] at hS
      have hshA1 := hl.shp
      clear hb hl
      go_wp2_with (first
  | ((with_reducible refine to_boxT 40 rfl ?_); refine Wl_box hS (fun _ => by rfl) _ rfl ?_; clear hS; intro b2 wW hS; simp only [nA])
  | ((with_reducible refine to_alloc 40 rfl ?_); refine Wl_alloc hS (fun _ => by rfl) _ rrgZ ?_; clear hS; intro b4 wW hS; simp only [nA])
  | ((with_reducible first | refine to_load 3 rfl ?_ | refine to_load 4 rfl ?_ | refine to_load 5 rfl ?_ | refine to_load 24 rfl ?_ | refine to_load 25 rfl ?_); refine Wl_load1 hS (fun _ => by rfl) _ _ rfl (scT _ rfl) ?_; (repeat (first | refine Look.here (of_decide_eq_true rfl) rfl ?_ | refine Look.self rfl ?_ | refine Look.next ?_)); (with_reducible show wpList _ _ _ _ _ _); simp only [nA])
  | ((with_reducible first | refine to_store 3 rfl ?_ | refine to_store 4 rfl ?_ | refine to_store 5 rfl ?_ | refine to_store 24 rfl ?_ | refine to_store 25 rfl ?_); (first | refine Wl_store1 hS (fun _ => by rfl) _ _ (.int _ _) rfl rfl (scT _ rfl) rfl rfl ?_ | refine Wl_store1 hS (fun _ => by rfl) _ _ (.bool _) rfl rfl (scT _ rfl) rfl rfl ?_ | refine Wl_store1 hS (fun _ => by rfl) _ _ (.slice _ _ _) rfl rfl (scT _ rfl) rfl rfl ?_); (repeat (first | refine Turn1.here (of_decide_eq_true rfl) (of_decide_eq_true rfl) ?_ | refine Turn1.next ?_)); clear hS; intro wW hS; (try simp only [nA]); try simp only [Nat.sub_zero, Nat.add_zero, Nat.zero_add, Nat.reduceSub, Nat.add_sub_cancel_left, rg_ss] at hS)
  | ((with_reducible refine to_load 40 rfl ?_); refine Wl_load hS (fun _ => by rfl) _ _ rfl _ Try.underlying40 rfl ?_; (repeat (first | (refine Row.here ⟨rrgI.trans rfl, ?_⟩) | refine Row.next ?_)); (with_reducible show wpList _ _ _ _ _ _); simp only [nA])
  | ((with_reducible refine to_store 40 rfl ?_); refine Wl_store hS (fun _ => by rfl) _ _ _ rfl rfl (rrgI.trans rfl) (rg_one _ _ _ _) ?_; (repeat (first | refine Turn.here rfl ?_ | refine Turn.next ?_)); clear hS; intro wW hS; try simp only [nA]))
    all_goals
      refine ret_st hS rfl _ _ rfl rfl _ Try.underlying40 rfl ?_
      repeat (first | (refine Row.here ⟨rrgI.trans rfl, ?_⟩) | refine Row.next ?_)
      exact ⟨A1, c1, rfl, hS.lsF hshA1 hfA1 (fun e he => by repeat (first | exact he | exact List.mem_append_right _ he | exact List.mem_append_left _ he | refine List.Mem.tail _ ?_)), hS.below⟩
  by_cases k9 : k = 9
  · subst k9
    have e1 : M.rTake r b 9 rest = { r with want := rest, b := M.lowW r.b b } := by unfold M.rTake; simp
    rw [e1]
    clear e1
    by_cases hcc : c = 1
    case' pos =>
      have hrr : rest = [] := List.eq_nil_of_length_eq_zero (by omega)
      subst hrr
    all_goals
      go_enter Try.func72, Try.ntmps72
      go_wp2_with (first
  | ((with_reducible refine to_boxT 40 rfl ?_); refine Wl_box hS (fun _ => by rfl) _ rfl ?_; clear hS; intro b2 wW hS; simp only [nA])
  | ((with_reducible refine to_alloc 40 rfl ?_); refine Wl_alloc hS (fun _ => by rfl) _ rrgZ ?_; clear hS; intro b4 wW hS; simp only [nA])
  | ((with_reducible first | refine to_load 3 rfl ?_ | refine to_load 4 rfl ?_ | refine to_load 5 rfl ?_ | refine to_load 24 rfl ?_ | refine to_load 25 rfl ?_); refine Wl_load1 hS (fun _ => by rfl) _ _ rfl (scT _ rfl) ?_; (repeat (first | refine Look.here (of_decide_eq_true rfl) rfl ?_ | refine Look.self rfl ?_ | refine Look.next ?_)); (with_reducible show wpList _ _ _ _ _ _); simp only [nA])
  | ((with_reducible first | refine to_store 3 rfl ?_ | refine to_store 4 rfl ?_ | refine to_store 5 rfl ?_ | refine to_store 24 rfl ?_ | refine to_store 25 rfl ?_); (first | refine Wl_store1 hS (fun _ => by rfl) _ _ (.int _ _) rfl rfl (scT _ rfl) rfl rfl ?_ | refine Wl_store1 hS (fun _ => by rfl) _ _ (.bool _) rfl rfl (scT _ rfl) rfl rfl ?_ | refine Wl_store1 hS (fun _ => by rfl) _ _ (.slice _ _ _) rfl rfl (scT _ rfl) rfl rfl ?_); (repeat (first | refine Turn1.here (of_decide_eq_true rfl) (of_decide_eq_true rfl) ?_ | refine Turn1.next ?_)); clear hS; intro wW hS; (try simp only [nA]); try simp only [Nat.sub_zero, Nat.add_zero, Nat.zero_add, Nat.reduceSub, Nat.add_sub_cancel_left, rg_ss] at hS)
  | ((with_reducible refine to_load 40 rfl ?_); refine Wl_load hS (fun _ => by rfl) _ _ rfl _ Try.underlying40 rfl ?_; (repeat (first | (refine Row.here ⟨rrgI.trans rfl, ?_⟩) | refine Row.next ?_)); (with_reducible show wpList _ _ _ _ _ _); simp only [nA])
  | ((with_reducible refine to_store 40 rfl ?_); refine Wl_store hS (fun _ => by rfl) _ _ _ rfl rfl (rrgI.trans rfl) (rg_one _ _ _ _) ?_; (repeat (first | refine Turn.here rfl ?_ | refine Turn.next ?_)); clear hS; intro wW hS; try simp only [nA]))
      (first | refine (rwantedCopy _ _ rest hL _ (r1.tail.below hS.below)).mono ?_ | refine (rwantedCopy _ _ [] (by decide) _ (Ls.nil _ _ _ _ (Nat.zero_le _))).mono ?_)
      rintro e w1 ⟨A1, c1, rfl, hl, hb⟩
      have hfA1 := fun e he => Nat.le_trans hS.size (hl.ent e he).1
      replace hS := hS.callN hb hl
      simp only [List.cons_append, List.nil_append] at hS
      have hshA1 := hl.shp
      clear hb hl
      go_wp2_with (first
  | ((with_reducible refine to_boxT 40 rfl ?_); refine Wl_box hS (fun _ => by rfl) _ rfl ?_; clear hS; intro b2 wW hS; simp only [nA])
  | ((with_reducible refine to_alloc 40 rfl ?_); refine Wl_alloc hS (fun _ => by rfl) _ rrgZ ?_; clear hS; intro b4 wW hS; simp only [nA])
  | ((with_reducible first | refine to_load 3 rfl ?_ | refine to_load 4 rfl ?_ | refine to_load 5 rfl ?_ | refine to_load 24 rfl ?_ | refine to_load 25 rfl ?_); refine Wl_load1 hS (fun _ => by rfl) _ _ rfl (scT _ rfl) ?_; (repeat (first | refine Look.here (of_decide_eq_true rfl) rfl ?_ | refine Look.self rfl ?_ | refine Look.next ?_)); (with_reducible show wpList _ _ _ _ _ _); simp only [nA])
  | ((with_reducible first | refine to_store 3 rfl ?_ | refine to_store 4 rfl ?_ | refine to_store 5 rfl ?_ | refine to_store 24 rfl ?_ | refine to_store 25 rfl ?_); (first | refine Wl_store1 hS (fun _ => by rfl) _ _ (.int _ _) rfl rfl (scT _ rfl) rfl rfl ?_ | refine Wl_store1 hS (fun _ => by rfl) _ _ (.bool _) rfl rfl (scT _ rfl) rfl rfl ?_ | refine Wl_store1 hS (fun _ => by rfl) _ _ (.slice _ _ _) rfl rfl (scT _ rfl) rfl rfl ?_); (repeat (first | refine Turn1.here (of_decide_eq_true rfl) (of_decide_eq_true rfl) ?_ | refine Turn1.next ?_)); clear hS; intro wW hS; (try simp only [nA]); try simp only [Nat.sub_zero, Nat.add_zero, Nat.zero_add, Nat.reduceSub, Nat.add_sub_cancel_left, rg_ss] at hS)
  | ((with_reducible refine to_load 40 rfl ?_); refine Wl_load hS (fun _ => by rfl) _ _ rfl _ Try.underlying40 rfl ?_; (repeat (first | (refine Row.here ⟨rrgI.trans rfl, ?_⟩) | refine Row.next ?_)); (with_reducible show wpList _ _ _ _ _ _); simp only [nA])
  | ((with_reducible refine to_store 40 rfl ?_); refine Wl_store hS (fun _ => by rfl) _ _ _ rfl rfl (rrgI.trans rfl) (rg_one _ _ _ _) ?_; (repeat (first | refine Turn.here rfl ?_ | refine Turn.next ?_)); clear hS; intro wW hS; try simp only [nA]))
    all_goals
      refine (rlower_any r.b b hrb.1 hrb.2 h0 h1 _).mono ?_
      rintro e w1 ⟨rfl, rfl⟩
      go_wp2_with (first
  | ((with_reducible refine to_boxT 40 rfl ?_); refine Wl_box hS (fun _ => by rfl) _ rfl ?_; clear hS; intro b2 wW hS; simp only [nA])
  | ((with_reducible refine to_alloc 40 rfl ?_); refine Wl_alloc hS (fun _ => by rfl) _ rrgZ ?_; clear hS; intro b4 wW hS; simp only [nA])
  | ((with_reducible first | refine to_load 3 rfl ?_ | refine to_load 4 rfl ?_ | refine to_load 5 rfl ?_ | refine to_load 24 rfl ?_ | refine to_load 25 rfl ?_); refine Wl_load1 hS (fun _ => by rfl) _ _ rfl (scT _ rfl) ?_; (repeat (first | refine Look.here (of_decide_eq_true rfl) rfl ?_ | refine Look.self rfl ?_ | refine Look.next ?_)); (with_reducible show wpList _ _ _ _ _ _); simp only [nA])
  | ((with_reducible first | refine to_store 3 rfl ?_ | refine to_store 4 rfl ?_ | refine to_store 5 rfl ?_ | refine to_store 24 rfl ?_ | refine to_store 25 rfl ?_); (first | refine Wl_store1 hS (fun _ => by rfl) _ _ (.int _ _) rfl rfl (scT _ rfl) rfl rfl ?_ | refine Wl_store1 hS (fun _ => by rfl) _ _ (.bool _) rfl rfl (scT _ rfl) rfl rfl ?_ | refine Wl_store1 hS (fun _ => by rfl) _ _ (.slice _ _ _) rfl rfl (scT _ rfl) rfl rfl ?_); (repeat (first | refine Turn1.here (of_decide_eq_true rfl) (of_decide_eq_true rfl) ?_ | refine Turn1.next ?_)); clear hS; intro wW hS; (try simp only [nA]); try simp only [Nat.sub_zero, Nat.add_zero, Nat.zero_add, Nat.reduceSub, Nat.add_sub_cancel_left, rg_ss] at hS)
  | ((with_reducible refine to_load 40 rfl ?_); refine Wl_load hS (fun _ => by rfl) _ _ rfl _ Try.underlying40 rfl ?_; (repeat (first | (refine Row.here ⟨rrgI.trans rfl, ?_⟩) | refine Row.next ?_)); (with_reducible show wpList _ _ _ _ _ _); simp only [nA])
  | ((with_reducible refine to_store 40 rfl ?_); refine Wl_store hS (fun _ => by rfl) _ _ _ rfl rfl (rrgI.trans rfl) (rg_one _ _ _ _) ?_; (repeat (first | refine Turn.here rfl ?_ | refine Turn.next ?_)); clear hS; intro wW hS; try simp only [nA]))
      refine ret_st hS rfl _ _ rfl rfl _ Try.underlying40 rfl ?_
      repeat (first | (refine Row.here ⟨rrgI.trans rfl, ?_⟩) | refine Row.next ?_)
      exact ⟨A1, c1, rfl, hS.lsF hshA1 hfA1 (fun e he => by repeat (first | exact he | exact List.mem_append_right _ he | exact List.mem_append_left _ he | refine List.Mem.tail _ ?_)), hS.below⟩
  by_cases k10 : k = 10
  · subst k10
    have e1 : M.rTake r b 10 rest = { r with want := rest, b := M.highW r.b b } := by unfold M.rTake; simp
    rw [e1]
    clear e1
    by_cases hcc : c = 1
    case' pos =>
      have hrr : rest = [] := List.eq_nil_of_length_eq_zero (by omega)
      subst hrr
    all_goals
      go_enter Try.func72, Try.ntmps72
      go_wp2_with (first
  | ((with_reducible refine to_boxT 40 rfl ?_); refine Wl_box hS (fun _ => by rfl) _ rfl ?_; clear hS; intro b2 wW hS; simp only [nA])
  | ((with_reducible refine to_alloc 40 rfl ?_); refine Wl_alloc hS (fun _ => by rfl) _ rrgZ ?_; clear hS; intro b4 wW hS; simp only [nA])
  | ((with_reducible first | refine to_load 3 rfl ?_ | refine to_load 4 rfl ?_ | refine to_load 5 rfl ?_ | refine to_load 24 rfl ?_ | refine to_load 25 rfl ?_); refine Wl_load1 hS (fun _ => by rfl) _ _ rfl (scT _ rfl) ?_; (repeat (first | refine Look.here (of_decide_eq_true rfl) rfl ?_ | refine Look.self rfl ?_ | refine Look.next ?_)); (with_reducible show wpList _ _ _ _ _ _); simp only [nA])
  | ((with_reducible first | refine to_store 3 rfl ?_ | refine to_store 4 rfl ?_ | refine to_store 5 rfl ?_ | refine to_store 24 rfl ?_ | refine to_store 25 rfl ?_); (first | refine Wl_store1 hS (fun _ => by rfl) _ _ (.int _ _) rfl rfl (scT _ rfl) rfl rfl ?_ | refine Wl_store1 hS (fun _ => by rfl) _ _ (.bool _) rfl rfl (scT _ rfl) rfl rfl ?_ | refine Wl_store1 hS (fun _ => by rfl) _ _ (.slice _ _ _) rfl rfl (scT _ rfl) rfl rfl ?_); (repeat (first | refine Turn1.here (of_decide_eq_true rfl) (of_decide_eq_true rfl) ?_ | refine Turn1.next ?_)); clear hS; intro wW hS; (try simp only [nA]); try simp only [Nat.sub_zero, Nat.add_zero, Nat.zero_add, Nat.reduceSub, Nat.add_sub_cancel_left, rg_ss] at hS)
  | ((with_reducible refine to_load 40 rfl ?_); refine Wl_load hS (fun _ => by rfl) _ _ rfl _ Try.underlying40 rfl ?_; (repeat (first | (refine Row.here ⟨rrgI.trans rfl, ?_⟩) | refine Row.next ?_)); (with_reducible show wpList _ _ _ _ _ _); simp only [nA])
  | ((with_reducible refine to_store 40 rfl ?_); refine Wl_store hS (fun _ => by rfl) _ _ _ rfl rfl (rrgI.trans rfl) (rg_one _ _ _ _) ?_; (repeat (first | refine Turn.here rfl ?_ | refine Turn.next ?_)); clear hS; intro wW hS; try simp only [nA]))
      (first | refine (rwantedCopy _ _ rest hL _ (r1.tail.below hS.below)).mono ?_ | refine (rwantedCopy _ _ [] (by decide) _ (Ls.nil _ _ _ _ (Nat.zero_le _))).mono ?_)
      rintro e w1 ⟨A1, c1, rfl, hl, hb⟩
      have hfA1 := fun e he => Nat.le_trans hS.size (hl.ent e he).1
      replace hS := hS.callN hb hl
      simp only [List.cons_append, List.nil_append] at hS
      have hshA1 := hl.shp
      clear hb hl
      go_wp2_with (first
  | ((with_reducible refine to_boxT 40 rfl ?_); refine Wl_box hS (fun _ => by rfl) _ rfl ?_; clear hS; intro b2 wW hS; simp only [nA])
  | ((with_reducible refine to_alloc 40 rfl ?_); refine Wl_alloc hS (fun _ => by rfl) _ rrgZ ?_; clear hS; intro b4 wW hS; simp only [nA])
  | ((with_reducible first | refine to_load 3 rfl ?_ | refine to_load 4 rfl ?_ | refine to_load 5 rfl ?_ | refine to_load 24 rfl ?_ | refine to_load 25 rfl ?_); refine Wl_load1 hS (fun _ => by rfl) _ _ rfl (scT _ rfl) ?_; (repeat (first | refine Look.here (of_decide_eq_true rfl) rfl ?_ | refine Look.self rfl ?_ | refine Look.next ?_)); (with_reducible show wpList _ _ _ _ _ _); simp only [nA])
  | ((with_reducible first | refine to_store 3 rfl ?_ | refine to_store 4 rfl ?_ | refine to_store 5 rfl ?_ | refine to_store 24 rfl ?_ | refine to_store 25 rfl ?_); (first | refine Wl_store1 hS (fun _ => by rfl) _ _ (.int _ _) rfl rfl (scT _ rfl) rfl rfl ?_ | refine Wl_store1 hS (fun _ => by rfl) _ _ (.bool _) rfl rfl (scT _ rfl) rfl rfl ?_ | refine Wl_store1 hS (fun _ => by rfl) _ _ (.slice _ _ _) rfl rfl (scT _ rfl) rfl rfl ?_); (repeat (first | refine Turn1.here (of_decide_eq_true rfl) (of_decide_eq_true rfl) ?_ | refine Turn1.next ?_)); clear hS; intro wW hS; (try simp only [nA]); try simp only [Nat.sub_zero, Nat.add_zero, Nat.zero_add, Nat.reduceSub, Nat.add_sub_cancel_left, rg_ss] at hS)
  | ((with_reducible refine to_load 40 rfl ?_); refine Wl_load hS (fun _ => by rfl) _ _ rfl _ Try.underlying40 rfl ?_; (repeat (first | (refine Row.here ⟨rrgI.trans rfl, ?_⟩) | refine Row.next ?_)); (with_reducible show wpList _ _ _ _ _ _); simp only [nA])
  | ((with_reducible refine to_store 40 rfl ?_); refine Wl_store hS (fun _ => by rfl) _ _ _ rfl rfl (rrgI.trans rfl) (rg_one _ _ _ _) ?_; (repeat (first | refine Turn.here rfl ?_ | refine Turn.next ?_)); clear hS; intro wW hS; try simp only [nA]))
    all_goals
      refine (rhigher_any r.b b hrb.1 hrb.2 h0 h1 _).mono ?_
      rintro e w1 ⟨rfl, rfl⟩
      go_wp2_with (first
  | ((with_reducible refine to_boxT 40 rfl ?_); refine Wl_box hS (fun _ => by rfl) _ rfl ?_; clear hS; intro b2 wW hS; simp only [nA])
  | ((with_reducible refine to_alloc 40 rfl ?_); refine Wl_alloc hS (fun _ => by rfl) _ rrgZ ?_; clear hS; intro b4 wW hS; simp only [nA])
  | ((with_reducible first | refine to_load 3 rfl ?_ | refine to_load 4 rfl ?_ | refine to_load 5 rfl ?_ | refine to_load 24 rfl ?_ | refine to_load 25 rfl ?_); refine Wl_load1 hS (fun _ => by rfl) _ _ rfl (scT _ rfl) ?_; (repeat (first | refine Look.here (of_decide_eq_true rfl) rfl ?_ | refine Look.self rfl ?_ | refine Look.next ?_)); (with_reducible show wpList _ _ _ _ _ _); simp only [nA])
  | ((with_reducible first | refine to_store 3 rfl ?_ | refine to_store 4 rfl ?_ | refine to_store 5 rfl ?_ | refine to_store 24 rfl ?_ | refine to_store 25 rfl ?_); (first | refine Wl_store1 hS (fun _ => by rfl) _ _ (.int _ _) rfl rfl (scT _ rfl) rfl rfl ?_ | refine Wl_store1 hS (fun _ => by rfl) _ _ (.bool _) rfl rfl (scT _ rfl) rfl rfl ?_ | refine Wl_store1 hS (fun _ => by rfl) _ _ (.slice _ _ _) rfl rfl (scT _ rfl) rfl rfl ?_); (repeat (first | refine Turn1.here (of_decide_eq_true rfl) (of_decide_eq_true rfl) ?_ | refine Turn1.next ?_)); clear hS; intro wW hS; (try simp only [nA]); try simp only [Nat.sub_zero, Nat.add_zero, Nat.zero_add, Nat.reduceSub, Nat.add_sub_cancel_left, rg_ss] at hS)
  | ((with_reducible refine to_load 40 rfl ?_); refine Wl_load hS (fun _ => by rfl) _ _ rfl _ Try.underlying40 rfl ?_; (repeat (first | (refine Row.here ⟨rrgI.trans rfl, ?_⟩) | refine Row.next ?_)); (with_reducible show wpList _ _ _ _ _ _); simp only [nA])
  | ((with_reducible refine to_store 40 rfl ?_); refine Wl_store hS (fun _ => by rfl) _ _ _ rfl rfl (rrgI.trans rfl) (rg_one _ _ _ _) ?_; (repeat (first | refine Turn.here rfl ?_ | refine Turn.next ?_)); clear hS; intro wW hS; try simp only [nA]))
      refine ret_st hS rfl _ _ rfl rfl _ Try.underlying40 rfl ?_
      repeat (first | (refine Row.here ⟨rrgI.trans rfl, ?_⟩) | refine Row.next ?_)
      exact ⟨A1, c1, rfl, hS.lsF hshA1 hfA1 (fun e he => by repeat (first | exact he | exact List.mem_append_right _ he | exact List.mem_append_left _ he | refine List.Mem.tail _ ?_)), hS.below⟩
  by_cases k11 : k = 11
  · subst k11
    have e1 : M.rTake r b 11 rest = { r with want := M.rWants b 12 3 2 ++ rest, ctl := b } := by unfold M.rTake; simp
    rw [e1]
    clear e1
    obtain ⟨i0, hi0, hz0, hz1, hz2⟩ := info_get infoInt
    have hle : ints .i64 ([] ++ M.rWants b 12 3 2) ++ ints .i64 rest = ints .i64 (M.rWants b 12 3 2 ++ rest) := by simp [ints]
    have hw := M.rWants_len b 12 3 2
    have HW := Lib.hid hw
    clear hw
    by_cases hcc : c = 1
    case' pos =>
      have hrr : rest = [] := List.eq_nil_of_length_eq_zero (by omega)
      subst hrr
      have hT : ∀ W, Below w.heap.size w W → Ls 0 W (.slice (some ⟨bq, q, none⟩) ([] : List Int).length 0) (ints .i64 []) := fun W _ => Ls.nil _ _ _ _ (Nat.zero_le _)
    case' neg =>
      have hT : ∀ W, Below w.heap.size w W → Ls 0 W (.slice (some ⟨bq, q + 1, none⟩) rest.length (c - 1)) (ints .i64 rest) := fun W hW => r1.tail.below hW
    all_goals
      have HT := Lib.hid hT
      have HLE := Lib.hid hle
      clear hT hle
      go_enter Try.func72, Try.ntmps72
      go_wp2_with (first
  | ((with_reducible refine to_boxT 40 rfl ?_); refine Wl_box hS (fun _ => by rfl) _ rfl ?_; clear hS; intro b2 wW hS; simp only [nA])
  | ((with_reducible refine to_alloc 40 rfl ?_); refine Wl_alloc hS (fun _ => by rfl) _ rrgZ ?_; clear hS; intro b4 wW hS; simp only [nA])
  | ((with_reducible first | refine to_load 3 rfl ?_ | refine to_load 4 rfl ?_ | refine to_load 5 rfl ?_ | refine to_load 24 rfl ?_ | refine to_load 25 rfl ?_); refine Wl_load1 hS (fun _ => by rfl) _ _ rfl (scT _ rfl) ?_; (repeat (first | refine Look.here (of_decide_eq_true rfl) rfl ?_ | refine Look.self rfl ?_ | refine Look.next ?_)); (with_reducible show wpList _ _ _ _ _ _); simp only [nA])
  | ((with_reducible first | refine to_store 3 rfl ?_ | refine to_store 4 rfl ?_ | refine to_store 5 rfl ?_ | refine to_store 24 rfl ?_ | refine to_store 25 rfl ?_); (first | refine Wl_store1 hS (fun _ => by rfl) _ _ (.int _ _) rfl rfl (scT _ rfl) rfl rfl ?_ | refine Wl_store1 hS (fun _ => by rfl) _ _ (.bool _) rfl rfl (scT _ rfl) rfl rfl ?_ | refine Wl_store1 hS (fun _ => by rfl) _ _ (.slice _ _ _) rfl rfl (scT _ rfl) rfl rfl ?_); (repeat (first | refine Turn1.here (of_decide_eq_true rfl) (of_decide_eq_true rfl) ?_ | refine Turn1.next ?_)); clear hS; intro wW hS; (try simp only [nA]); try simp only [Nat.sub_zero, Nat.add_zero, Nat.zero_add, Nat.reduceSub, Nat.add_sub_cancel_left, rg_ss] at hS)
  | ((with_reducible refine to_load 40 rfl ?_); refine Wl_load hS (fun _ => by rfl) _ _ rfl _ Try.underlying40 rfl ?_; (repeat (first | (refine Row.here ⟨rrgI.trans rfl, ?_⟩) | refine Row.next ?_)); (with_reducible show wpList _ _ _ _ _ _); simp only [nA])
  | ((with_reducible refine to_store 40 rfl ?_); refine Wl_store hS (fun _ => by rfl) _ _ _ rfl rfl (rrgI.trans rfl) (rg_one _ _ _ _) ?_; (repeat (first | refine Turn.here rfl ?_ | refine Turn.next ?_)); clear hS; intro wW hS; try simp only [nA]))
      refine (rwantedCopy _ _ _ hL _ (HT.out _ hS.below)).mono ?_
      rintro e w1 ⟨A1, c1, rfl, hl, hb⟩
      replace hS := hS.call hb
      clear hb hl
      go_wp2_with (first
  | ((with_reducible refine to_bsl ?_); refine Wl_bsl hS 3 .i64 ([3, 4]) Try.underlying25 szI zI rfl (by decide) (by decide) rfl ?_; clear hS; intro b5 wW hgeb5 hS; simp only [nA])
  | ((with_reducible first | refine to_load 3 rfl ?_ | refine to_load 4 rfl ?_ | refine to_load 5 rfl ?_ | refine to_load 24 rfl ?_ | refine to_load 25 rfl ?_); refine Wl_load1 hS (fun _ => by rfl) _ _ rfl (scT _ rfl) ?_; (repeat (first | refine Look.here (of_decide_eq_true rfl) rfl ?_ | refine Look.self rfl ?_ | refine Look.next ?_)); (with_reducible show wpList _ _ _ _ _ _); simp only [nA])
  | ((with_reducible first | refine to_store 3 rfl ?_ | refine to_store 4 rfl ?_ | refine to_store 5 rfl ?_ | refine to_store 24 rfl ?_ | refine to_store 25 rfl ?_); (first | refine Wl_store1 hS (fun _ => by rfl) _ _ (.int _ _) rfl rfl (scT _ rfl) rfl rfl ?_ | refine Wl_store1 hS (fun _ => by rfl) _ _ (.bool _) rfl rfl (scT _ rfl) rfl rfl ?_ | refine Wl_store1 hS (fun _ => by rfl) _ _ (.slice _ _ _) rfl rfl (scT _ rfl) rfl rfl ?_); (repeat (first | refine Turn1.here (of_decide_eq_true rfl) (of_decide_eq_true rfl) ?_ | refine Turn1.next ?_)); clear hS; intro wW hS; (try simp only [nA]); try simp only [Nat.sub_zero, Nat.add_zero, Nat.zero_add, Nat.reduceSub, Nat.add_sub_cancel_left, rg_ss] at hS))
      refine (rwanted_any none 0 [] b 12 3 2 _ _ h0 h1 (by decide) (by decide) (by decide) (by decide) (by decide) _ (Ls.nil _ _ _ _ (Nat.zero_le _)) (hS.lsOwn (F := 0) (k := .i64) (zs := M.upFrom 3 2) (Nat.zero_le _) (.head _) (by decide))).mono ?_
      rintro e w1 ⟨v, E, rfl, hO, hE⟩
      replace hS := hS.callO hE (hO.ge (es := []) hE)
      simp only [List.cons_append, List.nil_append] at hS
      clear hE
      have hsrc := (HT.out _ hS.below).src (P := Try.prog) (tx := 25) Try.underlying25 (ints_one _ _)
      go_wp2_with (first | ((with_reducible refine to_app ?_); refine Wl_app (es := [_, _, _, _]) hS hO 3 i0 (.int .i64 0) 8 Try.underlying25 hi0 hz0 hz1 hz2 rfl rfl _ _ hsrc (by have := HW.out; simp [ints, maxLen] at this ⊢; omega) (by have := HW.out; simp [ints] at this ⊢; omega) ?_; clear hS hO hsrc; intro v2 E2 wW hO hS; rw [HLE.out] at hO; obtain ⟨A2, c2, rfl⟩ := hO.len; rw [ints_length] at hO; simp only [ints_length, List.cons_append, List.nil_append, Act.put, List.setIfInBounds_toArray, List.set_cons_zero, List.set_cons_succ] at hS ⊢) | first
  | ((with_reducible refine to_boxT 40 rfl ?_); refine Wl_box hS (fun _ => by rfl) _ rfl ?_; clear hS; intro b2 wW hS; simp only [nA])
  | ((with_reducible refine to_alloc 40 rfl ?_); refine Wl_alloc hS (fun _ => by rfl) _ rrgZ ?_; clear hS; intro b4 wW hS; simp only [nA])
  | ((with_reducible first | refine to_load 3 rfl ?_ | refine to_load 4 rfl ?_ | refine to_load 5 rfl ?_ | refine to_load 24 rfl ?_ | refine to_load 25 rfl ?_); refine Wl_load1 hS (fun _ => by rfl) _ _ rfl (scT _ rfl) ?_; (repeat (first | refine Look.here (of_decide_eq_true rfl) rfl ?_ | refine Look.self rfl ?_ | refine Look.next ?_)); (with_reducible show wpList _ _ _ _ _ _); simp only [nA])
  | ((with_reducible first | refine to_store 3 rfl ?_ | refine to_store 4 rfl ?_ | refine to_store 5 rfl ?_ | refine to_store 24 rfl ?_ | refine to_store 25 rfl ?_); (first | refine Wl_store1 hS (fun _ => by rfl) _ _ (.int _ _) rfl rfl (scT _ rfl) rfl rfl ?_ | refine Wl_store1 hS (fun _ => by rfl) _ _ (.bool _) rfl rfl (scT _ rfl) rfl rfl ?_ | refine Wl_store1 hS (fun _ => by rfl) _ _ (.slice _ _ _) rfl rfl (scT _ rfl) rfl rfl ?_); (repeat (first | refine Turn1.here (of_decide_eq_true rfl) (of_decide_eq_true rfl) ?_ | refine Turn1.next ?_)); clear hS; intro wW hS; (try simp only [nA]); try simp only [Nat.sub_zero, Nat.add_zero, Nat.zero_add, Nat.reduceSub, Nat.add_sub_cancel_left, rg_ss] at hS)
  | ((with_reducible refine to_load 40 rfl ?_); refine Wl_load hS (fun _ => by rfl) _ _ rfl _ Try.underlying40 rfl ?_; (repeat (first | (refine Row.here ⟨rrgI.trans rfl, ?_⟩) | refine Row.next ?_)); (with_reducible show wpList _ _ _ _ _ _); simp only [nA])
  | ((with_reducible refine to_store 40 rfl ?_); refine Wl_store hS (fun _ => by rfl) _ _ _ rfl rfl (rrgI.trans rfl) (rg_one _ _ _ _) ?_; (repeat (first | refine Turn.here rfl ?_ | refine Turn.next ?_)); clear hS; intro wW hS; try simp only [nA]))
      refine ret_st hS rfl _ _ rfl rfl _ Try.underlying40 rfl ?_
      repeat (first | (refine Row.here ⟨rrgI.trans rfl, ?_⟩) | refine Row.next ?_)
      exact ⟨A2, c2, rfl, hO.res (es := [_, _, _, _]) hS, hS.below⟩
  by_cases k12 : k = 12
  · subst k12
    have e1 : M.rTake r b 12 rest = { r with want := rest, pulse := b } := by unfold M.rTake; simp
    rw [e1]
    clear e1
    by_cases hcc : c = 1
    case' pos =>
      have hrr : rest = [] := List.eq_nil_of_length_eq_zero (by omega)
      subst hrr
    all_goals
      go_enter Try.func72, Try.ntmps72
      go_wp2_with (first
  | ((with_reducible refine to_boxT 40 rfl ?_); refine Wl_box hS (fun _ => by rfl) _ rfl ?_; clear hS; intro b2 wW hS; simp only [nA])
  | ((with_reducible refine to_alloc 40 rfl ?_); refine Wl_alloc hS (fun _ => by rfl) _ rrgZ ?_; clear hS; intro b4 wW hS; simp only [nA])
  | ((with_reducible first | refine to_load 3 rfl ?_ | refine to_load 4 rfl ?_ | refine to_load 5 rfl ?_ | refine to_load 24 rfl ?_ | refine to_load 25 rfl ?_); refine Wl_load1 hS (fun _ => by rfl) _ _ rfl (scT _ rfl) ?_; (repeat (first | refine Look.here (of_decide_eq_true rfl) rfl ?_ | refine Look.self rfl ?_ | refine Look.next ?_)); (with_reducible show wpList _ _ _ _ _ _); simp only [nA])
  | ((with_reducible first | refine to_store 3 rfl ?_ | refine to_store 4 rfl ?_ | refine to_store 5 rfl ?_ | refine to_store 24 rfl ?_ | refine to_store 25 rfl ?_); (first | refine Wl_store1 hS (fun _ => by rfl) _ _ (.int _ _) rfl rfl (scT _ rfl) rfl rfl ?_ | refine Wl_store1 hS (fun _ => by rfl) _ _ (.bool _) rfl rfl (scT _ rfl) rfl rfl ?_ | refine Wl_store1 hS (fun _ => by rfl) _ _ (.slice _ _ _) rfl rfl (scT _ rfl) rfl rfl ?_); (repeat (first | refine Turn1.here (of_decide_eq_true rfl) (of_decide_eq_true rfl) ?_ | refine Turn1.next ?_)); clear hS; intro wW hS; (try simp only [nA]); try simp only [Nat.sub_zero, Nat.add_zero, Nat.zero_add, Nat.reduceSub, Nat.add_sub_cancel_left, rg_ss] at hS)
  | ((with_reducible refine to_load 40 rfl ?_); refine Wl_load hS (fun _ => by rfl) _ _ rfl _ Try.underlying40 rfl ?_; (repeat (first | (refine Row.here ⟨rrgI.trans rfl, ?_⟩) | refine Row.next ?_)); (with_reducible show wpList _ _ _ _ _ _); simp only [nA])
  | ((with_reducible refine to_store 40 rfl ?_); refine Wl_store hS (fun _ => by rfl) _ _ _ rfl rfl (rrgI.trans rfl) (rg_one _ _ _ _) ?_; (repeat (first | refine Turn.here rfl ?_ | refine Turn.next ?_)); clear hS; intro wW hS; try simp only [nA]))
      (first | refine (rwantedCopy _ _ rest hL _ (r1.tail.below hS.below)).mono ?_ | refine (rwantedCopy _ _ [] (by decide) _ (Ls.nil _ _ _ _ (Nat.zero_le _))).mono ?_)
      rintro e w1 ⟨A1, c1, rfl, hl, hb⟩
      have hfA1 := fun e he => Nat.le_trans hS.size (hl.ent e he).1
      replace hS := hS.callN hb hl
      simp only [List.cons_append, List.nil_append] at hS
      have hshA1 := hl.shp
      clear hb hl
      go_wp2_with (first
  | ((with_reducible refine to_boxT 40 rfl ?_); refine Wl_box hS (fun _ => by rfl) _ rfl ?_; clear hS; intro b2 wW hS; simp only [nA])
  | ((with_reducible refine to_alloc 40 rfl ?_); refine Wl_alloc hS (fun _ => by rfl) _ rrgZ ?_; clear hS; intro b4 wW hS; simp only [nA])
  | ((with_reducible first | refine to_load 3 rfl ?_ | refine to_load 4 rfl ?_ | refine to_load 5 rfl ?_ | refine to_load 24 rfl ?_ | refine to_load 25 rfl ?_); refine Wl_load1 hS (fun _ => by rfl) _ _ rfl (scT _ rfl) ?_; (repeat (first | refine Look.here (of_decide_eq_true rfl) rfl ?_ | refine Look.self rfl ?_ | refine Look.next ?_)); (with_reducible show wpList _ _ _ _ _ _); simp only [nA])
  | ((with_reducible first | refine to_store 3 rfl ?_ | refine to_store 4 rfl ?_ | refine to_store 5 rfl ?_ | refine to_store 24 rfl ?_ | refine to_store 25 rfl ?_); (first | refine Wl_store1 hS (fun _ => by rfl) _ _ (.int _ _) rfl rfl (scT _ rfl) rfl rfl ?_ | refine Wl_store1 hS (fun _ => by rfl) _ _ (.bool _) rfl rfl (scT _ rfl) rfl rfl ?_ | refine Wl_store1 hS (fun _ => by rfl) _ _ (.slice _ _ _) rfl rfl (scT _ rfl) rfl rfl ?_); (repeat (first | refine Turn1.here (of_decide_eq_true rfl) (of_decide_eq_true rfl) ?_ | refine Turn1.next ?_)); clear hS; intro wW hS; (try simp only [nA]); try simp only [Nat.sub_zero, Nat.add_zero, Nat.zero_add, Nat.reduceSub, Nat.add_sub_cancel_left, rg_ss] at hS)
  | ((with_reducible refine to_load 40 rfl ?_); refine Wl_load hS (fun _ => by rfl) _ _ rfl _ Try.underlying40 rfl ?_; (repeat (first | (refine Row.here ⟨rrgI.trans rfl, ?_⟩) | refine Row.next ?_)); (with_reducible show wpList _ _ _ _ _ _); simp only [nA])
  | ((with_reducible refine to_store 40 rfl ?_); refine Wl_store hS (fun _ => by rfl) _ _ _ rfl rfl (rrgI.trans rfl) (rg_one _ _ _ _) ?_; (repeat (first | refine Turn.here rfl ?_ | refine Turn.next ?_)); clear hS; intro wW hS; try simp only [nA]))
    all_goals
      refine ret_st hS rfl _ _ rfl rfl _ Try.underlying40 rfl ?_
      repeat (first | (refine Row.here ⟨rrgI.trans rfl, ?_⟩) | refine Row.next ?_)
      exact ⟨A1, c1, rfl, hS.lsF hshA1 hfA1 (fun e he => by repeat (first | exact he | exact List.mem_append_right _ he | exact List.mem_append_left _ he | refine List.Mem.tail _ ?_)), hS.below⟩
  by_cases k13 : k = 13
  · subst k13
    have e1 : M.rTake r b 13 rest = { r with want := rest, vec := b } := by unfold M.rTake; simp
    rw [e1]
    clear e1
    by_cases hcc : c = 1
    case' pos =>
      have hrr : rest = [] := List.eq_nil_of_length_eq_zero (by omega)
      subst hrr
    all_goals
      go_enter Try.func72, Try.ntmps72
      go_wp2_with (first
  | ((with_reducible refine to_boxT 40 rfl ?_); refine Wl_box hS (fun _ => by rfl) _ rfl ?_; clear hS; intro b2 wW hS; simp only [nA])
  | ((with_reducible refine to_alloc 40 rfl ?_); refine Wl_alloc hS (fun _ => by rfl) _ rrgZ ?_; clear hS; intro b4 wW hS; simp only [nA])
  | ((with_reducible first | refine to_load 3 rfl ?_ | refine to_load 4 rfl ?_ | refine to_load 5 rfl ?_ | refine to_load 24 rfl ?_ | refine to_load 25 rfl ?_); refine Wl_load1 hS (fun _ => by rfl) _ _ rfl (scT _ rfl) ?_; (repeat (first | refine Look.here (of_decide_eq_true rfl) rfl ?_ | refine Look.self rfl ?_ | refine Look.next ?_)); (with_reducible show wpList _ _ _ _ _ _); simp only [nA])
  | ((with_reducible first | refine to_store 3 rfl ?_ | refine to_store 4 rfl ?_ | refine to_store 5 rfl ?_ | refine to_store 24 rfl ?_ | refine to_store 25 rfl ?_); (first | refine Wl_store1 hS (fun _ => by rfl) _ _ (.int _ _) rfl rfl (scT _ rfl) rfl rfl ?_ | refine Wl_store1 hS (fun _ => by rfl) _ _ (.bool _) rfl rfl (scT _ rfl) rfl rfl ?_ | refine Wl_store1 hS (fun _ => by rfl) _ _ (.slice _ _ _) rfl rfl (scT _ rfl) rfl rfl ?_); (repeat (first | refine Turn1.here (of_decide_eq_true rfl) (of_decide_eq_true rfl) ?_ | refine Turn1.next ?_)); clear hS; intro wW hS; (try simp only [nA]); try simp only [Nat.sub_zero, Nat.add_zero, Nat.zero_add, Nat.reduceSub, Nat.add_sub_cancel_left, rg_ss] at hS)
  | ((with_reducible refine to_load 40 rfl ?_); refine Wl_load hS (fun _ => by rfl) _ _ rfl _ Try.underlying40 rfl ?_; (repeat (first | (refine Row.here ⟨rrgI.trans rfl, ?_⟩) | refine Row.next ?_)); (with_reducible show wpList _ _ _ _ _ _); simp only [nA])
  | ((with_reducible refine to_store 40 rfl ?_); refine Wl_store hS (fun _ => by rfl) _ _ _ rfl rfl (rrgI.trans rfl) (rg_one _ _ _ _) ?_; (repeat (first | refine Turn.here rfl ?_ | refine Turn.next ?_)); clear hS; intro wW hS; try simp only [nA]))
      (first | refine (rwantedCopy _ _ rest hL _ (r1.tail.below hS.below)).mono ?_ | refine (rwantedCopy _ _ [] (by decide) _ (Ls.nil _ _ _ _ (Nat.zero_le _))).mono ?_)
      rintro e w1 ⟨A1, c1, rfl, hl, hb⟩
      have hfA1 := fun e he => Nat.le_trans hS.size (hl.ent e he).1
      replace hS := hS.callN hb hl
      simp only [List.cons_append, List.nil_append] at hS
      have hshA1 := hl.shp
      clear hb hl
      go_wp2_with (first
  | ((with_reducible refine to_boxT 40 rfl ?_); refine Wl_box hS (fun _ => by rfl) _ rfl ?_; clear hS; intro b2 wW hS; simp only [nA])
  | ((with_reducible refine to_alloc 40 rfl ?_); refine Wl_alloc hS (fun _ => by rfl) _ rrgZ ?_; clear hS; intro b4 wW hS; simp only [nA])
  | ((with_reducible first | refine to_load 3 rfl ?_ | refine to_load 4 rfl ?_ | refine to_load 5 rfl ?_ | refine to_load 24 rfl ?_ | refine to_load 25 rfl ?_); refine Wl_load1 hS (fun _ => by rfl) _ _ rfl (scT _ rfl) ?_; (repeat (first | refine Look.here (of_decide_eq_true rfl) rfl ?_ | refine Look.self rfl ?_ | refine Look.next ?_)); (with_reducible show wpList _ _ _ _ _ _); simp only [nA])
  | ((with_reducible first | refine to_store 3 rfl ?_ | refine to_store 4 rfl ?_ | refine to_store 5 rfl ?_ | refine to_store 24 rfl ?_ | refine to_store 25 rfl ?_); (first | refine Wl_store1 hS (fun _ => by rfl) _ _ (.int _ _) rfl rfl (scT _ rfl) rfl rfl ?_ | refine Wl_store1 hS (fun _ => by rfl) _ _ (.bool _) rfl rfl (scT _ rfl) rfl rfl ?_ | refine Wl_store1 hS (fun _ => by rfl) _ _ (.slice _ _ _) rfl rfl (scT _ rfl) rfl rfl ?_); (repeat (first | refine Turn1.here (of_decide_eq_true rfl) (of_decide_eq_true rfl) ?_ | refine Turn1.next ?_)); clear hS; intro wW hS; (try simp only [nA]); try simp only [Nat.sub_zero, Nat.add_zero, Nat.zero_add, Nat.reduceSub, Nat.add_sub_cancel_left, rg_ss] at hS)
  | ((with_reducible refine to_load 40 rfl ?_); refine Wl_load hS (fun _ => by rfl) _ _ rfl _ Try.underlying40 rfl ?_; (repeat (first | (refine Row.here ⟨rrgI.trans rfl, ?_⟩) | refine Row.next ?_)); (with_reducible show wpList _ _ _ _ _ _); simp only [nA])
  | ((with_reducible refine to_store 40 rfl ?_); refine Wl_store hS (fun _ => by rfl) _ _ _ rfl rfl (rrgI.trans rfl) (rg_one _ _ _ _) ?_; (repeat (first | refine Turn.here rfl ?_ | refine Turn.next ?_)); clear hS; intro wW hS; try simp only [nA]))
    all_goals
      refine ret_st hS rfl _ _ rfl rfl _ Try.underlying40 rfl ?_
      repeat (first | (refine Row.here ⟨rrgI.trans rfl, ?_⟩) | refine Row.next ?_)
      exact ⟨A1, c1, rfl, hS.lsF hshA1 hfA1 (fun e he => by repeat (first | exact he | exact List.mem_append_right _ he | exact List.mem_append_left _ he | refine List.Mem.tail _ ?_)), hS.below⟩
  by_cases k14 : k = 14
  · subst k14
    have e1 : M.rTake r b 14 rest = { r with want := rest, rmask := b % 128 } := by unfold M.rTake; simp
    rw [e1]
    clear e1
    by_cases hcc : c = 1
    case' pos =>
      have hrr : rest = [] := List.eq_nil_of_length_eq_zero (by omega)
      subst hrr
    all_goals
      go_enter Try.func72, Try.ntmps72
      go_wp2_with (first
  | ((with_reducible refine to_boxT 40 rfl ?_); refine Wl_box hS (fun _ => by rfl) _ rfl ?_; clear hS; intro b2 wW hS; simp only [nA])
  | ((with_reducible refine to_alloc 40 rfl ?_); refine Wl_alloc hS (fun _ => by rfl) _ rrgZ ?_; clear hS; intro b4 wW hS; simp only [nA])
  | ((with_reducible first | refine to_load 3 rfl ?_ | refine to_load 4 rfl ?_ | refine to_load 5 rfl ?_ | refine to_load 24 rfl ?_ | refine to_load 25 rfl ?_); refine Wl_load1 hS (fun _ => by rfl) _ _ rfl (scT _ rfl) ?_; (repeat (first | refine Look.here (of_decide_eq_true rfl) rfl ?_ | refine Look.self rfl ?_ | refine Look.next ?_)); (with_reducible show wpList _ _ _ _ _ _); simp only [nA])
  | ((with_reducible first | refine to_store 3 rfl ?_ | refine to_store 4 rfl ?_ | refine to_store 5 rfl ?_ | refine to_store 24 rfl ?_ | refine to_store 25 rfl ?_); (first | refine Wl_store1 hS (fun _ => by rfl) _ _ (.int _ _) rfl rfl (scT _ rfl) rfl rfl ?_ | refine Wl_store1 hS (fun _ => by rfl) _ _ (.bool _) rfl rfl (scT _ rfl) rfl rfl ?_ | refine Wl_store1 hS (fun _ => by rfl) _ _ (.slice _ _ _) rfl rfl (scT _ rfl) rfl rfl ?_); (repeat (first | refine Turn1.here (of_decide_eq_true rfl) (of_decide_eq_true rfl) ?_ | refine Turn1.next ?_)); clear hS; intro wW hS; (try simp only [nA]); try simp only [Nat.sub_zero, Nat.add_zero, Nat.zero_add, Nat.reduceSub, Nat.add_sub_cancel_left, rg_ss] at hS)
  | ((with_reducible refine to_load 40 rfl ?_); refine Wl_load hS (fun _ => by rfl) _ _ rfl _ Try.underlying40 rfl ?_; (repeat (first | (refine Row.here ⟨rrgI.trans rfl, ?_⟩) | refine Row.next ?_)); (with_reducible show wpList _ _ _ _ _ _); simp only [nA])
  | ((with_reducible refine to_store 40 rfl ?_); refine Wl_store hS (fun _ => by rfl) _ _ _ rfl rfl (rrgI.trans rfl) (rg_one _ _ _ _) ?_; (repeat (first | refine Turn.here rfl ?_ | refine Turn.next ?_)); clear hS; intro wW hS; try simp only [nA]))
      (first | refine (rwantedCopy _ _ rest hL _ (r1.tail.below hS.below)).mono ?_ | refine (rwantedCopy _ _ [] (by decide) _ (Ls.nil _ _ _ _ (Nat.zero_le _))).mono ?_)
      rintro e w1 ⟨A1, c1, rfl, hl, hb⟩
      have hfA1 := fun e he => Nat.le_trans hS.size (hl.ent e he).1
      replace hS := hS.callN hb hl
      simp only [List.cons_append, List.nil_append] at hS
      have hshA1 := hl.shp
      clear hb hl
      go_wp2_with (first
  | ((with_reducible refine to_boxT 40 rfl ?_); refine Wl_box hS (fun _ => by rfl) _ rfl ?_; clear hS; intro b2 wW hS; simp only [nA])
  | ((with_reducible refine to_alloc 40 rfl ?_); refine Wl_alloc hS (fun _ => by rfl) _ rrgZ ?_; clear hS; intro b4 wW hS; simp only [nA])
  | ((with_reducible first | refine to_load 3 rfl ?_ | refine to_load 4 rfl ?_ | refine to_load 5 rfl ?_ | refine to_load 24 rfl ?_ | refine to_load 25 rfl ?_); refine Wl_load1 hS (fun _ => by rfl) _ _ rfl (scT _ rfl) ?_; (repeat (first | refine Look.here (of_decide_eq_true rfl) rfl ?_ | refine Look.self rfl ?_ | refine Look.next ?_)); (with_reducible show wpList _ _ _ _ _ _); simp only [nA])
  | ((with_reducible first | refine to_store 3 rfl ?_ | refine to_store 4 rfl ?_ | refine to_store 5 rfl ?_ | refine to_store 24 rfl ?_ | refine to_store 25 rfl ?_); (first | refine Wl_store1 hS (fun _ => by rfl) _ _ (.int _ _) rfl rfl (scT _ rfl) rfl rfl ?_ | refine Wl_store1 hS (fun _ => by rfl) _ _ (.bool _) rfl rfl (scT _ rfl) rfl rfl ?_ | refine Wl_store1 hS (fun _ => by rfl) _ _ (.slice _ _ _) rfl rfl (scT _ rfl) rfl rfl ?_); (repeat (first | refine Turn1.here (of_decide_eq_true rfl) (of_decide_eq_true rfl) ?_ | refine Turn1.next ?_)); clear hS; intro wW hS; (try simp only [nA]); try simp only [Nat.sub_zero, Nat.add_zero, Nat.zero_add, Nat.reduceSub, Nat.add_sub_cancel_left, rg_ss] at hS)
  | ((with_reducible refine to_load 40 rfl ?_); refine Wl_load hS (fun _ => by rfl) _ _ rfl _ Try.underlying40 rfl ?_; (repeat (first | (refine Row.here ⟨rrgI.trans rfl, ?_⟩) | refine Row.next ?_)); (with_reducible show wpList _ _ _ _ _ _); simp only [nA])
  | ((with_reducible refine to_store 40 rfl ?_); refine Wl_store hS (fun _ => by rfl) _ _ _ rfl rfl (rrgI.trans rfl) (rg_one _ _ _ _) ?_; (repeat (first | refine Turn.here rfl ?_ | refine Turn.next ?_)); clear hS; intro wW hS; try simp only [nA]))
    all_goals
      refine ret_st hS rfl _ _ rfl rfl _ Try.underlying40 rfl ?_
      repeat (first | (refine Row.here ⟨rrgI.trans rfl, ?_⟩) | refine Row.next ?_)
      exact ⟨A1, c1, rfl, hS.lsF hshA1 hfA1 (fun e he => by repeat (first | exact he | exact List.mem_append_right _ he | exact List.mem_append_left _ he | refine List.Mem.tail _ ?_)), hS.below⟩
  have e1 : M.rTake r b k rest = { r with want := rest } := by unfold M.rTake; simp [k1, k2, k3, k4, k5, k6, k7, k8, k9, k10, k11, k12, k13, k14]
  rw [e1]
  clear e1
  have t1 : (k == 1) = false := by simpa using k1
  have t2 : (k == 2) = false := by simpa using k2
  have t3 : (k == 3) = false := by simpa using k3
  have t4 : (k == 4) = false := by simpa using k4
  have t5 : (k == 5) = false := by simpa using k5
  have t6 : (k == 6) = false := by simpa using k6
  have t7 : (k == 7) = false := by simpa using k7
  have t8 : (k == 8) = false := by simpa using k8
  have t9 : (k == 9) = false := by simpa using k9
  have t10 : (k == 10) = false := by simpa using k10
  have t11 : (k == 11) = false := by simpa using k11
  have t12 : (k == 12) = false := by simpa using k12
  have t13 : (k == 13) = false := by simpa using k13
  have t14 : (k == 14) = false := by simpa using k14
  clear k1 k2 k3 k4 k5 k6 k7 k8 k9 k10 k11 k12 k13 k14
  by_cases hcc : c = 1
  case' pos =>
    have hrr : rest = [] := List.eq_nil_of_length_eq_zero (by omega)
    subst hrr
  all_goals
    go_enter Try.func72, Try.ntmps72
    go_wp2_with (first
  | ((with_reducible refine to_boxT 40 rfl ?_); refine Wl_box hS (fun _ => by rfl) _ rfl ?_; clear hS; intro b2 wW hS; simp only [nA])
  | ((with_reducible refine to_alloc 40 rfl ?_); refine Wl_alloc hS (fun _ => by rfl) _ rrgZ ?_; clear hS; intro b4 wW hS; simp only [nA])
  | ((with_reducible first | refine to_load 3 rfl ?_ | refine to_load 4 rfl ?_ | refine to_load 5 rfl ?_ | refine to_load 24 rfl ?_ | refine to_load 25 rfl ?_); refine Wl_load1 hS (fun _ => by rfl) _ _ rfl (scT _ rfl) ?_; (repeat (first | refine Look.here (of_decide_eq_true rfl) rfl ?_ | refine Look.self rfl ?_ | refine Look.next ?_)); (with_reducible show wpList _ _ _ _ _ _); simp only [nA])
  | ((with_reducible first | refine to_store 3 rfl ?_ | refine to_store 4 rfl ?_ | refine to_store 5 rfl ?_ | refine to_store 24 rfl ?_ | refine to_store 25 rfl ?_); (first | refine Wl_store1 hS (fun _ => by rfl) _ _ (.int _ _) rfl rfl (scT _ rfl) rfl rfl ?_ | refine Wl_store1 hS (fun _ => by rfl) _ _ (.bool _) rfl rfl (scT _ rfl) rfl rfl ?_ | refine Wl_store1 hS (fun _ => by rfl) _ _ (.slice _ _ _) rfl rfl (scT _ rfl) rfl rfl ?_); (repeat (first | refine Turn1.here (of_decide_eq_true rfl) (of_decide_eq_true rfl) ?_ | refine Turn1.next ?_)); clear hS; intro wW hS; (try simp only [nA]); try simp only [Nat.sub_zero, Nat.add_zero, Nat.zero_add, Nat.reduceSub, Nat.add_sub_cancel_left, rg_ss] at hS)
  | ((with_reducible refine to_load 40 rfl ?_); refine Wl_load hS (fun _ => by rfl) _ _ rfl _ Try.underlying40 rfl ?_; (repeat (first | (refine Row.here ⟨rrgI.trans rfl, ?_⟩) | refine Row.next ?_)); (with_reducible show wpList _ _ _ _ _ _); simp only [nA])
  | ((with_reducible refine to_store 40 rfl ?_); refine Wl_store hS (fun _ => by rfl) _ _ _ rfl rfl (rrgI.trans rfl) (rg_one _ _ _ _) ?_; (repeat (first | refine Turn.here rfl ?_ | refine Turn.next ?_)); clear hS; intro wW hS; try simp only [nA]))
    (first | refine (rwantedCopy _ _ rest hL _ (r1.tail.below hS.below)).mono ?_ | refine (rwantedCopy _ _ [] (by decide) _ (Ls.nil _ _ _ _ (Nat.zero_le _))).mono ?_)
    rintro e w1 ⟨A1, c1, rfl, hl, hb⟩
    have hfA1 := fun e he => Nat.le_trans hS.size (hl.ent e he).1
    replace hS := hS.callN hb hl
    simp only [List.cons_append, List.nil_append] at hS
    have hshA1 := hl.shp
    clear hb hl
    go_wp2_with (first
  | ((with_reducible refine to_boxT 40 rfl ?_); refine Wl_box hS (fun _ => by rfl) _ rfl ?_; clear hS; intro b2 wW hS; simp only [nA])
  | ((with_reducible refine to_alloc 40 rfl ?_); refine Wl_alloc hS (fun _ => by rfl) _ rrgZ ?_; clear hS; intro b4 wW hS; simp only [nA])
  | ((with_reducible first | refine to_load 3 rfl ?_ | refine to_load 4 rfl ?_ | refine to_load 5 rfl ?_ | refine to_load 24 rfl ?_ | refine to_load 25 rfl ?_); refine Wl_load1 hS (fun _ => by rfl) _ _ rfl (scT _ rfl) ?_; (repeat (first | refine Look.here (of_decide_eq_true rfl) rfl ?_ | refine Look.self rfl ?_ | refine Look.next ?_)); (with_reducible show wpList _ _ _ _ _ _); simp only [nA])
  | ((with_reducible first | refine to_store 3 rfl ?_ | refine to_store 4 rfl ?_ | refine to_store 5 rfl ?_ | refine to_store 24 rfl ?_ | refine to_store 25 rfl ?_); (first | refine Wl_store1 hS (fun _ => by rfl) _ _ (.int _ _) rfl rfl (scT _ rfl) rfl rfl ?_ | refine Wl_store1 hS (fun _ => by rfl) _ _ (.bool _) rfl rfl (scT _ rfl) rfl rfl ?_ | refine Wl_store1 hS (fun _ => by rfl) _ _ (.slice _ _ _) rfl rfl (scT _ rfl) rfl rfl ?_); (repeat (first | refine Turn1.here (of_decide_eq_true rfl) (of_decide_eq_true rfl) ?_ | refine Turn1.next ?_)); clear hS; intro wW hS; (try simp only [nA]); try simp only [Nat.sub_zero, Nat.add_zero, Nat.zero_add, Nat.reduceSub, Nat.add_sub_cancel_left, rg_ss] at hS)
  | ((with_reducible refine to_load 40 rfl ?_); refine Wl_load hS (fun _ => by rfl) _ _ rfl _ Try.underlying40 rfl ?_; (repeat (first | (refine Row.here ⟨rrgI.trans rfl, ?_⟩) | refine Row.next ?_)); (with_reducible show wpList _ _ _ _ _ _); simp only [nA])
  | ((with_reducible refine to_store 40 rfl ?_); refine Wl_store hS (fun _ => by rfl) _ _ _ rfl rfl (rrgI.trans rfl) (rg_one _ _ _ _) ?_; (repeat (first | refine Turn.here rfl ?_ | refine Turn.next ?_)); clear hS; intro wW hS; try simp only [nA]))
  all_goals
    refine ret_st hS rfl _ _ rfl rfl _ Try.underlying40 rfl ?_
    repeat (first | (refine Row.here ⟨rrgI.trans rfl, ?_⟩) | refine Row.next ?_)
    exact ⟨A1, c1, rfl, hS.lsF hshA1 hfA1 (fun e he => by repeat (first | exact he | exact List.mem_append_right _ he | exact List.mem_append_left _ he | refine List.Mem.tail _ ?_)), hS.below⟩
end Go.Proofs.Ytkkkjdbcckaedaa
