/- The reference's DMA (charabancref22): Move, move, byteDone, alike, Take. -/
import Derived.Test.YtkkkjdbcckaedaaRmB
import Derived.Test.YtkkkjdbcckaedaaDmTake
namespace Go.Proofs.Ytkkkjdbcckaedaa
open Go.RowKit
set_option linter.unusedVariables false
set_option linter.unusedSimpArgs false
set_option maxRecDepth 100000
set_option maxHeartbeats 2000000 in
theorem rmdone_any (d : M.Dm) (hd : d.ok) (hl : -9223372036854775807 ≤ d.left) (A : Option Addr) (n c : Nat) (w : World) : Calls Try.prog 58 #[.agg (d.c (.slice A n c))] w fun e w' => e = .returned (.agg ((M.dFinish d).c (.slice A n c))) ∧ Below w.heap.size w w' := by
  have hS := St.start w.heap.size 0 0 w
  have hL := hd.left
  by_cases h1 : 1 < d.left
  · have t1 : decide (1 < d.left) = true := by simpa using h1
    have hf := Lib.hid (show M.dFinish d = { d with left := d.left - 1 } from by unfold M.dFinish; rw [if_pos h1])
    go_enter Try.func58, Try.ntmps58
    go_wp2_with (first
  | ((with_reducible first | refine to_load 3 rfl ?_ ); refine Wl_load1 hS (fun _ => by rfl) _ _ rfl (scT _ rfl) ?_; (repeat (first | refine Look.here (of_decide_eq_true rfl) rfl ?_ | refine Look.next ?_)); (with_reducible show wpList _ _ _ _ _ _); simp only [nA])
  | ((with_reducible first | refine to_store 3 rfl ?_ ); (first | refine Wl_store1 hS (fun _ => by rfl) _ _ (.int _ _) rfl rfl (scT _ rfl) rfl rfl ?_); (repeat (first | refine Turn1.here (of_decide_eq_true rfl) (of_decide_eq_true rfl) ?_ | refine Turn1.next ?_)); clear hS; intro wW hS; (try simp only [nA]); try simp only [Nat.sub_zero, Nat.add_zero, Nat.zero_add, Nat.reduceSub, Nat.add_sub_cancel_left, dm_ss] at hS)
  | ((with_reducible refine to_boxT 42 rfl ?_); refine Wl_box hS (fun _ => by rfl) _ rfl ?_; clear hS; intro b1 wW hS; simp only [nA])
  | ((with_reducible refine to_alloc 42 rfl ?_); refine Wl_alloc hS (fun _ => by rfl) _ rdmZ ?_; clear hS; intro b2 wW hS; simp only [nA])
  | ((with_reducible refine to_load 42 rfl ?_); refine Wl_load hS (fun _ => by rfl) _ _ rfl _ Try.underlying42 rfl ?_; (repeat (first | (refine Row.here ⟨(rdmI.trans rfl), ?_⟩) | refine Row.next ?_)); (with_reducible show wpList _ _ _ _ _ _); simp only [nA])
  | ((with_reducible refine to_store 42 rfl ?_); refine Wl_store hS (fun _ => by rfl) _ _ _ rfl rfl (rdmI.trans rfl) (dm_one _ _ _ _) ?_; (repeat (first | refine Turn.here rfl ?_)); clear hS; intro wW hS; try simp only [nA]))
    refine ret_st hS rfl _ _ rfl rfl _ Try.underlying42 rfl ?_
    repeat (first | (refine Row.here ⟨rdmI.trans rfl, ?_⟩))
    exact ⟨by rw [hf.out], hS.below⟩
  · have t1 : decide (1 < d.left) = false := by simpa using h1
    have hl2 : -9223372036854775808 ≤ d.left - 1 ∧ d.left - 1 ≤ 9223372036854775807 := by omega
    have e0 : M.dFinish d = if (d.p.auto && !d.done) = true then M.dBlock (M.dSignal { d with left := d.left - 1 } 1) else { M.dSignal { d with left := d.left - 1 } 1 with done := true } := by unfold M.dFinish; rw [if_neg h1]
    have hc := fun W => refis_any d.p.ctl 1 hd.p.ctl.1 hd.p.ctl.2 W
    obtain ⟨q, hq⟩ : ∃ q, M.is d.p.ctl 1 = q := ⟨_, rfl⟩
    rw [hq] at hc
    have HI := Lib.hid hc
    clear hc h1
    cases hi : d.p.ints
    · replace e0 := e0.trans (show _ = if (d.p.auto && !d.done) = true then M.dBlock { d with left := d.left - 1, pending := d.pending } else { d with left := d.left - 1, pending := d.pending, done := true } from by rw [show M.dSignal { d with left := d.left - 1 } 1 = { d with left := d.left - 1, pending := d.pending } from by simp [M.dSignal, hi, hq]])
      clear hq
      cases ha : d.p.auto
      · have hf := Lib.hid (e0.trans (if_neg (by rw [ha]; simp)))
        clear e0
        go_enter Try.func58, Try.ntmps58
        go_wp2_with (first
  | ((with_reducible first | refine to_load 3 rfl ?_ | refine to_load 5 rfl ?_ ); refine Wl_load1 hS (fun _ => by rfl) _ _ rfl (scT _ rfl) ?_; (repeat (first | refine Look.here (of_decide_eq_true rfl) rfl ?_ | refine Look.next ?_)); (with_reducible show wpList _ _ _ _ _ _); simp only [nA])
  | ((with_reducible first | refine to_store 3 rfl ?_ ); (first | refine Wl_store1 hS (fun _ => by rfl) _ _ (.int _ _) rfl rfl (scT _ rfl) rfl rfl ?_); (repeat (first | refine Turn1.here (of_decide_eq_true rfl) (of_decide_eq_true rfl) ?_ | refine Turn1.next ?_)); clear hS; intro wW hS; (try simp only [nA]); try simp only [Nat.sub_zero, Nat.add_zero, Nat.zero_add, Nat.reduceSub, Nat.add_sub_cancel_left, dm_ss] at hS)
  | ((with_reducible refine to_boxT 42 rfl ?_); refine Wl_box hS (fun _ => by rfl) _ rfl ?_; clear hS; intro b1 wW hS; simp only [nA])
  | ((with_reducible refine to_alloc 42 rfl ?_); refine Wl_alloc hS (fun _ => by rfl) _ rdmZ ?_; clear hS; intro b2 wW hS; simp only [nA])
  )
        refine (HI.out _).mono ?_
        rintro e w1 ⟨rfl, rfl⟩
        go_wp2_with (first
  | ((with_reducible first | refine to_load 4 rfl ?_ ); refine Wl_load1 hS (fun _ => by rfl) _ _ rfl (scT _ rfl) ?_; (repeat (first | refine Look.here (of_decide_eq_true rfl) rfl ?_ | refine Look.next ?_)); (with_reducible show wpList _ _ _ _ _ _); simp only [nA])
  | ((with_reducible first | refine to_store 4 rfl ?_ ); (first | refine Wl_store1 hS (fun _ => by rfl) _ _ (.bool _) rfl rfl (scT _ rfl) rfl rfl ?_); (repeat (first | refine Turn1.here (of_decide_eq_true rfl) (of_decide_eq_true rfl) ?_ | refine Turn1.next ?_)); clear hS; intro wW hS; (try simp only [nA]); try simp only [Nat.sub_zero, Nat.add_zero, Nat.zero_add, Nat.reduceSub, Nat.add_sub_cancel_left, dm_ss] at hS)
  | ((with_reducible refine to_load 42 rfl ?_); refine Wl_load hS (fun _ => by rfl) _ _ rfl _ Try.underlying42 rfl ?_; (repeat (first | (refine Row.here ⟨(rdmI.trans rfl), ?_⟩) | refine Row.next ?_)); (with_reducible show wpList _ _ _ _ _ _); simp only [nA])
  | ((with_reducible refine to_store 42 rfl ?_); refine Wl_store hS (fun _ => by rfl) _ _ _ rfl rfl (rdmI.trans rfl) (dm_one _ _ _ _) ?_; (repeat (first | refine Turn.here rfl ?_)); clear hS; intro wW hS; try simp only [nA]))
        refine ret_st hS rfl _ _ rfl rfl _ Try.underlying42 rfl ?_
        repeat (first | (refine Row.here ⟨rdmI.trans rfl, ?_⟩))
        exact ⟨by rw [hf.out], hS.below⟩
      · cases hn : d.done
        · have hf := Lib.hid (show M.dFinish d = M.dBlock { d with left := d.left - 1, pending := d.pending, done := false } from (e0.trans (if_pos (by rw [ha, hn]; rfl))).trans (by rw [← hn]))
          clear e0
          go_enter Try.func58, Try.ntmps58
          go_wp2_with (first
  | ((with_reducible first | refine to_load 3 rfl ?_ | refine to_load 5 rfl ?_ ); refine Wl_load1 hS (fun _ => by rfl) _ _ rfl (scT _ rfl) ?_; (repeat (first | refine Look.here (of_decide_eq_true rfl) rfl ?_ | refine Look.next ?_)); (with_reducible show wpList _ _ _ _ _ _); simp only [nA])
  | ((with_reducible first | refine to_store 3 rfl ?_ ); (first | refine Wl_store1 hS (fun _ => by rfl) _ _ (.int _ _) rfl rfl (scT _ rfl) rfl rfl ?_); (repeat (first | refine Turn1.here (of_decide_eq_true rfl) (of_decide_eq_true rfl) ?_ | refine Turn1.next ?_)); clear hS; intro wW hS; (try simp only [nA]); try simp only [Nat.sub_zero, Nat.add_zero, Nat.zero_add, Nat.reduceSub, Nat.add_sub_cancel_left, dm_ss] at hS)
  | ((with_reducible refine to_boxT 42 rfl ?_); refine Wl_box hS (fun _ => by rfl) _ rfl ?_; clear hS; intro b1 wW hS; simp only [nA])
  | ((with_reducible refine to_alloc 42 rfl ?_); refine Wl_alloc hS (fun _ => by rfl) _ rdmZ ?_; clear hS; intro b2 wW hS; simp only [nA])
  )
          refine (HI.out _).mono ?_
          rintro e w1 ⟨rfl, rfl⟩
          go_wp2_with (first
  | ((with_reducible first | refine to_load 4 rfl ?_ ); refine Wl_load1 hS (fun _ => by rfl) _ _ rfl (scT _ rfl) ?_; (repeat (first | refine Look.here (of_decide_eq_true rfl) rfl ?_ | refine Look.next ?_)); (with_reducible show wpList _ _ _ _ _ _); simp only [nA])
  | ((with_reducible refine to_load 42 rfl ?_); refine Wl_load hS (fun _ => by rfl) _ _ rfl _ Try.underlying42 rfl ?_; (repeat (first | (refine Row.here ⟨(rdmI.trans rfl), ?_⟩) | refine Row.next ?_)); (with_reducible show wpList _ _ _ _ _ _); simp only [nA]))
          refine (rmblock_any { d with left := d.left - 1, pending := d.pending, done := false } ⟨hd.p, hd.a, hd.b, hl2, hd.hold, hd.ask⟩ A n c _).mono ?_
          rintro e w1 ⟨rfl, hb⟩
          replace hS := hS.call hb
          clear hb
          go_wp2_with (first
  | ((with_reducible refine to_store 42 rfl ?_); refine Wl_store hS (fun _ => by rfl) _ _ _ rfl rfl (rdmI.trans rfl) (dm_one _ _ _ _) ?_; (repeat (first | refine Turn.here rfl ?_)); clear hS; intro wW hS; try simp only [nA]))
          refine ret_st hS rfl _ _ rfl rfl _ Try.underlying42 rfl ?_
          repeat (first | (refine Row.here ⟨rdmI.trans rfl, ?_⟩))
          exact ⟨by rw [hf.out], hS.below⟩
        · have hf := Lib.hid (e0.trans (if_neg (by rw [ha, hn]; decide)))
          clear e0
          go_enter Try.func58, Try.ntmps58
          go_wp2_with (first
  | ((with_reducible first | refine to_load 3 rfl ?_ | refine to_load 5 rfl ?_ ); refine Wl_load1 hS (fun _ => by rfl) _ _ rfl (scT _ rfl) ?_; (repeat (first | refine Look.here (of_decide_eq_true rfl) rfl ?_ | refine Look.next ?_)); (with_reducible show wpList _ _ _ _ _ _); simp only [nA])
  | ((with_reducible first | refine to_store 3 rfl ?_ ); (first | refine Wl_store1 hS (fun _ => by rfl) _ _ (.int _ _) rfl rfl (scT _ rfl) rfl rfl ?_); (repeat (first | refine Turn1.here (of_decide_eq_true rfl) (of_decide_eq_true rfl) ?_ | refine Turn1.next ?_)); clear hS; intro wW hS; (try simp only [nA]); try simp only [Nat.sub_zero, Nat.add_zero, Nat.zero_add, Nat.reduceSub, Nat.add_sub_cancel_left, dm_ss] at hS)
  | ((with_reducible refine to_boxT 42 rfl ?_); refine Wl_box hS (fun _ => by rfl) _ rfl ?_; clear hS; intro b1 wW hS; simp only [nA])
  | ((with_reducible refine to_alloc 42 rfl ?_); refine Wl_alloc hS (fun _ => by rfl) _ rdmZ ?_; clear hS; intro b2 wW hS; simp only [nA])
  )
          refine (HI.out _).mono ?_
          rintro e w1 ⟨rfl, rfl⟩
          go_wp2_with (first
  | ((with_reducible first | refine to_load 4 rfl ?_ ); refine Wl_load1 hS (fun _ => by rfl) _ _ rfl (scT _ rfl) ?_; (repeat (first | refine Look.here (of_decide_eq_true rfl) rfl ?_ | refine Look.next ?_)); (with_reducible show wpList _ _ _ _ _ _); simp only [nA])
  | ((with_reducible first | refine to_store 4 rfl ?_ ); (first | refine Wl_store1 hS (fun _ => by rfl) _ _ (.bool _) rfl rfl (scT _ rfl) rfl rfl ?_); (repeat (first | refine Turn1.here (of_decide_eq_true rfl) (of_decide_eq_true rfl) ?_ | refine Turn1.next ?_)); clear hS; intro wW hS; (try simp only [nA]); try simp only [Nat.sub_zero, Nat.add_zero, Nat.zero_add, Nat.reduceSub, Nat.add_sub_cancel_left, dm_ss] at hS)
  | ((with_reducible refine to_load 42 rfl ?_); refine Wl_load hS (fun _ => by rfl) _ _ rfl _ Try.underlying42 rfl ?_; (repeat (first | (refine Row.here ⟨(rdmI.trans rfl), ?_⟩) | refine Row.next ?_)); (with_reducible show wpList _ _ _ _ _ _); simp only [nA])
  | ((with_reducible refine to_store 42 rfl ?_); refine Wl_store hS (fun _ => by rfl) _ _ _ rfl rfl (rdmI.trans rfl) (dm_one _ _ _ _) ?_; (repeat (first | refine Turn.here rfl ?_)); clear hS; intro wW hS; try simp only [nA]))
          refine ret_st hS rfl _ _ rfl rfl _ Try.underlying42 rfl ?_
          repeat (first | (refine Row.here ⟨rdmI.trans rfl, ?_⟩))
          exact ⟨by rw [hf.out], hS.below⟩
    · cases q
      · replace e0 := e0.trans (show _ = if (d.p.auto && !d.done) = true then M.dBlock { d with left := d.left - 1, pending := d.pending } else { d with left := d.left - 1, pending := d.pending, done := true } from by rw [show M.dSignal { d with left := d.left - 1 } 1 = { d with left := d.left - 1, pending := d.pending } from by simp [M.dSignal, hi, hq]])
        clear hq
        cases ha : d.p.auto
        · have hf := Lib.hid (e0.trans (if_neg (by rw [ha]; simp)))
          clear e0
          go_enter Try.func58, Try.ntmps58
          go_wp2_with (first
  | ((with_reducible first | refine to_load 3 rfl ?_ | refine to_load 5 rfl ?_ ); refine Wl_load1 hS (fun _ => by rfl) _ _ rfl (scT _ rfl) ?_; (repeat (first | refine Look.here (of_decide_eq_true rfl) rfl ?_ | refine Look.next ?_)); (with_reducible show wpList _ _ _ _ _ _); simp only [nA])
  | ((with_reducible first | refine to_store 3 rfl ?_ ); (first | refine Wl_store1 hS (fun _ => by rfl) _ _ (.int _ _) rfl rfl (scT _ rfl) rfl rfl ?_); (repeat (first | refine Turn1.here (of_decide_eq_true rfl) (of_decide_eq_true rfl) ?_ | refine Turn1.next ?_)); clear hS; intro wW hS; (try simp only [nA]); try simp only [Nat.sub_zero, Nat.add_zero, Nat.zero_add, Nat.reduceSub, Nat.add_sub_cancel_left, dm_ss] at hS)
  | ((with_reducible refine to_boxT 42 rfl ?_); refine Wl_box hS (fun _ => by rfl) _ rfl ?_; clear hS; intro b1 wW hS; simp only [nA])
  | ((with_reducible refine to_alloc 42 rfl ?_); refine Wl_alloc hS (fun _ => by rfl) _ rdmZ ?_; clear hS; intro b2 wW hS; simp only [nA])
  )
          refine (HI.out _).mono ?_
          rintro e w1 ⟨rfl, rfl⟩
          go_wp2_with (first
  | ((with_reducible first | refine to_load 4 rfl ?_ ); refine Wl_load1 hS (fun _ => by rfl) _ _ rfl (scT _ rfl) ?_; (repeat (first | refine Look.here (of_decide_eq_true rfl) rfl ?_ | refine Look.next ?_)); (with_reducible show wpList _ _ _ _ _ _); simp only [nA])
  | ((with_reducible first | refine to_store 4 rfl ?_ ); (first | refine Wl_store1 hS (fun _ => by rfl) _ _ (.bool _) rfl rfl (scT _ rfl) rfl rfl ?_); (repeat (first | refine Turn1.here (of_decide_eq_true rfl) (of_decide_eq_true rfl) ?_ | refine Turn1.next ?_)); clear hS; intro wW hS; (try simp only [nA]); try simp only [Nat.sub_zero, Nat.add_zero, Nat.zero_add, Nat.reduceSub, Nat.add_sub_cancel_left, dm_ss] at hS)
  | ((with_reducible refine to_load 42 rfl ?_); refine Wl_load hS (fun _ => by rfl) _ _ rfl _ Try.underlying42 rfl ?_; (repeat (first | (refine Row.here ⟨(rdmI.trans rfl), ?_⟩) | refine Row.next ?_)); (with_reducible show wpList _ _ _ _ _ _); simp only [nA])
  | ((with_reducible refine to_store 42 rfl ?_); refine Wl_store hS (fun _ => by rfl) _ _ _ rfl rfl (rdmI.trans rfl) (dm_one _ _ _ _) ?_; (repeat (first | refine Turn.here rfl ?_)); clear hS; intro wW hS; try simp only [nA]))
          refine ret_st hS rfl _ _ rfl rfl _ Try.underlying42 rfl ?_
          repeat (first | (refine Row.here ⟨rdmI.trans rfl, ?_⟩))
          exact ⟨by rw [hf.out], hS.below⟩
        · cases hn : d.done
          · have hf := Lib.hid (show M.dFinish d = M.dBlock { d with left := d.left - 1, pending := d.pending, done := false } from (e0.trans (if_pos (by rw [ha, hn]; rfl))).trans (by rw [← hn]))
            clear e0
            go_enter Try.func58, Try.ntmps58
            go_wp2_with (first
  | ((with_reducible first | refine to_load 3 rfl ?_ | refine to_load 5 rfl ?_ ); refine Wl_load1 hS (fun _ => by rfl) _ _ rfl (scT _ rfl) ?_; (repeat (first | refine Look.here (of_decide_eq_true rfl) rfl ?_ | refine Look.next ?_)); (with_reducible show wpList _ _ _ _ _ _); simp only [nA])
  | ((with_reducible first | refine to_store 3 rfl ?_ ); (first | refine Wl_store1 hS (fun _ => by rfl) _ _ (.int _ _) rfl rfl (scT _ rfl) rfl rfl ?_); (repeat (first | refine Turn1.here (of_decide_eq_true rfl) (of_decide_eq_true rfl) ?_ | refine Turn1.next ?_)); clear hS; intro wW hS; (try simp only [nA]); try simp only [Nat.sub_zero, Nat.add_zero, Nat.zero_add, Nat.reduceSub, Nat.add_sub_cancel_left, dm_ss] at hS)
  | ((with_reducible refine to_boxT 42 rfl ?_); refine Wl_box hS (fun _ => by rfl) _ rfl ?_; clear hS; intro b1 wW hS; simp only [nA])
  | ((with_reducible refine to_alloc 42 rfl ?_); refine Wl_alloc hS (fun _ => by rfl) _ rdmZ ?_; clear hS; intro b2 wW hS; simp only [nA])
  )
            refine (HI.out _).mono ?_
            rintro e w1 ⟨rfl, rfl⟩
            go_wp2_with (first
  | ((with_reducible first | refine to_load 4 rfl ?_ ); refine Wl_load1 hS (fun _ => by rfl) _ _ rfl (scT _ rfl) ?_; (repeat (first | refine Look.here (of_decide_eq_true rfl) rfl ?_ | refine Look.next ?_)); (with_reducible show wpList _ _ _ _ _ _); simp only [nA])
  | ((with_reducible refine to_load 42 rfl ?_); refine Wl_load hS (fun _ => by rfl) _ _ rfl _ Try.underlying42 rfl ?_; (repeat (first | (refine Row.here ⟨(rdmI.trans rfl), ?_⟩) | refine Row.next ?_)); (with_reducible show wpList _ _ _ _ _ _); simp only [nA]))
            refine (rmblock_any { d with left := d.left - 1, pending := d.pending, done := false } ⟨hd.p, hd.a, hd.b, hl2, hd.hold, hd.ask⟩ A n c _).mono ?_
            rintro e w1 ⟨rfl, hb⟩
            replace hS := hS.call hb
            clear hb
            go_wp2_with (first
  | ((with_reducible refine to_store 42 rfl ?_); refine Wl_store hS (fun _ => by rfl) _ _ _ rfl rfl (rdmI.trans rfl) (dm_one _ _ _ _) ?_; (repeat (first | refine Turn.here rfl ?_)); clear hS; intro wW hS; try simp only [nA]))
            refine ret_st hS rfl _ _ rfl rfl _ Try.underlying42 rfl ?_
            repeat (first | (refine Row.here ⟨rdmI.trans rfl, ?_⟩))
            exact ⟨by rw [hf.out], hS.below⟩
          · have hf := Lib.hid (e0.trans (if_neg (by rw [ha, hn]; decide)))
            clear e0
            go_enter Try.func58, Try.ntmps58
            go_wp2_with (first
  | ((with_reducible first | refine to_load 3 rfl ?_ | refine to_load 5 rfl ?_ ); refine Wl_load1 hS (fun _ => by rfl) _ _ rfl (scT _ rfl) ?_; (repeat (first | refine Look.here (of_decide_eq_true rfl) rfl ?_ | refine Look.next ?_)); (with_reducible show wpList _ _ _ _ _ _); simp only [nA])
  | ((with_reducible first | refine to_store 3 rfl ?_ ); (first | refine Wl_store1 hS (fun _ => by rfl) _ _ (.int _ _) rfl rfl (scT _ rfl) rfl rfl ?_); (repeat (first | refine Turn1.here (of_decide_eq_true rfl) (of_decide_eq_true rfl) ?_ | refine Turn1.next ?_)); clear hS; intro wW hS; (try simp only [nA]); try simp only [Nat.sub_zero, Nat.add_zero, Nat.zero_add, Nat.reduceSub, Nat.add_sub_cancel_left, dm_ss] at hS)
  | ((with_reducible refine to_boxT 42 rfl ?_); refine Wl_box hS (fun _ => by rfl) _ rfl ?_; clear hS; intro b1 wW hS; simp only [nA])
  | ((with_reducible refine to_alloc 42 rfl ?_); refine Wl_alloc hS (fun _ => by rfl) _ rdmZ ?_; clear hS; intro b2 wW hS; simp only [nA])
  )
            refine (HI.out _).mono ?_
            rintro e w1 ⟨rfl, rfl⟩
            go_wp2_with (first
  | ((with_reducible first | refine to_load 4 rfl ?_ ); refine Wl_load1 hS (fun _ => by rfl) _ _ rfl (scT _ rfl) ?_; (repeat (first | refine Look.here (of_decide_eq_true rfl) rfl ?_ | refine Look.next ?_)); (with_reducible show wpList _ _ _ _ _ _); simp only [nA])
  | ((with_reducible first | refine to_store 4 rfl ?_ ); (first | refine Wl_store1 hS (fun _ => by rfl) _ _ (.bool _) rfl rfl (scT _ rfl) rfl rfl ?_); (repeat (first | refine Turn1.here (of_decide_eq_true rfl) (of_decide_eq_true rfl) ?_ | refine Turn1.next ?_)); clear hS; intro wW hS; (try simp only [nA]); try simp only [Nat.sub_zero, Nat.add_zero, Nat.zero_add, Nat.reduceSub, Nat.add_sub_cancel_left, dm_ss] at hS)
  | ((with_reducible refine to_load 42 rfl ?_); refine Wl_load hS (fun _ => by rfl) _ _ rfl _ Try.underlying42 rfl ?_; (repeat (first | (refine Row.here ⟨(rdmI.trans rfl), ?_⟩) | refine Row.next ?_)); (with_reducible show wpList _ _ _ _ _ _); simp only [nA])
  | ((with_reducible refine to_store 42 rfl ?_); refine Wl_store hS (fun _ => by rfl) _ _ _ rfl rfl (rdmI.trans rfl) (dm_one _ _ _ _) ?_; (repeat (first | refine Turn.here rfl ?_)); clear hS; intro wW hS; try simp only [nA]))
            refine ret_st hS rfl _ _ rfl rfl _ Try.underlying42 rfl ?_
            repeat (first | (refine Row.here ⟨rdmI.trans rfl, ?_⟩))
            exact ⟨by rw [hf.out], hS.below⟩
      · replace e0 := e0.trans (show _ = if (d.p.auto && !d.done) = true then M.dBlock { d with left := d.left - 1, pending := true } else { d with left := d.left - 1, pending := true, done := true } from by rw [show M.dSignal { d with left := d.left - 1 } 1 = { d with left := d.left - 1, pending := true } from by simp [M.dSignal, hi, hq]])
        clear hq
        cases ha : d.p.auto
        · have hf := Lib.hid (e0.trans (if_neg (by rw [ha]; simp)))
          clear e0
          go_enter Try.func58, Try.ntmps58
          go_wp2_with (first
  | ((with_reducible first | refine to_load 3 rfl ?_ | refine to_load 5 rfl ?_ ); refine Wl_load1 hS (fun _ => by rfl) _ _ rfl (scT _ rfl) ?_; (repeat (first | refine Look.here (of_decide_eq_true rfl) rfl ?_ | refine Look.next ?_)); (with_reducible show wpList _ _ _ _ _ _); simp only [nA])
  | ((with_reducible first | refine to_store 3 rfl ?_ ); (first | refine Wl_store1 hS (fun _ => by rfl) _ _ (.int _ _) rfl rfl (scT _ rfl) rfl rfl ?_); (repeat (first | refine Turn1.here (of_decide_eq_true rfl) (of_decide_eq_true rfl) ?_ | refine Turn1.next ?_)); clear hS; intro wW hS; (try simp only [nA]); try simp only [Nat.sub_zero, Nat.add_zero, Nat.zero_add, Nat.reduceSub, Nat.add_sub_cancel_left, dm_ss] at hS)
  | ((with_reducible refine to_boxT 42 rfl ?_); refine Wl_box hS (fun _ => by rfl) _ rfl ?_; clear hS; intro b1 wW hS; simp only [nA])
  | ((with_reducible refine to_alloc 42 rfl ?_); refine Wl_alloc hS (fun _ => by rfl) _ rdmZ ?_; clear hS; intro b2 wW hS; simp only [nA])
  )
          refine (HI.out _).mono ?_
          rintro e w1 ⟨rfl, rfl⟩
          go_wp2_with (first
  | ((with_reducible first | refine to_load 4 rfl ?_ ); refine Wl_load1 hS (fun _ => by rfl) _ _ rfl (scT _ rfl) ?_; (repeat (first | refine Look.here (of_decide_eq_true rfl) rfl ?_ | refine Look.next ?_)); (with_reducible show wpList _ _ _ _ _ _); simp only [nA])
  | ((with_reducible first | refine to_store 4 rfl ?_ ); (first | refine Wl_store1 hS (fun _ => by rfl) _ _ (.bool _) rfl rfl (scT _ rfl) rfl rfl ?_); (repeat (first | refine Turn1.here (of_decide_eq_true rfl) (of_decide_eq_true rfl) ?_ | refine Turn1.next ?_)); clear hS; intro wW hS; (try simp only [nA]); try simp only [Nat.sub_zero, Nat.add_zero, Nat.zero_add, Nat.reduceSub, Nat.add_sub_cancel_left, dm_ss] at hS)
  | ((with_reducible refine to_load 42 rfl ?_); refine Wl_load hS (fun _ => by rfl) _ _ rfl _ Try.underlying42 rfl ?_; (repeat (first | (refine Row.here ⟨(rdmI.trans rfl), ?_⟩) | refine Row.next ?_)); (with_reducible show wpList _ _ _ _ _ _); simp only [nA])
  | ((with_reducible refine to_store 42 rfl ?_); refine Wl_store hS (fun _ => by rfl) _ _ _ rfl rfl (rdmI.trans rfl) (dm_one _ _ _ _) ?_; (repeat (first | refine Turn.here rfl ?_)); clear hS; intro wW hS; try simp only [nA]))
          refine ret_st hS rfl _ _ rfl rfl _ Try.underlying42 rfl ?_
          repeat (first | (refine Row.here ⟨rdmI.trans rfl, ?_⟩))
          exact ⟨by rw [hf.out], hS.below⟩
        · cases hn : d.done
          · have hf := Lib.hid (show M.dFinish d = M.dBlock { d with left := d.left - 1, pending := true, done := false } from (e0.trans (if_pos (by rw [ha, hn]; rfl))).trans (by rw [← hn]))
            clear e0
            go_enter Try.func58, Try.ntmps58
            go_wp2_with (first
  | ((with_reducible first | refine to_load 3 rfl ?_ | refine to_load 5 rfl ?_ ); refine Wl_load1 hS (fun _ => by rfl) _ _ rfl (scT _ rfl) ?_; (repeat (first | refine Look.here (of_decide_eq_true rfl) rfl ?_ | refine Look.next ?_)); (with_reducible show wpList _ _ _ _ _ _); simp only [nA])
  | ((with_reducible first | refine to_store 3 rfl ?_ ); (first | refine Wl_store1 hS (fun _ => by rfl) _ _ (.int _ _) rfl rfl (scT _ rfl) rfl rfl ?_); (repeat (first | refine Turn1.here (of_decide_eq_true rfl) (of_decide_eq_true rfl) ?_ | refine Turn1.next ?_)); clear hS; intro wW hS; (try simp only [nA]); try simp only [Nat.sub_zero, Nat.add_zero, Nat.zero_add, Nat.reduceSub, Nat.add_sub_cancel_left, dm_ss] at hS)
  | ((with_reducible refine to_boxT 42 rfl ?_); refine Wl_box hS (fun _ => by rfl) _ rfl ?_; clear hS; intro b1 wW hS; simp only [nA])
  | ((with_reducible refine to_alloc 42 rfl ?_); refine Wl_alloc hS (fun _ => by rfl) _ rdmZ ?_; clear hS; intro b2 wW hS; simp only [nA])
  )
            refine (HI.out _).mono ?_
            rintro e w1 ⟨rfl, rfl⟩
            go_wp2_with (first
  | ((with_reducible first | refine to_load 4 rfl ?_ ); refine Wl_load1 hS (fun _ => by rfl) _ _ rfl (scT _ rfl) ?_; (repeat (first | refine Look.here (of_decide_eq_true rfl) rfl ?_ | refine Look.next ?_)); (with_reducible show wpList _ _ _ _ _ _); simp only [nA])
  | ((with_reducible first | refine to_store 4 rfl ?_ ); (first | refine Wl_store1 hS (fun _ => by rfl) _ _ (.bool _) rfl rfl (scT _ rfl) rfl rfl ?_); (repeat (first | refine Turn1.here (of_decide_eq_true rfl) (of_decide_eq_true rfl) ?_ | refine Turn1.next ?_)); clear hS; intro wW hS; (try simp only [nA]); try simp only [Nat.sub_zero, Nat.add_zero, Nat.zero_add, Nat.reduceSub, Nat.add_sub_cancel_left, dm_ss] at hS)
  | ((with_reducible refine to_load 42 rfl ?_); refine Wl_load hS (fun _ => by rfl) _ _ rfl _ Try.underlying42 rfl ?_; (repeat (first | (refine Row.here ⟨(rdmI.trans rfl), ?_⟩) | refine Row.next ?_)); (with_reducible show wpList _ _ _ _ _ _); simp only [nA]))
            refine (rmblock_any { d with left := d.left - 1, pending := true, done := false } ⟨hd.p, hd.a, hd.b, hl2, hd.hold, hd.ask⟩ A n c _).mono ?_
            rintro e w1 ⟨rfl, hb⟩
            replace hS := hS.call hb
            clear hb
            go_wp2_with (first
  | ((with_reducible refine to_store 42 rfl ?_); refine Wl_store hS (fun _ => by rfl) _ _ _ rfl rfl (rdmI.trans rfl) (dm_one _ _ _ _) ?_; (repeat (first | refine Turn.here rfl ?_)); clear hS; intro wW hS; try simp only [nA]))
            refine ret_st hS rfl _ _ rfl rfl _ Try.underlying42 rfl ?_
            repeat (first | (refine Row.here ⟨rdmI.trans rfl, ?_⟩))
            exact ⟨by rw [hf.out], hS.below⟩
          · have hf := Lib.hid (e0.trans (if_neg (by rw [ha, hn]; decide)))
            clear e0
            go_enter Try.func58, Try.ntmps58
            go_wp2_with (first
  | ((with_reducible first | refine to_load 3 rfl ?_ | refine to_load 5 rfl ?_ ); refine Wl_load1 hS (fun _ => by rfl) _ _ rfl (scT _ rfl) ?_; (repeat (first | refine Look.here (of_decide_eq_true rfl) rfl ?_ | refine Look.next ?_)); (with_reducible show wpList _ _ _ _ _ _); simp only [nA])
  | ((with_reducible first | refine to_store 3 rfl ?_ ); (first | refine Wl_store1 hS (fun _ => by rfl) _ _ (.int _ _) rfl rfl (scT _ rfl) rfl rfl ?_); (repeat (first | refine Turn1.here (of_decide_eq_true rfl) (of_decide_eq_true rfl) ?_ | refine Turn1.next ?_)); clear hS; intro wW hS; (try simp only [nA]); try simp only [Nat.sub_zero, Nat.add_zero, Nat.zero_add, Nat.reduceSub, Nat.add_sub_cancel_left, dm_ss] at hS)
  | ((with_reducible refine to_boxT 42 rfl ?_); refine Wl_box hS (fun _ => by rfl) _ rfl ?_; clear hS; intro b1 wW hS; simp only [nA])
  | ((with_reducible refine to_alloc 42 rfl ?_); refine Wl_alloc hS (fun _ => by rfl) _ rdmZ ?_; clear hS; intro b2 wW hS; simp only [nA])
  )
            refine (HI.out _).mono ?_
            rintro e w1 ⟨rfl, rfl⟩
            go_wp2_with (first
  | ((with_reducible first | refine to_load 4 rfl ?_ ); refine Wl_load1 hS (fun _ => by rfl) _ _ rfl (scT _ rfl) ?_; (repeat (first | refine Look.here (of_decide_eq_true rfl) rfl ?_ | refine Look.next ?_)); (with_reducible show wpList _ _ _ _ _ _); simp only [nA])
  | ((with_reducible first | refine to_store 4 rfl ?_ ); (first | refine Wl_store1 hS (fun _ => by rfl) _ _ (.bool _) rfl rfl (scT _ rfl) rfl rfl ?_); (repeat (first | refine Turn1.here (of_decide_eq_true rfl) (of_decide_eq_true rfl) ?_ | refine Turn1.next ?_)); clear hS; intro wW hS; (try simp only [nA]); try simp only [Nat.sub_zero, Nat.add_zero, Nat.zero_add, Nat.reduceSub, Nat.add_sub_cancel_left, dm_ss] at hS)
  | ((with_reducible refine to_load 42 rfl ?_); refine Wl_load hS (fun _ => by rfl) _ _ rfl _ Try.underlying42 rfl ?_; (repeat (first | (refine Row.here ⟨(rdmI.trans rfl), ?_⟩) | refine Row.next ?_)); (with_reducible show wpList _ _ _ _ _ _); simp only [nA])
  | ((with_reducible refine to_store 42 rfl ?_); refine Wl_store hS (fun _ => by rfl) _ _ _ rfl rfl (rdmI.trans rfl) (dm_one _ _ _ _) ?_; (repeat (first | refine Turn.here rfl ?_)); clear hS; intro wW hS; try simp only [nA]))
            refine ret_st hS rfl _ _ rfl rfl _ Try.underlying42 rfl ?_
            repeat (first | (refine Row.here ⟨rdmI.trans rfl, ?_⟩))
            exact ⟨by rw [hf.out], hS.below⟩
end Go.Proofs.Ytkkkjdbcckaedaa
