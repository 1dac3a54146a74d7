/- The reference's DMA (charabancref22): Next. -/
import Derived.Test.YtkkkjdbcckaedaaRmA
import Derived.Test.YtkkkjdbcckaedaaDmNextT
namespace Go.Proofs.Ytkkkjdbcckaedaa
open Go.RowKit
set_option linter.unusedVariables false
set_option linter.unusedSimpArgs false
set_option maxRecDepth 100000
set_option maxHeartbeats 8000000 in
theorem rmnext_any (d : M.Dm) (A : Option Addr) (n c : Nat) (w : World) : Calls Try.prog 23 #[.agg (d.c (.slice A n c))] w fun e w' => e = .returned (.agg (M.dNextC d)) ∧ Below w.heap.size w w' := by
  have hS := St.start w.heap.size 0 0 w
  obtain ⟨⟨cls, atob, pa, pb, len, aio, bio, astep, bstep, atime, btime, mask, mat, stop, mode, ctl, pulse, vec, high, auto, rmask, ints, on, want⟩, a, b, left, held, hold, forced, done, matched, ran, pending, ask⟩ := d
  cases held
  · cases atob
    · cases bio
      · by_cases ht : btime = 0
        · have t0 : (btime == 0) = true := by rw [ht]; rfl
          have e2 := Lib.hid (show M.dNextC (M.Dm.mk (M.Rg.mk cls false pa pb len aio false astep bstep atime btime mask mat stop mode ctl pulse vec high auto rmask ints on want) a b left false hold forced done matched ran pending ask) = #[.int .i64 2, .int .u16 b, .int .u8 0, .int .i64 3] from by simp [M.dNextC, M.dNextK, M.dNextIo, M.dNextA, M.dNextD, M.dNextT, M.dNextT0, M.dIsA, ht])
          replace ht := Lib.hid ht
          go_enter Try.func23, Try.ntmps23
          go_wp2_with (first
  | ((with_reducible first | refine to_load 3 rfl ?_ | refine to_load 4 rfl ?_ | refine to_load 24 rfl ?_); refine Wl_load1 hS (fun _ => by rfl) _ _ rfl (scT _ rfl) ?_; (repeat (first | refine Look.here (of_decide_eq_true rfl) rfl ?_ | refine Look.next ?_)); (with_reducible show wpList _ _ _ _ _ _); simp only [nA])
  | ((with_reducible first | refine to_store 3 rfl ?_ ); (first | refine Wl_store1 hS (fun _ => by rfl) _ _ (.int _ _) rfl rfl (scT _ rfl) rfl rfl ?_); (repeat (first | refine Turn1.here (of_decide_eq_true rfl) (of_decide_eq_true rfl) ?_)); clear hS; intro wW hS; (try simp only [nA]); try simp only [Nat.sub_zero, Nat.add_zero, Nat.zero_add, Nat.reduceSub, Nat.add_sub_cancel_left, dm_ss, List.setIfInBounds_toArray, List.set_cons_zero, List.set_cons_succ] at hS)
  | ((with_reducible refine to_boxT 42 rfl ?_); refine Wl_box hS (fun _ => by rfl) _ rfl ?_; clear hS; intro b1 wW hS; simp only [nA])
  | ((with_reducible refine to_alloc 32 rfl ?_); refine Wl_alloc hS (fun _ => by rfl) _ cyZ ?_; clear hS; intro b2 wW hS; simp only [nA])
  | ((with_reducible refine to_load 32 rfl ?_); refine Wl_load hS (fun _ => by rfl) _ _ rfl _ Try.underlying32 rfl ?_; (repeat (first | (refine Row.here ⟨(cyI.trans rfl), ?_⟩))); (with_reducible show wpList _ _ _ _ _ _); simp only [nA])
  | ((with_reducible refine to_store 32 rfl ?_); refine Wl_store hS (fun _ => by rfl) _ _ _ rfl rfl (cyI.trans rfl) (by simp [Value.oneCell']) ?_; (repeat (first | refine Turn.here rfl ?_ | refine Turn.next ?_)); clear hS; intro wW hS; try simp only [nA]))
          refine ret_st hS rfl _ _ rfl rfl _ Try.underlying32 rfl ?_
          repeat (first | (refine Row.here ⟨cyI.trans rfl, ?_⟩) | refine Row.next ?_)
          exact ⟨by rw [e2.out], hS.below⟩
        · have t0 : (btime == 0) = false := by simpa using ht
          have e2 := Lib.hid (show M.dNextC (M.Dm.mk (M.Rg.mk cls false pa pb len aio false astep bstep atime btime mask mat stop mode ctl pulse vec high auto rmask ints on want) a b left false hold forced done matched ran pending ask) = #[.int .i64 2, .int .u16 b, .int .u8 0, .int .i64 btime] from by simp [M.dNextC, M.dNextK, M.dNextIo, M.dNextA, M.dNextD, M.dNextT, M.dNextT0, M.dIsA, ht])
          replace ht := Lib.hid ht
          go_enter Try.func23, Try.ntmps23
          go_wp2_with (first
  | ((with_reducible first | refine to_load 3 rfl ?_ | refine to_load 4 rfl ?_ | refine to_load 24 rfl ?_); refine Wl_load1 hS (fun _ => by rfl) _ _ rfl (scT _ rfl) ?_; (repeat (first | refine Look.here (of_decide_eq_true rfl) rfl ?_ | refine Look.next ?_)); (with_reducible show wpList _ _ _ _ _ _); simp only [nA])
  | ((with_reducible first | refine to_store 3 rfl ?_ ); (first | refine Wl_store1 hS (fun _ => by rfl) _ _ (.int _ _) rfl rfl (scT _ rfl) rfl rfl ?_); (repeat (first | refine Turn1.here (of_decide_eq_true rfl) (of_decide_eq_true rfl) ?_)); clear hS; intro wW hS; (try simp only [nA]); try simp only [Nat.sub_zero, Nat.add_zero, Nat.zero_add, Nat.reduceSub, Nat.add_sub_cancel_left, dm_ss, List.setIfInBounds_toArray, List.set_cons_zero, List.set_cons_succ] at hS)
  | ((with_reducible refine to_boxT 42 rfl ?_); refine Wl_box hS (fun _ => by rfl) _ rfl ?_; clear hS; intro b1 wW hS; simp only [nA])
  | ((with_reducible refine to_alloc 32 rfl ?_); refine Wl_alloc hS (fun _ => by rfl) _ cyZ ?_; clear hS; intro b2 wW hS; simp only [nA])
  | ((with_reducible refine to_load 32 rfl ?_); refine Wl_load hS (fun _ => by rfl) _ _ rfl _ Try.underlying32 rfl ?_; (repeat (first | (refine Row.here ⟨(cyI.trans rfl), ?_⟩))); (with_reducible show wpList _ _ _ _ _ _); simp only [nA])
  | ((with_reducible refine to_store 32 rfl ?_); refine Wl_store hS (fun _ => by rfl) _ _ _ rfl rfl (cyI.trans rfl) (by simp [Value.oneCell']) ?_; (repeat (first | refine Turn.here rfl ?_ | refine Turn.next ?_)); clear hS; intro wW hS; try simp only [nA]))
          refine ret_st hS rfl _ _ rfl rfl _ Try.underlying32 rfl ?_
          repeat (first | (refine Row.here ⟨cyI.trans rfl, ?_⟩) | refine Row.next ?_)
          exact ⟨by rw [e2.out], hS.below⟩
      · by_cases ht : btime = 0
        · have t0 : (btime == 0) = true := by rw [ht]; rfl
          have e2 := Lib.hid (show M.dNextC (M.Dm.mk (M.Rg.mk cls false pa pb len aio true astep bstep atime btime mask mat stop mode ctl pulse vec high auto rmask ints on want) a b left false hold forced done matched ran pending ask) = #[.int .i64 4, .int .u16 b, .int .u8 0, .int .i64 4] from by simp [M.dNextC, M.dNextK, M.dNextIo, M.dNextA, M.dNextD, M.dNextT, M.dNextT0, M.dIsA, ht])
          replace ht := Lib.hid ht
          go_enter Try.func23, Try.ntmps23
          go_wp2_with (first
  | ((with_reducible first | refine to_load 3 rfl ?_ | refine to_load 4 rfl ?_ | refine to_load 24 rfl ?_); refine Wl_load1 hS (fun _ => by rfl) _ _ rfl (scT _ rfl) ?_; (repeat (first | refine Look.here (of_decide_eq_true rfl) rfl ?_ | refine Look.next ?_)); (with_reducible show wpList _ _ _ _ _ _); simp only [nA])
  | ((with_reducible first | refine to_store 3 rfl ?_ ); (first | refine Wl_store1 hS (fun _ => by rfl) _ _ (.int _ _) rfl rfl (scT _ rfl) rfl rfl ?_); (repeat (first | refine Turn1.here (of_decide_eq_true rfl) (of_decide_eq_true rfl) ?_)); clear hS; intro wW hS; (try simp only [nA]); try simp only [Nat.sub_zero, Nat.add_zero, Nat.zero_add, Nat.reduceSub, Nat.add_sub_cancel_left, dm_ss, List.setIfInBounds_toArray, List.set_cons_zero, List.set_cons_succ] at hS)
  | ((with_reducible refine to_boxT 42 rfl ?_); refine Wl_box hS (fun _ => by rfl) _ rfl ?_; clear hS; intro b1 wW hS; simp only [nA])
  | ((with_reducible refine to_alloc 32 rfl ?_); refine Wl_alloc hS (fun _ => by rfl) _ cyZ ?_; clear hS; intro b2 wW hS; simp only [nA])
  | ((with_reducible refine to_load 32 rfl ?_); refine Wl_load hS (fun _ => by rfl) _ _ rfl _ Try.underlying32 rfl ?_; (repeat (first | (refine Row.here ⟨(cyI.trans rfl), ?_⟩))); (with_reducible show wpList _ _ _ _ _ _); simp only [nA])
  | ((with_reducible refine to_store 32 rfl ?_); refine Wl_store hS (fun _ => by rfl) _ _ _ rfl rfl (cyI.trans rfl) (by simp [Value.oneCell']) ?_; (repeat (first | refine Turn.here rfl ?_ | refine Turn.next ?_)); clear hS; intro wW hS; try simp only [nA]))
          refine ret_st hS rfl _ _ rfl rfl _ Try.underlying32 rfl ?_
          repeat (first | (refine Row.here ⟨cyI.trans rfl, ?_⟩) | refine Row.next ?_)
          exact ⟨by rw [e2.out], hS.below⟩
        · have t0 : (btime == 0) = false := by simpa using ht
          have e2 := Lib.hid (show M.dNextC (M.Dm.mk (M.Rg.mk cls false pa pb len aio true astep bstep atime btime mask mat stop mode ctl pulse vec high auto rmask ints on want) a b left false hold forced done matched ran pending ask) = #[.int .i64 4, .int .u16 b, .int .u8 0, .int .i64 btime] from by simp [M.dNextC, M.dNextK, M.dNextIo, M.dNextA, M.dNextD, M.dNextT, M.dNextT0, M.dIsA, ht])
          replace ht := Lib.hid ht
          go_enter Try.func23, Try.ntmps23
          go_wp2_with (first
  | ((with_reducible first | refine to_load 3 rfl ?_ | refine to_load 4 rfl ?_ | refine to_load 24 rfl ?_); refine Wl_load1 hS (fun _ => by rfl) _ _ rfl (scT _ rfl) ?_; (repeat (first | refine Look.here (of_decide_eq_true rfl) rfl ?_ | refine Look.next ?_)); (with_reducible show wpList _ _ _ _ _ _); simp only [nA])
  | ((with_reducible first | refine to_store 3 rfl ?_ ); (first | refine Wl_store1 hS (fun _ => by rfl) _ _ (.int _ _) rfl rfl (scT _ rfl) rfl rfl ?_); (repeat (first | refine Turn1.here (of_decide_eq_true rfl) (of_decide_eq_true rfl) ?_)); clear hS; intro wW hS; (try simp only [nA]); try simp only [Nat.sub_zero, Nat.add_zero, Nat.zero_add, Nat.reduceSub, Nat.add_sub_cancel_left, dm_ss, List.setIfInBounds_toArray, List.set_cons_zero, List.set_cons_succ] at hS)
  | ((with_reducible refine to_boxT 42 rfl ?_); refine Wl_box hS (fun _ => by rfl) _ rfl ?_; clear hS; intro b1 wW hS; simp only [nA])
  | ((with_reducible refine to_alloc 32 rfl ?_); refine Wl_alloc hS (fun _ => by rfl) _ cyZ ?_; clear hS; intro b2 wW hS; simp only [nA])
  | ((with_reducible refine to_load 32 rfl ?_); refine Wl_load hS (fun _ => by rfl) _ _ rfl _ Try.underlying32 rfl ?_; (repeat (first | (refine Row.here ⟨(cyI.trans rfl), ?_⟩))); (with_reducible show wpList _ _ _ _ _ _); simp only [nA])
  | ((with_reducible refine to_store 32 rfl ?_); refine Wl_store hS (fun _ => by rfl) _ _ _ rfl rfl (cyI.trans rfl) (by simp [Value.oneCell']) ?_; (repeat (first | refine Turn.here rfl ?_ | refine Turn.next ?_)); clear hS; intro wW hS; try simp only [nA]))
          refine ret_st hS rfl _ _ rfl rfl _ Try.underlying32 rfl ?_
          repeat (first | (refine Row.here ⟨cyI.trans rfl, ?_⟩) | refine Row.next ?_)
          exact ⟨by rw [e2.out], hS.below⟩
    · cases aio
      · by_cases ht : atime = 0
        · have t0 : (atime == 0) = true := by rw [ht]; rfl
          have e2 := Lib.hid (show M.dNextC (M.Dm.mk (M.Rg.mk cls true pa pb len false bio astep bstep atime btime mask mat stop mode ctl pulse vec high auto rmask ints on want) a b left false hold forced done matched ran pending ask) = #[.int .i64 2, .int .u16 a, .int .u8 0, .int .i64 3] from by simp [M.dNextC, M.dNextK, M.dNextIo, M.dNextA, M.dNextD, M.dNextT, M.dNextT0, M.dIsA, ht])
          replace ht := Lib.hid ht
          go_enter Try.func23, Try.ntmps23
          go_wp2_with (first
  | ((with_reducible first | refine to_load 3 rfl ?_ | refine to_load 4 rfl ?_ | refine to_load 24 rfl ?_); refine Wl_load1 hS (fun _ => by rfl) _ _ rfl (scT _ rfl) ?_; (repeat (first | refine Look.here (of_decide_eq_true rfl) rfl ?_ | refine Look.next ?_)); (with_reducible show wpList _ _ _ _ _ _); simp only [nA])
  | ((with_reducible first | refine to_store 3 rfl ?_ | refine to_store 24 rfl ?_); (first | refine Wl_store1 hS (fun _ => by rfl) _ _ (.int _ _) rfl rfl (scT _ rfl) rfl rfl ?_); (repeat (first | refine Turn1.here (of_decide_eq_true rfl) (of_decide_eq_true rfl) ?_)); clear hS; intro wW hS; (try simp only [nA]); try simp only [Nat.sub_zero, Nat.add_zero, Nat.zero_add, Nat.reduceSub, Nat.add_sub_cancel_left, dm_ss, List.setIfInBounds_toArray, List.set_cons_zero, List.set_cons_succ] at hS)
  | ((with_reducible refine to_boxT 42 rfl ?_); refine Wl_box hS (fun _ => by rfl) _ rfl ?_; clear hS; intro b1 wW hS; simp only [nA])
  | ((with_reducible refine to_alloc 32 rfl ?_); refine Wl_alloc hS (fun _ => by rfl) _ cyZ ?_; clear hS; intro b2 wW hS; simp only [nA])
  | ((with_reducible refine to_load 32 rfl ?_); refine Wl_load hS (fun _ => by rfl) _ _ rfl _ Try.underlying32 rfl ?_; (repeat (first | (refine Row.here ⟨(cyI.trans rfl), ?_⟩))); (with_reducible show wpList _ _ _ _ _ _); simp only [nA])
  | ((with_reducible refine to_store 32 rfl ?_); refine Wl_store hS (fun _ => by rfl) _ _ _ rfl rfl (cyI.trans rfl) (by simp [Value.oneCell']) ?_; (repeat (first | refine Turn.here rfl ?_ | refine Turn.next ?_)); clear hS; intro wW hS; try simp only [nA]))
          refine ret_st hS rfl _ _ rfl rfl _ Try.underlying32 rfl ?_
          repeat (first | (refine Row.here ⟨cyI.trans rfl, ?_⟩) | refine Row.next ?_)
          exact ⟨by rw [e2.out], hS.below⟩
        · have t0 : (atime == 0) = false := by simpa using ht
          have e2 := Lib.hid (show M.dNextC (M.Dm.mk (M.Rg.mk cls true pa pb len false bio astep bstep atime btime mask mat stop mode ctl pulse vec high auto rmask ints on want) a b left false hold forced done matched ran pending ask) = #[.int .i64 2, .int .u16 a, .int .u8 0, .int .i64 atime] from by simp [M.dNextC, M.dNextK, M.dNextIo, M.dNextA, M.dNextD, M.dNextT, M.dNextT0, M.dIsA, ht])
          replace ht := Lib.hid ht
          go_enter Try.func23, Try.ntmps23
          go_wp2_with (first
  | ((with_reducible first | refine to_load 3 rfl ?_ | refine to_load 4 rfl ?_ | refine to_load 24 rfl ?_); refine Wl_load1 hS (fun _ => by rfl) _ _ rfl (scT _ rfl) ?_; (repeat (first | refine Look.here (of_decide_eq_true rfl) rfl ?_ | refine Look.next ?_)); (with_reducible show wpList _ _ _ _ _ _); simp only [nA])
  | ((with_reducible first | refine to_store 3 rfl ?_ | refine to_store 24 rfl ?_); (first | refine Wl_store1 hS (fun _ => by rfl) _ _ (.int _ _) rfl rfl (scT _ rfl) rfl rfl ?_); (repeat (first | refine Turn1.here (of_decide_eq_true rfl) (of_decide_eq_true rfl) ?_)); clear hS; intro wW hS; (try simp only [nA]); try simp only [Nat.sub_zero, Nat.add_zero, Nat.zero_add, Nat.reduceSub, Nat.add_sub_cancel_left, dm_ss, List.setIfInBounds_toArray, List.set_cons_zero, List.set_cons_succ] at hS)
  | ((with_reducible refine to_boxT 42 rfl ?_); refine Wl_box hS (fun _ => by rfl) _ rfl ?_; clear hS; intro b1 wW hS; simp only [nA])
  | ((with_reducible refine to_alloc 32 rfl ?_); refine Wl_alloc hS (fun _ => by rfl) _ cyZ ?_; clear hS; intro b2 wW hS; simp only [nA])
  | ((with_reducible refine to_load 32 rfl ?_); refine Wl_load hS (fun _ => by rfl) _ _ rfl _ Try.underlying32 rfl ?_; (repeat (first | (refine Row.here ⟨(cyI.trans rfl), ?_⟩))); (with_reducible show wpList _ _ _ _ _ _); simp only [nA])
  | ((with_reducible refine to_store 32 rfl ?_); refine Wl_store hS (fun _ => by rfl) _ _ _ rfl rfl (cyI.trans rfl) (by simp [Value.oneCell']) ?_; (repeat (first | refine Turn.here rfl ?_ | refine Turn.next ?_)); clear hS; intro wW hS; try simp only [nA]))
          refine ret_st hS rfl _ _ rfl rfl _ Try.underlying32 rfl ?_
          repeat (first | (refine Row.here ⟨cyI.trans rfl, ?_⟩) | refine Row.next ?_)
          exact ⟨by rw [e2.out], hS.below⟩
      · by_cases ht : atime = 0
        · have t0 : (atime == 0) = true := by rw [ht]; rfl
          have e2 := Lib.hid (show M.dNextC (M.Dm.mk (M.Rg.mk cls true pa pb len true bio astep bstep atime btime mask mat stop mode ctl pulse vec high auto rmask ints on want) a b left false hold forced done matched ran pending ask) = #[.int .i64 4, .int .u16 a, .int .u8 0, .int .i64 4] from by simp [M.dNextC, M.dNextK, M.dNextIo, M.dNextA, M.dNextD, M.dNextT, M.dNextT0, M.dIsA, ht])
          replace ht := Lib.hid ht
          go_enter Try.func23, Try.ntmps23
          go_wp2_with (first
  | ((with_reducible first | refine to_load 3 rfl ?_ | refine to_load 4 rfl ?_ | refine to_load 24 rfl ?_); refine Wl_load1 hS (fun _ => by rfl) _ _ rfl (scT _ rfl) ?_; (repeat (first | refine Look.here (of_decide_eq_true rfl) rfl ?_ | refine Look.next ?_)); (with_reducible show wpList _ _ _ _ _ _); simp only [nA])
  | ((with_reducible first | refine to_store 3 rfl ?_ | refine to_store 24 rfl ?_); (first | refine Wl_store1 hS (fun _ => by rfl) _ _ (.int _ _) rfl rfl (scT _ rfl) rfl rfl ?_); (repeat (first | refine Turn1.here (of_decide_eq_true rfl) (of_decide_eq_true rfl) ?_)); clear hS; intro wW hS; (try simp only [nA]); try simp only [Nat.sub_zero, Nat.add_zero, Nat.zero_add, Nat.reduceSub, Nat.add_sub_cancel_left, dm_ss, List.setIfInBounds_toArray, List.set_cons_zero, List.set_cons_succ] at hS)
  | ((with_reducible refine to_boxT 42 rfl ?_); refine Wl_box hS (fun _ => by rfl) _ rfl ?_; clear hS; intro b1 wW hS; simp only [nA])
  | ((with_reducible refine to_alloc 32 rfl ?_); refine Wl_alloc hS (fun _ => by rfl) _ cyZ ?_; clear hS; intro b2 wW hS; simp only [nA])
  | ((with_reducible refine to_load 32 rfl ?_); refine Wl_load hS (fun _ => by rfl) _ _ rfl _ Try.underlying32 rfl ?_; (repeat (first | (refine Row.here ⟨(cyI.trans rfl), ?_⟩))); (with_reducible show wpList _ _ _ _ _ _); simp only [nA])
  | ((with_reducible refine to_store 32 rfl ?_); refine Wl_store hS (fun _ => by rfl) _ _ _ rfl rfl (cyI.trans rfl) (by simp [Value.oneCell']) ?_; (repeat (first | refine Turn.here rfl ?_ | refine Turn.next ?_)); clear hS; intro wW hS; try simp only [nA]))
          refine ret_st hS rfl _ _ rfl rfl _ Try.underlying32 rfl ?_
          repeat (first | (refine Row.here ⟨cyI.trans rfl, ?_⟩) | refine Row.next ?_)
          exact ⟨by rw [e2.out], hS.below⟩
        · have t0 : (atime == 0) = false := by simpa using ht
          have e2 := Lib.hid (show M.dNextC (M.Dm.mk (M.Rg.mk cls true pa pb len true bio astep bstep atime btime mask mat stop mode ctl pulse vec high auto rmask ints on want) a b left false hold forced done matched ran pending ask) = #[.int .i64 4, .int .u16 a, .int .u8 0, .int .i64 atime] from by simp [M.dNextC, M.dNextK, M.dNextIo, M.dNextA, M.dNextD, M.dNextT, M.dNextT0, M.dIsA, ht])
          replace ht := Lib.hid ht
          go_enter Try.func23, Try.ntmps23
          go_wp2_with (first
  | ((with_reducible first | refine to_load 3 rfl ?_ | refine to_load 4 rfl ?_ | refine to_load 24 rfl ?_); refine Wl_load1 hS (fun _ => by rfl) _ _ rfl (scT _ rfl) ?_; (repeat (first | refine Look.here (of_decide_eq_true rfl) rfl ?_ | refine Look.next ?_)); (with_reducible show wpList _ _ _ _ _ _); simp only [nA])
  | ((with_reducible first | refine to_store 3 rfl ?_ | refine to_store 24 rfl ?_); (first | refine Wl_store1 hS (fun _ => by rfl) _ _ (.int _ _) rfl rfl (scT _ rfl) rfl rfl ?_); (repeat (first | refine Turn1.here (of_decide_eq_true rfl) (of_decide_eq_true rfl) ?_)); clear hS; intro wW hS; (try simp only [nA]); try simp only [Nat.sub_zero, Nat.add_zero, Nat.zero_add, Nat.reduceSub, Nat.add_sub_cancel_left, dm_ss, List.setIfInBounds_toArray, List.set_cons_zero, List.set_cons_succ] at hS)
  | ((with_reducible refine to_boxT 42 rfl ?_); refine Wl_box hS (fun _ => by rfl) _ rfl ?_; clear hS; intro b1 wW hS; simp only [nA])
  | ((with_reducible refine to_alloc 32 rfl ?_); refine Wl_alloc hS (fun _ => by rfl) _ cyZ ?_; clear hS; intro b2 wW hS; simp only [nA])
  | ((with_reducible refine to_load 32 rfl ?_); refine Wl_load hS (fun _ => by rfl) _ _ rfl _ Try.underlying32 rfl ?_; (repeat (first | (refine Row.here ⟨(cyI.trans rfl), ?_⟩))); (with_reducible show wpList _ _ _ _ _ _); simp only [nA])
  | ((with_reducible refine to_store 32 rfl ?_); refine Wl_store hS (fun _ => by rfl) _ _ _ rfl rfl (cyI.trans rfl) (by simp [Value.oneCell']) ?_; (repeat (first | refine Turn.here rfl ?_ | refine Turn.next ?_)); clear hS; intro wW hS; try simp only [nA]))
          refine ret_st hS rfl _ _ rfl rfl _ Try.underlying32 rfl ?_
          repeat (first | (refine Row.here ⟨cyI.trans rfl, ?_⟩) | refine Row.next ?_)
          exact ⟨by rw [e2.out], hS.below⟩
  · cases atob
    · cases aio
      · by_cases ht : atime = 0
        · have t0 : (atime == 0) = true := by rw [ht]; rfl
          have e2 := Lib.hid (show M.dNextC (M.Dm.mk (M.Rg.mk cls false pa pb len false bio astep bstep atime btime mask mat stop mode ctl pulse vec high auto rmask ints on want) a b left true hold forced done matched ran pending ask) = #[.int .i64 3, .int .u16 a, .int .u8 hold, .int .i64 3] from by simp [M.dNextC, M.dNextK, M.dNextIo, M.dNextA, M.dNextD, M.dNextT, M.dNextT0, M.dIsA, ht])
          replace ht := Lib.hid ht
          go_enter Try.func23, Try.ntmps23
          go_wp2_with (first
  | ((with_reducible first | refine to_load 3 rfl ?_ | refine to_load 4 rfl ?_ | refine to_load 5 rfl ?_ | refine to_load 24 rfl ?_); refine Wl_load1 hS (fun _ => by rfl) _ _ rfl (scT _ rfl) ?_; (repeat (first | refine Look.here (of_decide_eq_true rfl) rfl ?_ | refine Look.next ?_)); (with_reducible show wpList _ _ _ _ _ _); simp only [nA])
  | ((with_reducible first | refine to_store 3 rfl ?_ | refine to_store 5 rfl ?_ | refine to_store 24 rfl ?_); (first | refine Wl_store1 hS (fun _ => by rfl) _ _ (.int _ _) rfl rfl (scT _ rfl) rfl rfl ?_); (repeat (first | refine Turn1.here (of_decide_eq_true rfl) (of_decide_eq_true rfl) ?_)); clear hS; intro wW hS; (try simp only [nA]); try simp only [Nat.sub_zero, Nat.add_zero, Nat.zero_add, Nat.reduceSub, Nat.add_sub_cancel_left, dm_ss, List.setIfInBounds_toArray, List.set_cons_zero, List.set_cons_succ] at hS)
  | ((with_reducible refine to_boxT 42 rfl ?_); refine Wl_box hS (fun _ => by rfl) _ rfl ?_; clear hS; intro b1 wW hS; simp only [nA])
  | ((with_reducible refine to_alloc 32 rfl ?_); refine Wl_alloc hS (fun _ => by rfl) _ cyZ ?_; clear hS; intro b2 wW hS; simp only [nA])
  | ((with_reducible refine to_load 32 rfl ?_); refine Wl_load hS (fun _ => by rfl) _ _ rfl _ Try.underlying32 rfl ?_; (repeat (first | (refine Row.here ⟨(cyI.trans rfl), ?_⟩))); (with_reducible show wpList _ _ _ _ _ _); simp only [nA])
  | ((with_reducible refine to_store 32 rfl ?_); refine Wl_store hS (fun _ => by rfl) _ _ _ rfl rfl (cyI.trans rfl) (by simp [Value.oneCell']) ?_; (repeat (first | refine Turn.here rfl ?_ | refine Turn.next ?_)); clear hS; intro wW hS; try simp only [nA]))
          refine ret_st hS rfl _ _ rfl rfl _ Try.underlying32 rfl ?_
          repeat (first | (refine Row.here ⟨cyI.trans rfl, ?_⟩) | refine Row.next ?_)
          exact ⟨by rw [e2.out], hS.below⟩
        · have t0 : (atime == 0) = false := by simpa using ht
          have e2 := Lib.hid (show M.dNextC (M.Dm.mk (M.Rg.mk cls false pa pb len false bio astep bstep atime btime mask mat stop mode ctl pulse vec high auto rmask ints on want) a b left true hold forced done matched ran pending ask) = #[.int .i64 3, .int .u16 a, .int .u8 hold, .int .i64 atime] from by simp [M.dNextC, M.dNextK, M.dNextIo, M.dNextA, M.dNextD, M.dNextT, M.dNextT0, M.dIsA, ht])
          replace ht := Lib.hid ht
          go_enter Try.func23, Try.ntmps23
          go_wp2_with (first
  | ((with_reducible first | refine to_load 3 rfl ?_ | refine to_load 4 rfl ?_ | refine to_load 5 rfl ?_ | refine to_load 24 rfl ?_); refine Wl_load1 hS (fun _ => by rfl) _ _ rfl (scT _ rfl) ?_; (repeat (first | refine Look.here (of_decide_eq_true rfl) rfl ?_ | refine Look.next ?_)); (with_reducible show wpList _ _ _ _ _ _); simp only [nA])
  | ((with_reducible first | refine to_store 3 rfl ?_ | refine to_store 5 rfl ?_ | refine to_store 24 rfl ?_); (first | refine Wl_store1 hS (fun _ => by rfl) _ _ (.int _ _) rfl rfl (scT _ rfl) rfl rfl ?_); (repeat (first | refine Turn1.here (of_decide_eq_true rfl) (of_decide_eq_true rfl) ?_)); clear hS; intro wW hS; (try simp only [nA]); try simp only [Nat.sub_zero, Nat.add_zero, Nat.zero_add, Nat.reduceSub, Nat.add_sub_cancel_left, dm_ss, List.setIfInBounds_toArray, List.set_cons_zero, List.set_cons_succ] at hS)
  | ((with_reducible refine to_boxT 42 rfl ?_); refine Wl_box hS (fun _ => by rfl) _ rfl ?_; clear hS; intro b1 wW hS; simp only [nA])
  | ((with_reducible refine to_alloc 32 rfl ?_); refine Wl_alloc hS (fun _ => by rfl) _ cyZ ?_; clear hS; intro b2 wW hS; simp only [nA])
  | ((with_reducible refine to_load 32 rfl ?_); refine Wl_load hS (fun _ => by rfl) _ _ rfl _ Try.underlying32 rfl ?_; (repeat (first | (refine Row.here ⟨(cyI.trans rfl), ?_⟩))); (with_reducible show wpList _ _ _ _ _ _); simp only [nA])
  | ((with_reducible refine to_store 32 rfl ?_); refine Wl_store hS (fun _ => by rfl) _ _ _ rfl rfl (cyI.trans rfl) (by simp [Value.oneCell']) ?_; (repeat (first | refine Turn.here rfl ?_ | refine Turn.next ?_)); clear hS; intro wW hS; try simp only [nA]))
          refine ret_st hS rfl _ _ rfl rfl _ Try.underlying32 rfl ?_
          repeat (first | (refine Row.here ⟨cyI.trans rfl, ?_⟩) | refine Row.next ?_)
          exact ⟨by rw [e2.out], hS.below⟩
      · by_cases ht : atime = 0
        · have t0 : (atime == 0) = true := by rw [ht]; rfl
          have e2 := Lib.hid (show M.dNextC (M.Dm.mk (M.Rg.mk cls false pa pb len true bio astep bstep atime btime mask mat stop mode ctl pulse vec high auto rmask ints on want) a b left true hold forced done matched ran pending ask) = #[.int .i64 5, .int .u16 a, .int .u8 hold, .int .i64 4] from by simp [M.dNextC, M.dNextK, M.dNextIo, M.dNextA, M.dNextD, M.dNextT, M.dNextT0, M.dIsA, ht])
          replace ht := Lib.hid ht
          go_enter Try.func23, Try.ntmps23
          go_wp2_with (first
  | ((with_reducible first | refine to_load 3 rfl ?_ | refine to_load 4 rfl ?_ | refine to_load 5 rfl ?_ | refine to_load 24 rfl ?_); refine Wl_load1 hS (fun _ => by rfl) _ _ rfl (scT _ rfl) ?_; (repeat (first | refine Look.here (of_decide_eq_true rfl) rfl ?_ | refine Look.next ?_)); (with_reducible show wpList _ _ _ _ _ _); simp only [nA])
  | ((with_reducible first | refine to_store 3 rfl ?_ | refine to_store 5 rfl ?_ | refine to_store 24 rfl ?_); (first | refine Wl_store1 hS (fun _ => by rfl) _ _ (.int _ _) rfl rfl (scT _ rfl) rfl rfl ?_); (repeat (first | refine Turn1.here (of_decide_eq_true rfl) (of_decide_eq_true rfl) ?_)); clear hS; intro wW hS; (try simp only [nA]); try simp only [Nat.sub_zero, Nat.add_zero, Nat.zero_add, Nat.reduceSub, Nat.add_sub_cancel_left, dm_ss, List.setIfInBounds_toArray, List.set_cons_zero, List.set_cons_succ] at hS)
  | ((with_reducible refine to_boxT 42 rfl ?_); refine Wl_box hS (fun _ => by rfl) _ rfl ?_; clear hS; intro b1 wW hS; simp only [nA])
  | ((with_reducible refine to_alloc 32 rfl ?_); refine Wl_alloc hS (fun _ => by rfl) _ cyZ ?_; clear hS; intro b2 wW hS; simp only [nA])
  | ((with_reducible refine to_load 32 rfl ?_); refine Wl_load hS (fun _ => by rfl) _ _ rfl _ Try.underlying32 rfl ?_; (repeat (first | (refine Row.here ⟨(cyI.trans rfl), ?_⟩))); (with_reducible show wpList _ _ _ _ _ _); simp only [nA])
  | ((with_reducible refine to_store 32 rfl ?_); refine Wl_store hS (fun _ => by rfl) _ _ _ rfl rfl (cyI.trans rfl) (by simp [Value.oneCell']) ?_; (repeat (first | refine Turn.here rfl ?_ | refine Turn.next ?_)); clear hS; intro wW hS; try simp only [nA]))
          refine ret_st hS rfl _ _ rfl rfl _ Try.underlying32 rfl ?_
          repeat (first | (refine Row.here ⟨cyI.trans rfl, ?_⟩) | refine Row.next ?_)
          exact ⟨by rw [e2.out], hS.below⟩
        · have t0 : (atime == 0) = false := by simpa using ht
          have e2 := Lib.hid (show M.dNextC (M.Dm.mk (M.Rg.mk cls false pa pb len true bio astep bstep atime btime mask mat stop mode ctl pulse vec high auto rmask ints on want) a b left true hold forced done matched ran pending ask) = #[.int .i64 5, .int .u16 a, .int .u8 hold, .int .i64 atime] from by simp [M.dNextC, M.dNextK, M.dNextIo, M.dNextA, M.dNextD, M.dNextT, M.dNextT0, M.dIsA, ht])
          replace ht := Lib.hid ht
          go_enter Try.func23, Try.ntmps23
          go_wp2_with (first
  | ((with_reducible first | refine to_load 3 rfl ?_ | refine to_load 4 rfl ?_ | refine to_load 5 rfl ?_ | refine to_load 24 rfl ?_); refine Wl_load1 hS (fun _ => by rfl) _ _ rfl (scT _ rfl) ?_; (repeat (first | refine Look.here (of_decide_eq_true rfl) rfl ?_ | refine Look.next ?_)); (with_reducible show wpList _ _ _ _ _ _); simp only [nA])
  | ((with_reducible first | refine to_store 3 rfl ?_ | refine to_store 5 rfl ?_ | refine to_store 24 rfl ?_); (first | refine Wl_store1 hS (fun _ => by rfl) _ _ (.int _ _) rfl rfl (scT _ rfl) rfl rfl ?_); (repeat (first | refine Turn1.here (of_decide_eq_true rfl) (of_decide_eq_true rfl) ?_)); clear hS; intro wW hS; (try simp only [nA]); try simp only [Nat.sub_zero, Nat.add_zero, Nat.zero_add, Nat.reduceSub, Nat.add_sub_cancel_left, dm_ss, List.setIfInBounds_toArray, List.set_cons_zero, List.set_cons_succ] at hS)
  | ((with_reducible refine to_boxT 42 rfl ?_); refine Wl_box hS (fun _ => by rfl) _ rfl ?_; clear hS; intro b1 wW hS; simp only [nA])
  | ((with_reducible refine to_alloc 32 rfl ?_); refine Wl_alloc hS (fun _ => by rfl) _ cyZ ?_; clear hS; intro b2 wW hS; simp only [nA])
  | ((with_reducible refine to_load 32 rfl ?_); refine Wl_load hS (fun _ => by rfl) _ _ rfl _ Try.underlying32 rfl ?_; (repeat (first | (refine Row.here ⟨(cyI.trans rfl), ?_⟩))); (with_reducible show wpList _ _ _ _ _ _); simp only [nA])
  | ((with_reducible refine to_store 32 rfl ?_); refine Wl_store hS (fun _ => by rfl) _ _ _ rfl rfl (cyI.trans rfl) (by simp [Value.oneCell']) ?_; (repeat (first | refine Turn.here rfl ?_ | refine Turn.next ?_)); clear hS; intro wW hS; try simp only [nA]))
          refine ret_st hS rfl _ _ rfl rfl _ Try.underlying32 rfl ?_
          repeat (first | (refine Row.here ⟨cyI.trans rfl, ?_⟩) | refine Row.next ?_)
          exact ⟨by rw [e2.out], hS.below⟩
    · cases bio
      · by_cases ht : btime = 0
        · have t0 : (btime == 0) = true := by rw [ht]; rfl
          have e2 := Lib.hid (show M.dNextC (M.Dm.mk (M.Rg.mk cls true pa pb len aio false astep bstep atime btime mask mat stop mode ctl pulse vec high auto rmask ints on want) a b left true hold forced done matched ran pending ask) = #[.int .i64 3, .int .u16 b, .int .u8 hold, .int .i64 3] from by simp [M.dNextC, M.dNextK, M.dNextIo, M.dNextA, M.dNextD, M.dNextT, M.dNextT0, M.dIsA, ht])
          replace ht := Lib.hid ht
          go_enter Try.func23, Try.ntmps23
          go_wp2_with (first
  | ((with_reducible first | refine to_load 3 rfl ?_ | refine to_load 4 rfl ?_ | refine to_load 5 rfl ?_ | refine to_load 24 rfl ?_); refine Wl_load1 hS (fun _ => by rfl) _ _ rfl (scT _ rfl) ?_; (repeat (first | refine Look.here (of_decide_eq_true rfl) rfl ?_ | refine Look.next ?_)); (with_reducible show wpList _ _ _ _ _ _); simp only [nA])
  | ((with_reducible first | refine to_store 3 rfl ?_ | refine to_store 5 rfl ?_); (first | refine Wl_store1 hS (fun _ => by rfl) _ _ (.int _ _) rfl rfl (scT _ rfl) rfl rfl ?_); (repeat (first | refine Turn1.here (of_decide_eq_true rfl) (of_decide_eq_true rfl) ?_)); clear hS; intro wW hS; (try simp only [nA]); try simp only [Nat.sub_zero, Nat.add_zero, Nat.zero_add, Nat.reduceSub, Nat.add_sub_cancel_left, dm_ss, List.setIfInBounds_toArray, List.set_cons_zero, List.set_cons_succ] at hS)
  | ((with_reducible refine to_boxT 42 rfl ?_); refine Wl_box hS (fun _ => by rfl) _ rfl ?_; clear hS; intro b1 wW hS; simp only [nA])
  | ((with_reducible refine to_alloc 32 rfl ?_); refine Wl_alloc hS (fun _ => by rfl) _ cyZ ?_; clear hS; intro b2 wW hS; simp only [nA])
  | ((with_reducible refine to_load 32 rfl ?_); refine Wl_load hS (fun _ => by rfl) _ _ rfl _ Try.underlying32 rfl ?_; (repeat (first | (refine Row.here ⟨(cyI.trans rfl), ?_⟩))); (with_reducible show wpList _ _ _ _ _ _); simp only [nA])
  | ((with_reducible refine to_store 32 rfl ?_); refine Wl_store hS (fun _ => by rfl) _ _ _ rfl rfl (cyI.trans rfl) (by simp [Value.oneCell']) ?_; (repeat (first | refine Turn.here rfl ?_ | refine Turn.next ?_)); clear hS; intro wW hS; try simp only [nA]))
          refine ret_st hS rfl _ _ rfl rfl _ Try.underlying32 rfl ?_
          repeat (first | (refine Row.here ⟨cyI.trans rfl, ?_⟩) | refine Row.next ?_)
          exact ⟨by rw [e2.out], hS.below⟩
        · have t0 : (btime == 0) = false := by simpa using ht
          have e2 := Lib.hid (show M.dNextC (M.Dm.mk (M.Rg.mk cls true pa pb len aio false astep bstep atime btime mask mat stop mode ctl pulse vec high auto rmask ints on want) a b left true hold forced done matched ran pending ask) = #[.int .i64 3, .int .u16 b, .int .u8 hold, .int .i64 btime] from by simp [M.dNextC, M.dNextK, M.dNextIo, M.dNextA, M.dNextD, M.dNextT, M.dNextT0, M.dIsA, ht])
          replace ht := Lib.hid ht
          go_enter Try.func23, Try.ntmps23
          go_wp2_with (first
  | ((with_reducible first | refine to_load 3 rfl ?_ | refine to_load 4 rfl ?_ | refine to_load 5 rfl ?_ | refine to_load 24 rfl ?_); refine Wl_load1 hS (fun _ => by rfl) _ _ rfl (scT _ rfl) ?_; (repeat (first | refine Look.here (of_decide_eq_true rfl) rfl ?_ | refine Look.next ?_)); (with_reducible show wpList _ _ _ _ _ _); simp only [nA])
  | ((with_reducible first | refine to_store 3 rfl ?_ | refine to_store 5 rfl ?_); (first | refine Wl_store1 hS (fun _ => by rfl) _ _ (.int _ _) rfl rfl (scT _ rfl) rfl rfl ?_); (repeat (first | refine Turn1.here (of_decide_eq_true rfl) (of_decide_eq_true rfl) ?_)); clear hS; intro wW hS; (try simp only [nA]); try simp only [Nat.sub_zero, Nat.add_zero, Nat.zero_add, Nat.reduceSub, Nat.add_sub_cancel_left, dm_ss, List.setIfInBounds_toArray, List.set_cons_zero, List.set_cons_succ] at hS)
  | ((with_reducible refine to_boxT 42 rfl ?_); refine Wl_box hS (fun _ => by rfl) _ rfl ?_; clear hS; intro b1 wW hS; simp only [nA])
  | ((with_reducible refine to_alloc 32 rfl ?_); refine Wl_alloc hS (fun _ => by rfl) _ cyZ ?_; clear hS; intro b2 wW hS; simp only [nA])
  | ((with_reducible refine to_load 32 rfl ?_); refine Wl_load hS (fun _ => by rfl) _ _ rfl _ Try.underlying32 rfl ?_; (repeat (first | (refine Row.here ⟨(cyI.trans rfl), ?_⟩))); (with_reducible show wpList _ _ _ _ _ _); simp only [nA])
  | ((with_reducible refine to_store 32 rfl ?_); refine Wl_store hS (fun _ => by rfl) _ _ _ rfl rfl (cyI.trans rfl) (by simp [Value.oneCell']) ?_; (repeat (first | refine Turn.here rfl ?_ | refine Turn.next ?_)); clear hS; intro wW hS; try simp only [nA]))
          refine ret_st hS rfl _ _ rfl rfl _ Try.underlying32 rfl ?_
          repeat (first | (refine Row.here ⟨cyI.trans rfl, ?_⟩) | refine Row.next ?_)
          exact ⟨by rw [e2.out], hS.below⟩
      · by_cases ht : btime = 0
        · have t0 : (btime == 0) = true := by rw [ht]; rfl
          have e2 := Lib.hid (show M.dNextC (M.Dm.mk (M.Rg.mk cls true pa pb len aio true astep bstep atime btime mask mat stop mode ctl pulse vec high auto rmask ints on want) a b left true hold forced done matched ran pending ask) = #[.int .i64 5, .int .u16 b, .int .u8 hold, .int .i64 4] from by simp [M.dNextC, M.dNextK, M.dNextIo, M.dNextA, M.dNextD, M.dNextT, M.dNextT0, M.dIsA, ht])
          replace ht := Lib.hid ht
          go_enter Try.func23, Try.ntmps23
          go_wp2_with (first
  | ((with_reducible first | refine to_load 3 rfl ?_ | refine to_load 4 rfl ?_ | refine to_load 5 rfl ?_ | refine to_load 24 rfl ?_); refine Wl_load1 hS (fun _ => by rfl) _ _ rfl (scT _ rfl) ?_; (repeat (first | refine Look.here (of_decide_eq_true rfl) rfl ?_ | refine Look.next ?_)); (with_reducible show wpList _ _ _ _ _ _); simp only [nA])
  | ((with_reducible first | refine to_store 3 rfl ?_ | refine to_store 5 rfl ?_); (first | refine Wl_store1 hS (fun _ => by rfl) _ _ (.int _ _) rfl rfl (scT _ rfl) rfl rfl ?_); (repeat (first | refine Turn1.here (of_decide_eq_true rfl) (of_decide_eq_true rfl) ?_)); clear hS; intro wW hS; (try simp only [nA]); try simp only [Nat.sub_zero, Nat.add_zero, Nat.zero_add, Nat.reduceSub, Nat.add_sub_cancel_left, dm_ss, List.setIfInBounds_toArray, List.set_cons_zero, List.set_cons_succ] at hS)
  | ((with_reducible refine to_boxT 42 rfl ?_); refine Wl_box hS (fun _ => by rfl) _ rfl ?_; clear hS; intro b1 wW hS; simp only [nA])
  | ((with_reducible refine to_alloc 32 rfl ?_); refine Wl_alloc hS (fun _ => by rfl) _ cyZ ?_; clear hS; intro b2 wW hS; simp only [nA])
  | ((with_reducible refine to_load 32 rfl ?_); refine Wl_load hS (fun _ => by rfl) _ _ rfl _ Try.underlying32 rfl ?_; (repeat (first | (refine Row.here ⟨(cyI.trans rfl), ?_⟩))); (with_reducible show wpList _ _ _ _ _ _); simp only [nA])
  | ((with_reducible refine to_store 32 rfl ?_); refine Wl_store hS (fun _ => by rfl) _ _ _ rfl rfl (cyI.trans rfl) (by simp [Value.oneCell']) ?_; (repeat (first | refine Turn.here rfl ?_ | refine Turn.next ?_)); clear hS; intro wW hS; try simp only [nA]))
          refine ret_st hS rfl _ _ rfl rfl _ Try.underlying32 rfl ?_
          repeat (first | (refine Row.here ⟨cyI.trans rfl, ?_⟩) | refine Row.next ?_)
          exact ⟨by rw [e2.out], hS.below⟩
        · have t0 : (btime == 0) = false := by simpa using ht
          have e2 := Lib.hid (show M.dNextC (M.Dm.mk (M.Rg.mk cls true pa pb len aio true astep bstep atime btime mask mat stop mode ctl pulse vec high auto rmask ints on want) a b left true hold forced done matched ran pending ask) = #[.int .i64 5, .int .u16 b, .int .u8 hold, .int .i64 btime] from by simp [M.dNextC, M.dNextK, M.dNextIo, M.dNextA, M.dNextD, M.dNextT, M.dNextT0, M.dIsA, ht])
          replace ht := Lib.hid ht
          go_enter Try.func23, Try.ntmps23
          go_wp2_with (first
  | ((with_reducible first | refine to_load 3 rfl ?_ | refine to_load 4 rfl ?_ | refine to_load 5 rfl ?_ | refine to_load 24 rfl ?_); refine Wl_load1 hS (fun _ => by rfl) _ _ rfl (scT _ rfl) ?_; (repeat (first | refine Look.here (of_decide_eq_true rfl) rfl ?_ | refine Look.next ?_)); (with_reducible show wpList _ _ _ _ _ _); simp only [nA])
  | ((with_reducible first | refine to_store 3 rfl ?_ | refine to_store 5 rfl ?_); (first | refine Wl_store1 hS (fun _ => by rfl) _ _ (.int _ _) rfl rfl (scT _ rfl) rfl rfl ?_); (repeat (first | refine Turn1.here (of_decide_eq_true rfl) (of_decide_eq_true rfl) ?_)); clear hS; intro wW hS; (try simp only [nA]); try simp only [Nat.sub_zero, Nat.add_zero, Nat.zero_add, Nat.reduceSub, Nat.add_sub_cancel_left, dm_ss, List.setIfInBounds_toArray, List.set_cons_zero, List.set_cons_succ] at hS)
  | ((with_reducible refine to_boxT 42 rfl ?_); refine Wl_box hS (fun _ => by rfl) _ rfl ?_; clear hS; intro b1 wW hS; simp only [nA])
  | ((with_reducible refine to_alloc 32 rfl ?_); refine Wl_alloc hS (fun _ => by rfl) _ cyZ ?_; clear hS; intro b2 wW hS; simp only [nA])
  | ((with_reducible refine to_load 32 rfl ?_); refine Wl_load hS (fun _ => by rfl) _ _ rfl _ Try.underlying32 rfl ?_; (repeat (first | (refine Row.here ⟨(cyI.trans rfl), ?_⟩))); (with_reducible show wpList _ _ _ _ _ _); simp only [nA])
  | ((with_reducible refine to_store 32 rfl ?_); refine Wl_store hS (fun _ => by rfl) _ _ _ rfl rfl (cyI.trans rfl) (by simp [Value.oneCell']) ?_; (repeat (first | refine Turn.here rfl ?_ | refine Turn.next ?_)); clear hS; intro wW hS; try simp only [nA]))
          refine ret_st hS rfl _ _ rfl rfl _ Try.underlying32 rfl ?_
          repeat (first | (refine Row.here ⟨cyI.trans rfl, ?_⟩) | refine Row.next ?_)
          exact ⟨by rw [e2.out], hS.below⟩
end Go.Proofs.Ytkkkjdbcckaedaa
