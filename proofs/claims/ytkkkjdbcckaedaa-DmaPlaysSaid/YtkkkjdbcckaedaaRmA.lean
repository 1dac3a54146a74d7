/- The reference's DMA (charabancref22): New, length, block, Status, Wants, Holds, by their contracts. -/
import Derived.Test.YtkkkjdbcckaedaaZDm
import Derived.Test.YtkkkjdbcckaedaaZBits
import Derived.Test.YtkkkjdbcckaedaaRgRef2
namespace Go.Proofs.Ytkkkjdbcckaedaa
open Go.RowKit
set_option linter.unusedVariables false
set_option linter.unusedSimpArgs false
set_option maxRecDepth 100000
theorem rmlen_any (d : M.Dm) (hd : d.ok) (A : Option Addr) (n c : Nat) (w : World) : Calls Try.prog 57 #[.agg (d.c (.slice A n c))] w fun e w' => e = .returned (.int .i64 (M.dLen d)) ∧ Below w.heap.size w w' := by
  have hS := St.start w.heap.size 0 0 w
  have hl := hd.p.len
  by_cases h : d.p.len = 0
  · have e1 : M.dLen d = 65536 := if_pos h
    have t0 : (d.p.len == 0) = true := by rw [h]; rfl
    rw [e1]
    clear e1 h
    go_enter Try.func57, Try.ntmps57
    go_wp2_with (first
  | ((with_reducible first | refine to_load 24 rfl ?_); refine Wl_load1 hS (fun _ => by rfl) _ _ rfl (scT _ rfl) ?_; (repeat (first | refine Look.here (of_decide_eq_true rfl) rfl ?_)); (with_reducible show wpList _ _ _ _ _ _); simp only [nA])
  | ((with_reducible refine to_boxT 42 rfl ?_); refine Wl_box hS (fun _ => by rfl) _ rfl ?_; clear hS; intro b1 wW hS; simp only [nA])
  )
    go_returns
    exact ⟨rfl, hS.below⟩
  · have e1 : M.dLen d = d.p.len := if_neg h
    have t0 : (d.p.len == 0) = false := by simpa using h
    rw [e1]
    clear e1 h
    go_enter Try.func57, Try.ntmps57
    go_wp2_with (first
  | ((with_reducible first | refine to_load 24 rfl ?_); refine Wl_load1 hS (fun _ => by rfl) _ _ rfl (scT _ rfl) ?_; (repeat (first | refine Look.here (of_decide_eq_true rfl) rfl ?_)); (with_reducible show wpList _ _ _ _ _ _); simp only [nA])
  | ((with_reducible refine to_boxT 42 rfl ?_); refine Wl_box hS (fun _ => by rfl) _ rfl ?_; clear hS; intro b1 wW hS; simp only [nA])
  )
    go_returns
    exact ⟨rfl, hS.below⟩
theorem rmblock_any (d : M.Dm) (hd : d.ok) (A : Option Addr) (n c : Nat) (w : World) : Calls Try.prog 56 #[.agg (d.c (.slice A n c))] w fun e w' => e = .returned (.agg ((M.dBlock d).c (.slice A n c))) ∧ Below w.heap.size w w' := by
  have hS := St.start w.heap.size 0 0 w
  have hl := fun W => rmlen_any { d with a := d.p.a, b := d.p.b } ⟨hd.p, hd.p.a, hd.p.b, hd.left, hd.hold, hd.ask⟩ A n c W
  have e1 : M.dBlock d = { d with a := d.p.a, b := d.p.b, left := M.dLen { d with a := d.p.a, b := d.p.b }, held := false } := rfl
  rw [e1]
  generalize M.dLen { d with a := d.p.a, b := d.p.b } = L at hl ⊢
  have HL := Lib.hid hl
  clear hl e1
  go_enter Try.func56, Try.ntmps56
  go_wp2_with (first
  | ((with_reducible first | refine to_load 24 rfl ?_); refine Wl_load1 hS (fun _ => by rfl) _ _ rfl (scT _ rfl) ?_; (repeat (first | refine Look.here (of_decide_eq_true rfl) rfl ?_ | refine Look.next ?_)); (with_reducible show wpList _ _ _ _ _ _); simp only [nA])
  | ((with_reducible first | refine to_store 24 rfl ?_); (first | refine Wl_store1 hS (fun _ => by rfl) _ _ (.int _ _) rfl rfl (scT _ rfl) rfl rfl ?_); (repeat (first | refine Turn1.here (of_decide_eq_true rfl) (of_decide_eq_true rfl) ?_ | refine Turn1.next ?_)); clear hS; intro wW hS; (try simp only [nA]); try simp only [Nat.sub_zero, Nat.add_zero, Nat.zero_add, Nat.reduceSub, Nat.add_sub_cancel_left, dm_ss] at hS)
  | ((with_reducible refine to_boxT 42 rfl ?_); refine Wl_box hS (fun _ => by rfl) _ rfl ?_; clear hS; intro b1 wW hS; simp only [nA])
  | ((with_reducible refine to_alloc 42 rfl ?_); refine Wl_alloc hS (fun _ => by rfl) _ rdmZ ?_; clear hS; intro b2 wW hS; simp only [nA])
  | ((with_reducible refine to_load 42 rfl ?_); refine Wl_load hS (fun _ => by rfl) _ _ rfl _ Try.underlying42 rfl ?_; (repeat (first | (refine Row.here ⟨(rdmI.trans rfl), ?_⟩) | refine Row.next ?_)); (with_reducible show wpList _ _ _ _ _ _); simp only [nA]))
  refine (HL.out _).mono ?_
  rintro e w1 ⟨rfl, hb⟩
  replace hS := hS.call hb
  clear hb
  go_wp2_with (first
  | ((with_reducible first | refine to_store 3 rfl ?_ | refine to_store 4 rfl ?_ ); (first | refine Wl_store1 hS (fun _ => by rfl) _ _ (.int _ _) rfl rfl (scT _ rfl) rfl rfl ?_ | refine Wl_store1 hS (fun _ => by rfl) _ _ (.bool _) rfl rfl (scT _ rfl) rfl rfl ?_); (repeat (first | refine Turn1.here (of_decide_eq_true rfl) (of_decide_eq_true rfl) ?_ | refine Turn1.next ?_)); clear hS; intro wW hS; (try simp only [nA]); try simp only [Nat.sub_zero, Nat.add_zero, Nat.zero_add, Nat.reduceSub, Nat.add_sub_cancel_left, dm_ss] at hS)
  | ((with_reducible refine to_load 42 rfl ?_); refine Wl_load hS (fun _ => by rfl) _ _ rfl _ Try.underlying42 rfl ?_; (repeat (first | (refine Row.here ⟨(rdmI.trans rfl), ?_⟩) | refine Row.next ?_)); (with_reducible show wpList _ _ _ _ _ _); simp only [nA])
  | ((with_reducible refine to_store 42 rfl ?_); refine Wl_store hS (fun _ => by rfl) _ _ _ rfl rfl (rdmI.trans rfl) (dm_one _ _ _ _) ?_; (repeat (first | refine Turn.here rfl ?_)); clear hS; intro wW hS; try simp only [nA]))
  refine ret_st hS rfl _ _ rfl rfl _ Try.underlying42 rfl ?_
  repeat (first | (refine Row.here ⟨rdmI.trans rfl, ?_⟩))
  exact ⟨rfl, hS.below⟩
theorem rmnew_any (w : World) : Calls Try.prog 28 #[] w fun e w' => e = .returned (.agg (M.dmNew.c (.slice none 0 0))) ∧ Below w.heap.size w w' := by
  have hS := St.start w.heap.size 0 0 w
  go_enter Try.func28, Try.ntmps28
  go_wp2_with (first
  | ((with_reducible refine to_alloc 42 rfl ?_); refine Wl_alloc hS (fun _ => by rfl) _ rdmZ ?_; clear hS; intro b2 wW hS; simp only [nA])
  )
  refine (rreset_any _).mono ?_
  rintro e w1 ⟨rfl, hb⟩
  replace hS := hS.call hb
  clear hb
  go_wp2_with (first | ((with_reducible refine to_build (.agg (M.dmNew.c (.slice none 0 0))) (by intro w; kernel_rfl) ?_); simp only [nA]) | ((with_reducible refine to_store 42 rfl ?_); refine Wl_store hS (fun _ => by rfl) _ _ _ rfl rfl (rdmI.trans rfl) (dm_one _ _ _ _) ?_; (repeat (first | refine Turn.here rfl ?_)); clear hS; intro wW hS; try simp only [nA]))
  refine ret_st hS rfl _ _ rfl rfl _ Try.underlying42 rfl ?_
  repeat (first | (refine Row.here ⟨rdmI.trans rfl, ?_⟩))
  exact ⟨rfl, hS.below⟩
theorem rmstatus_any (d : M.Dm) (A : Option Addr) (n c : Nat) (w : World) : Calls Try.prog 22 #[.agg (d.c (.slice A n c))] w fun e w' => e = .returned (.int .u8 (M.dStatus d)) ∧ Below w.heap.size w w' := by
  have hS := St.start w.heap.size 0 0 w
  have r1 := M.with_range 0 0 d.ran (by decide) (by decide)
  have r2 := M.with_range _ 3 d.pending r1.1 r1.2
  have r3 := M.with_range _ 4 d.matched r2.1 r2.2
  have c1 := fun W => refwith_any 0 0 d.ran (by decide) (by decide) W
  have c2 := fun W => refwith_any _ 3 d.pending r1.1 r1.2 W
  have c3 := fun W => refwith_any _ 4 d.matched r2.1 r2.2 W
  have c4 := fun W => refwith_any _ 5 d.done r3.1 r3.2 W
  unfold M.dStatus
  generalize M.withB (M.withB (M.withB (M.withB 0 0 d.ran) 3 d.pending) 4 d.matched) 5 d.done = q4 at c4 ⊢
  generalize M.withB (M.withB (M.withB 0 0 d.ran) 3 d.pending) 4 d.matched = q3 at c3 c4
  generalize M.withB (M.withB 0 0 d.ran) 3 d.pending = q2 at c2 c3
  generalize M.withB 0 0 d.ran = q1 at c1 c2
  have C1 := Lib.hid c1
  have C2 := Lib.hid c2
  have C3 := Lib.hid c3
  have C4 := Lib.hid c4
  clear c1 c2 c3 c4 r1 r2 r3
  go_enter Try.func22, Try.ntmps22
  go_wp2_with (first
  | ((with_reducible first | refine to_load 4 rfl ?_ ); refine Wl_load1 hS (fun _ => by rfl) _ _ rfl (scT _ rfl) ?_; (repeat (first | refine Look.here (of_decide_eq_true rfl) rfl ?_)); (with_reducible show wpList _ _ _ _ _ _); simp only [nA])
  | ((with_reducible refine to_boxT 42 rfl ?_); refine Wl_box hS (fun _ => by rfl) _ rfl ?_; clear hS; intro b1 wW hS; simp only [nA])
  )
  refine (C1.out _).mono ?_
  rintro e w1 ⟨rfl, rfl⟩
  go_wp2_with (first
  | ((with_reducible first | refine to_load 4 rfl ?_ ); refine Wl_load1 hS (fun _ => by rfl) _ _ rfl (scT _ rfl) ?_; (repeat (first | refine Look.here (of_decide_eq_true rfl) rfl ?_)); (with_reducible show wpList _ _ _ _ _ _); simp only [nA])
  )
  refine (C2.out _).mono ?_
  rintro e w1 ⟨rfl, rfl⟩
  go_wp2_with (first
  | ((with_reducible first | refine to_load 4 rfl ?_ ); refine Wl_load1 hS (fun _ => by rfl) _ _ rfl (scT _ rfl) ?_; (repeat (first | refine Look.here (of_decide_eq_true rfl) rfl ?_)); (with_reducible show wpList _ _ _ _ _ _); simp only [nA])
  )
  refine (C3.out _).mono ?_
  rintro e w1 ⟨rfl, rfl⟩
  go_wp2_with (first
  | ((with_reducible first | refine to_load 4 rfl ?_ ); refine Wl_load1 hS (fun _ => by rfl) _ _ rfl (scT _ rfl) ?_; (repeat (first | refine Look.here (of_decide_eq_true rfl) rfl ?_)); (with_reducible show wpList _ _ _ _ _ _); simp only [nA])
  )
  refine (C4.out _).mono ?_
  rintro e w1 ⟨rfl, rfl⟩
  go_wp2_with (first
  | ((with_reducible first | refine to_load 3 rfl ?_ ); refine Wl_load1 hS (fun _ => by rfl) _ _ rfl (scT _ rfl) ?_; (repeat (first | refine Look.here (of_decide_eq_true rfl) rfl ?_)); (with_reducible show wpList _ _ _ _ _ _); simp only [nA])
  )
  go_returns
  exact ⟨rfl, hS.below⟩
set_option maxHeartbeats 4000000 in
theorem rmwants_any (d : M.Dm) (A : Option Addr) (n c : Nat) (r : Bool) (w : World) : Calls Try.prog 25 #[.agg (d.c (.slice A n c)), .bool r] w fun e w' => e = .returned (.bool (M.dWants d r)) ∧ Below w.heap.size w w' := by
  have hS := St.start w.heap.size 0 0 w
  cases hp : d.p.on
  · rw [show M.dWants d r = false from by simp [M.dWants, M.dOpen, hp]]
    go_enter Try.func25, Try.ntmps25
    go_wp2_with (first
  | ((with_reducible first | refine to_load 4 rfl ?_ ); refine Wl_load1 hS (fun _ => by rfl) _ _ rfl (scT _ rfl) ?_; (repeat (first | refine Look.here (of_decide_eq_true rfl) rfl ?_)); (with_reducible show wpList _ _ _ _ _ _); simp only [nA])
  | ((with_reducible refine to_boxT 42 rfl ?_); refine Wl_box hS (fun _ => by rfl) _ rfl ?_; clear hS; intro b1 wW hS; simp only [nA])
  )
    go_returns
    exact ⟨by simp, hS.below⟩
  · cases hn : d.done
    · by_cases hl : 0 < d.left
      · have t0 : decide (0 < d.left) = true := decide_eq_true hl
        cases hf : d.forced
        · rw [show M.dWants d r = (r == d.p.high) from by simp [M.dWants, M.dOpen, hp, hn, hl, hf]]
          clear hl
          go_enter Try.func25, Try.ntmps25
          go_wp2_with (first
  | ((with_reducible first | refine to_load 3 rfl ?_ | refine to_load 4 rfl ?_ ); refine Wl_load1 hS (fun _ => by rfl) _ _ rfl (scT _ rfl) ?_; (repeat (first | refine Look.here (of_decide_eq_true rfl) rfl ?_)); (with_reducible show wpList _ _ _ _ _ _); simp only [nA])
  | ((with_reducible refine to_boxT 42 rfl ?_); refine Wl_box hS (fun _ => by rfl) _ rfl ?_; clear hS; intro b1 wW hS; simp only [nA])
  )
          go_returns
          exact ⟨by simp, hS.below⟩
        · rw [show M.dWants d r = true from by simp [M.dWants, M.dOpen, hp, hn, hl, hf]]
          clear hl
          go_enter Try.func25, Try.ntmps25
          go_wp2_with (first
  | ((with_reducible first | refine to_load 3 rfl ?_ | refine to_load 4 rfl ?_ ); refine Wl_load1 hS (fun _ => by rfl) _ _ rfl (scT _ rfl) ?_; (repeat (first | refine Look.here (of_decide_eq_true rfl) rfl ?_)); (with_reducible show wpList _ _ _ _ _ _); simp only [nA])
  | ((with_reducible refine to_boxT 42 rfl ?_); refine Wl_box hS (fun _ => by rfl) _ rfl ?_; clear hS; intro b1 wW hS; simp only [nA])
  )
          go_returns
          exact ⟨by simp, hS.below⟩
      · have t0 : decide (0 < d.left) = false := decide_eq_false hl
        rw [show M.dWants d r = false from by simp [M.dWants, M.dOpen, hp, hn, hl]]
        clear hl
        go_enter Try.func25, Try.ntmps25
        go_wp2_with (first
  | ((with_reducible first | refine to_load 3 rfl ?_ | refine to_load 4 rfl ?_ ); refine Wl_load1 hS (fun _ => by rfl) _ _ rfl (scT _ rfl) ?_; (repeat (first | refine Look.here (of_decide_eq_true rfl) rfl ?_)); (with_reducible show wpList _ _ _ _ _ _); simp only [nA])
  | ((with_reducible refine to_boxT 42 rfl ?_); refine Wl_box hS (fun _ => by rfl) _ rfl ?_; clear hS; intro b1 wW hS; simp only [nA])
  )
        go_returns
        exact ⟨by simp, hS.below⟩
    · rw [show M.dWants d r = false from by simp [M.dWants, M.dOpen, hp, hn]]
      go_enter Try.func25, Try.ntmps25
      go_wp2_with (first
  | ((with_reducible first | refine to_load 4 rfl ?_ ); refine Wl_load1 hS (fun _ => by rfl) _ _ rfl (scT _ rfl) ?_; (repeat (first | refine Look.here (of_decide_eq_true rfl) rfl ?_)); (with_reducible show wpList _ _ _ _ _ _); simp only [nA])
  | ((with_reducible refine to_boxT 42 rfl ?_); refine Wl_box hS (fun _ => by rfl) _ rfl ?_; clear hS; intro b1 wW hS; simp only [nA])
  )
      go_returns
      exact ⟨by simp, hS.below⟩
set_option maxHeartbeats 4000000 in
theorem rmholds_any (d : M.Dm) (A : Option Addr) (n c : Nat) (r : Bool) (w : World) : Calls Try.prog 27 #[.agg (d.c (.slice A n c)), .bool r] w fun e w' => e = .returned (.bool (M.dHolds d r)) ∧ Below w.heap.size w w' := by
  have hS := St.start w.heap.size 0 0 w
  obtain ⟨p, a, b, left, held, hold, forced, done, matched, ran, pending, ask⟩ := d
  cases held
  · by_cases h1 : p.mode = 1
    · have t1 : (p.mode == 1) = true := by rw [h1]; rfl
      cases hp : p.on
      · rw [show M.dHolds ⟨p, a, b, left, false, hold, forced, done, matched, ran, pending, ask⟩ r = false from by simp [M.dHolds, M.dOpen, h1, hp]]
        clear h1
        go_enter Try.func27, Try.ntmps27
        go_wp2_with (first
  | ((with_reducible first | refine to_load 3 rfl ?_ | refine to_load 4 rfl ?_ ); refine Wl_load1 hS (fun _ => by rfl) _ _ rfl (scT _ rfl) ?_; (repeat (first | refine Look.here (of_decide_eq_true rfl) rfl ?_)); (with_reducible show wpList _ _ _ _ _ _); simp only [nA])
  | ((with_reducible refine to_boxT 42 rfl ?_); refine Wl_box hS (fun _ => by rfl) _ rfl ?_; clear hS; intro b1 wW hS; simp only [nA])
  )
        go_returns
        exact ⟨by simp, hS.below⟩
      · cases done
        · rw [show M.dHolds ⟨p, a, b, left, false, hold, forced, false, matched, ran, pending, ask⟩ r = decide (0 < left) from by simp [M.dHolds, M.dOpen, h1, hp]]
          clear h1
          go_enter Try.func27, Try.ntmps27
          go_wp2_with (first
  | ((with_reducible first | refine to_load 3 rfl ?_ | refine to_load 4 rfl ?_ ); refine Wl_load1 hS (fun _ => by rfl) _ _ rfl (scT _ rfl) ?_; (repeat (first | refine Look.here (of_decide_eq_true rfl) rfl ?_)); (with_reducible show wpList _ _ _ _ _ _); simp only [nA])
  | ((with_reducible refine to_boxT 42 rfl ?_); refine Wl_box hS (fun _ => by rfl) _ rfl ?_; clear hS; intro b1 wW hS; simp only [nA])
  )
          go_returns
          exact ⟨by simp, hS.below⟩
        · rw [show M.dHolds ⟨p, a, b, left, false, hold, forced, true, matched, ran, pending, ask⟩ r = false from by simp [M.dHolds, M.dOpen, h1, hp]]
          clear h1
          go_enter Try.func27, Try.ntmps27
          go_wp2_with (first
  | ((with_reducible first | refine to_load 3 rfl ?_ | refine to_load 4 rfl ?_ ); refine Wl_load1 hS (fun _ => by rfl) _ _ rfl (scT _ rfl) ?_; (repeat (first | refine Look.here (of_decide_eq_true rfl) rfl ?_)); (with_reducible show wpList _ _ _ _ _ _); simp only [nA])
  | ((with_reducible refine to_boxT 42 rfl ?_); refine Wl_box hS (fun _ => by rfl) _ rfl ?_; clear hS; intro b1 wW hS; simp only [nA])
  )
          go_returns
          exact ⟨by simp, hS.below⟩
    · have t1 : (p.mode == 1) = false := by simpa using h1
      by_cases h2 : p.mode = 2
      · have t2 : (p.mode == 2) = true := by rw [h2]; rfl
        rw [show M.dHolds ⟨p, a, b, left, false, hold, forced, done, matched, ran, pending, ask⟩ r = M.dWants ⟨p, a, b, left, false, hold, forced, done, matched, ran, pending, ask⟩ r from by simp [M.dHolds, h1, h2]]
        have hw := fun W => rmwants_any ⟨p, a, b, left, false, hold, forced, done, matched, ran, pending, ask⟩ A n c r W
        generalize M.dWants ⟨p, a, b, left, false, hold, forced, done, matched, ran, pending, ask⟩ r = q at hw ⊢
        have HW := Lib.hid hw
        clear hw h1 h2
        go_enter Try.func27, Try.ntmps27
        go_wp2_with (first
  | ((with_reducible first | refine to_load 3 rfl ?_ | refine to_load 4 rfl ?_ ); refine Wl_load1 hS (fun _ => by rfl) _ _ rfl (scT _ rfl) ?_; (repeat (first | refine Look.here (of_decide_eq_true rfl) rfl ?_)); (with_reducible show wpList _ _ _ _ _ _); simp only [nA])
  | ((with_reducible refine to_boxT 42 rfl ?_); refine Wl_box hS (fun _ => by rfl) _ rfl ?_; clear hS; intro b1 wW hS; simp only [nA])
  | ((with_reducible refine to_load 42 rfl ?_); refine Wl_load hS (fun _ => by rfl) _ _ rfl _ Try.underlying42 rfl ?_; (repeat (first | (refine Row.here ⟨(rdmI.trans rfl), ?_⟩))); (with_reducible show wpList _ _ _ _ _ _); simp only [nA]))
        refine (HW.out _).mono ?_
        rintro e w1 ⟨rfl, hb⟩
        replace hS := hS.call hb
        clear hb
        go_wp2_with (first
  | ((with_reducible first | refine to_load 3 rfl ?_ ); refine Wl_load1 hS (fun _ => by rfl) _ _ rfl (scT _ rfl) ?_; (repeat (first | refine Look.here (of_decide_eq_true rfl) rfl ?_)); (with_reducible show wpList _ _ _ _ _ _); simp only [nA])
  )
        go_returns
        exact ⟨rfl, hS.below⟩
      · have t2 : (p.mode == 2) = false := by simpa using h2
        rw [show M.dHolds ⟨p, a, b, left, false, hold, forced, done, matched, ran, pending, ask⟩ r = false from by simp [M.dHolds, h1, h2]]
        clear h1 h2
        go_enter Try.func27, Try.ntmps27
        go_wp2_with (first
  | ((with_reducible first | refine to_load 3 rfl ?_ | refine to_load 4 rfl ?_ ); refine Wl_load1 hS (fun _ => by rfl) _ _ rfl (scT _ rfl) ?_; (repeat (first | refine Look.here (of_decide_eq_true rfl) rfl ?_)); (with_reducible show wpList _ _ _ _ _ _); simp only [nA])
  | ((with_reducible refine to_boxT 42 rfl ?_); refine Wl_box hS (fun _ => by rfl) _ rfl ?_; clear hS; intro b1 wW hS; simp only [nA])
  )
        go_returns
        exact ⟨by simp, hS.below⟩
  · rw [show M.dHolds ⟨p, a, b, left, true, hold, forced, done, matched, ran, pending, ask⟩ r = true from by simp [M.dHolds]]
    go_enter Try.func27, Try.ntmps27
    go_wp2_with (first
  | ((with_reducible first | refine to_load 4 rfl ?_ ); refine Wl_load1 hS (fun _ => by rfl) _ _ rfl (scT _ rfl) ?_; (repeat (first | refine Look.here (of_decide_eq_true rfl) rfl ?_)); (with_reducible show wpList _ _ _ _ _ _); simp only [nA])
  | ((with_reducible refine to_boxT 42 rfl ?_); refine Wl_box hS (fun _ => by rfl) _ rfl ?_; clear hS; intro b1 wW hS; simp only [nA])
  )
    go_returns
    exact ⟨by simp, hS.below⟩
end Go.Proofs.Ytkkkjdbcckaedaa
