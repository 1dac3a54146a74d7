/- open, Wants, Holds of a DMA (dma), each by its contract. -/
import Derived.Test.YtkkkjdbcckaedaaDmTake
namespace Go.Proofs.Ytkkkjdbcckaedaa
open Go.RowKit
set_option linter.unusedVariables false
set_option linter.unusedSimpArgs false
set_option maxRecDepth 100000
set_option maxHeartbeats 4000000 in
theorem dopen_any (d : M.Dm) (A : Option Addr) (n c : Nat) (w : World) : Calls Try.prog 34 #[.agg (d.c (.slice A n c))] w fun e w' => e = .returned (.bool (M.dOpen d)) ∧ Below w.heap.size w w' := by
  have hS := St.start w.heap.size 0 0 w
  cases hp : d.p.on
  · have e1 : M.dOpen d = false := by unfold M.dOpen; rw [hp]; rfl
    rw [e1]
    clear e1
    go_enter Try.func34, Try.ntmps34
    go_wp2_with (first
  | ((with_reducible first | refine to_load 4 rfl ?_ ); refine Wl_load1 hS (fun _ => by rfl) _ _ rfl (scT _ rfl) ?_; (repeat (first | refine Look.here (of_decide_eq_true rfl) rfl ?_)); (with_reducible show wpList _ _ _ _ _ _); simp only [nA])
  | ((with_reducible refine to_boxT 29 rfl ?_); refine Wl_box hS (fun _ => by rfl) _ rfl ?_; clear hS; intro b1 wW hS; simp only [nA]))
    go_returns
    exact ⟨rfl, hS.below⟩
  · cases hn : d.done
    · have e1 : M.dOpen d = decide (0 < d.left) := by unfold M.dOpen; rw [hp, hn]; rfl
      rw [e1]
      clear e1
      go_enter Try.func34, Try.ntmps34
      go_wp2_with (first
  | ((with_reducible first | refine to_load 3 rfl ?_ | refine to_load 4 rfl ?_ ); refine Wl_load1 hS (fun _ => by rfl) _ _ rfl (scT _ rfl) ?_; (repeat (first | refine Look.here (of_decide_eq_true rfl) rfl ?_)); (with_reducible show wpList _ _ _ _ _ _); simp only [nA])
  | ((with_reducible refine to_boxT 29 rfl ?_); refine Wl_box hS (fun _ => by rfl) _ rfl ?_; clear hS; intro b1 wW hS; simp only [nA]))
      go_returns
      exact ⟨by simp, hS.below⟩
    · have e1 : M.dOpen d = false := by unfold M.dOpen; rw [hp, hn]; rfl
      rw [e1]
      clear e1
      go_enter Try.func34, Try.ntmps34
      go_wp2_with (first
  | ((with_reducible first | refine to_load 4 rfl ?_ ); refine Wl_load1 hS (fun _ => by rfl) _ _ rfl (scT _ rfl) ?_; (repeat (first | refine Look.here (of_decide_eq_true rfl) rfl ?_)); (with_reducible show wpList _ _ _ _ _ _); simp only [nA])
  | ((with_reducible refine to_boxT 29 rfl ?_); refine Wl_box hS (fun _ => by rfl) _ rfl ?_; clear hS; intro b1 wW hS; simp only [nA]))
      go_returns
      exact ⟨rfl, hS.below⟩
set_option maxHeartbeats 4000000 in
theorem dwants_any (d : M.Dm) (A : Option Addr) (n c : Nat) (r : Bool) (w : World) : Calls Try.prog 14 #[.agg (d.c (.slice A n c)), .bool r] w fun e w' => e = .returned (.bool (M.dWants d r)) ∧ Below w.heap.size w w' := by
  have hS := St.start w.heap.size 0 0 w
  cases ho : M.dOpen d
  · have e1 : M.dWants d r = false := by unfold M.dWants; rw [ho]; rfl
    rw [e1]
    clear e1
    go_enter Try.func14, Try.ntmps14
    go_wp2_with (first
  | ((with_reducible refine to_boxT 29 rfl ?_); refine Wl_box hS (fun _ => by rfl) _ rfl ?_; clear hS; intro b1 wW hS; simp only [nA])
  | ((with_reducible refine to_load 29 rfl ?_); refine Wl_load hS (fun _ => by rfl) _ _ rfl _ Try.underlying29 rfl ?_; (repeat (first | (refine Row.here ⟨(dmI.trans rfl), ?_⟩))); (with_reducible show wpList _ _ _ _ _ _); simp only [nA]))
    refine (dopen_any d A n c _).mono ?_
    rintro e w1 ⟨rfl, hb⟩
    replace hS := hS.call hb
    clear hb
    go_wp2_with (first
  | ((with_reducible first | refine to_load 3 rfl ?_ ); refine Wl_load1 hS (fun _ => by rfl) _ _ rfl (scT _ rfl) ?_; (repeat (first | refine Look.here (of_decide_eq_true rfl) rfl ?_)); (with_reducible show wpList _ _ _ _ _ _); simp only [nA])
  )
    go_returns
    exact ⟨rfl, hS.below⟩
  · cases hf : d.forced
    · have e1 : M.dWants d r = (r == d.p.high) := by unfold M.dWants; rw [ho, hf]; simp
      rw [e1]
      clear e1
      go_enter Try.func14, Try.ntmps14
      go_wp2_with (first
  | ((with_reducible refine to_boxT 29 rfl ?_); refine Wl_box hS (fun _ => by rfl) _ rfl ?_; clear hS; intro b1 wW hS; simp only [nA])
  | ((with_reducible refine to_load 29 rfl ?_); refine Wl_load hS (fun _ => by rfl) _ _ rfl _ Try.underlying29 rfl ?_; (repeat (first | (refine Row.here ⟨(dmI.trans rfl), ?_⟩))); (with_reducible show wpList _ _ _ _ _ _); simp only [nA]))
      refine (dopen_any d A n c _).mono ?_
      rintro e w1 ⟨rfl, hb⟩
      replace hS := hS.call hb
      clear hb
      go_wp2_with (first
  | ((with_reducible first | refine to_load 4 rfl ?_ ); refine Wl_load1 hS (fun _ => by rfl) _ _ rfl (scT _ rfl) ?_; (repeat (first | refine Look.here (of_decide_eq_true rfl) rfl ?_)); (with_reducible show wpList _ _ _ _ _ _); simp only [nA])
  )
      go_returns
      exact ⟨rfl, hS.below⟩
    · have e1 : M.dWants d r = true := by unfold M.dWants; rw [ho, hf]; rfl
      rw [e1]
      clear e1
      go_enter Try.func14, Try.ntmps14
      go_wp2_with (first
  | ((with_reducible refine to_boxT 29 rfl ?_); refine Wl_box hS (fun _ => by rfl) _ rfl ?_; clear hS; intro b1 wW hS; simp only [nA])
  | ((with_reducible refine to_load 29 rfl ?_); refine Wl_load hS (fun _ => by rfl) _ _ rfl _ Try.underlying29 rfl ?_; (repeat (first | (refine Row.here ⟨(dmI.trans rfl), ?_⟩))); (with_reducible show wpList _ _ _ _ _ _); simp only [nA]))
      refine (dopen_any d A n c _).mono ?_
      rintro e w1 ⟨rfl, hb⟩
      replace hS := hS.call hb
      clear hb
      go_wp2_with (first
  | ((with_reducible first | refine to_load 4 rfl ?_ ); refine Wl_load1 hS (fun _ => by rfl) _ _ rfl (scT _ rfl) ?_; (repeat (first | refine Look.here (of_decide_eq_true rfl) rfl ?_)); (with_reducible show wpList _ _ _ _ _ _); simp only [nA])
  )
      go_returns
      exact ⟨rfl, hS.below⟩
set_option maxHeartbeats 4000000 in
theorem dholds_any (d : M.Dm) (A : Option Addr) (n c : Nat) (r : Bool) (w : World) : Calls Try.prog 26 #[.agg (d.c (.slice A n c)), .bool r] w fun e w' => e = .returned (.bool (M.dHolds d r)) ∧ Below w.heap.size w w' := by
  have hS := St.start w.heap.size 0 0 w
  have hh0 : d = { d with held := false } ∨ d = { d with held := true } := by
    cases h : d.held
    · exact .inl (by rw [← h])
    · exact .inr (by rw [← h])
  rcases hh0 with hh | hh
  · have hd0 : d.held = false := by rw [hh]
    by_cases h1 : d.p.mode = 1
    · have e1 : M.dHolds d r = M.dOpen d := by unfold M.dHolds; rw [hd0, if_pos h1]; rfl
      have t1 : (d.p.mode == 1) = true := by rw [h1]; rfl
      rw [e1]
      have e0 : d.c (.slice A n c) = ({ d with held := false } : M.Dm).c (.slice A n c) := by rw [← hh]
      rw [show (#[.agg (d.c (.slice A n c)), .bool r] : Array Value) = #[.agg (({ d with held := false } : M.Dm).c (.slice A n c)), .bool r] from by rw [← hh]]
      have c0 := fun W => dopen_any d A n c W
      have c1 := fun W => dwants_any d A n c r W
      rw [e0] at c0 c1
      clear e1 e0 hh hd0 h1
      go_enter Try.func26, Try.ntmps26
      go_wp2_with (first
  | ((with_reducible first | refine to_load 3 rfl ?_ | refine to_load 4 rfl ?_ ); refine Wl_load1 hS (fun _ => by rfl) _ _ rfl (scT _ rfl) ?_; (repeat (first | refine Look.here (of_decide_eq_true rfl) rfl ?_)); (with_reducible show wpList _ _ _ _ _ _); simp only [nA])
  | ((with_reducible refine to_boxT 29 rfl ?_); refine Wl_box hS (fun _ => by rfl) _ rfl ?_; clear hS; intro b1 wW hS; simp only [nA])
  | ((with_reducible refine to_load 29 rfl ?_); refine Wl_load hS (fun _ => by rfl) _ _ rfl _ Try.underlying29 rfl ?_; (repeat (first | (refine Row.here ⟨(dmI.trans rfl), ?_⟩))); (with_reducible show wpList _ _ _ _ _ _); simp only [nA]))
      refine (c0 _).mono ?_
      rintro e w1 ⟨rfl, hb⟩
      replace hS := hS.call hb
      clear hb
      go_wp2_with (first
  | ((with_reducible first | refine to_load 3 rfl ?_ ); refine Wl_load1 hS (fun _ => by rfl) _ _ rfl (scT _ rfl) ?_; (repeat (first | refine Look.here (of_decide_eq_true rfl) rfl ?_)); (with_reducible show wpList _ _ _ _ _ _); simp only [nA])
  )
      go_returns
      exact ⟨rfl, hS.below⟩
    · have t1 : (d.p.mode == 1) = false := by simpa using h1
      by_cases h2 : d.p.mode = 2
      · have e1 : M.dHolds d r = M.dWants d r := by unfold M.dHolds; rw [hd0, if_neg h1, if_pos h2]; rfl
        have t2 : (d.p.mode == 2) = true := by rw [h2]; rfl
        rw [e1]
        have e0 : d.c (.slice A n c) = ({ d with held := false } : M.Dm).c (.slice A n c) := by rw [← hh]
        rw [show (#[.agg (d.c (.slice A n c)), .bool r] : Array Value) = #[.agg (({ d with held := false } : M.Dm).c (.slice A n c)), .bool r] from by rw [← hh]]
        have c0 := fun W => dopen_any d A n c W
        have c1 := fun W => dwants_any d A n c r W
        rw [e0] at c0 c1
        clear e1 e0 hh hd0 h1 h2
        go_enter Try.func26, Try.ntmps26
        go_wp2_with (first
  | ((with_reducible first | refine to_load 3 rfl ?_ | refine to_load 4 rfl ?_ ); refine Wl_load1 hS (fun _ => by rfl) _ _ rfl (scT _ rfl) ?_; (repeat (first | refine Look.here (of_decide_eq_true rfl) rfl ?_)); (with_reducible show wpList _ _ _ _ _ _); simp only [nA])
  | ((with_reducible refine to_boxT 29 rfl ?_); refine Wl_box hS (fun _ => by rfl) _ rfl ?_; clear hS; intro b1 wW hS; simp only [nA])
  | ((with_reducible refine to_load 29 rfl ?_); refine Wl_load hS (fun _ => by rfl) _ _ rfl _ Try.underlying29 rfl ?_; (repeat (first | (refine Row.here ⟨(dmI.trans rfl), ?_⟩))); (with_reducible show wpList _ _ _ _ _ _); simp only [nA]))
        refine (c1 _).mono ?_
        rintro e w1 ⟨rfl, hb⟩
        replace hS := hS.call hb
        clear hb
        go_wp2_with (first
  | ((with_reducible first | refine to_load 3 rfl ?_ ); refine Wl_load1 hS (fun _ => by rfl) _ _ rfl (scT _ rfl) ?_; (repeat (first | refine Look.here (of_decide_eq_true rfl) rfl ?_)); (with_reducible show wpList _ _ _ _ _ _); simp only [nA])
  )
        go_returns
        exact ⟨rfl, hS.below⟩
      · have e1 : M.dHolds d r = false := by unfold M.dHolds; rw [hd0, if_neg h1, if_neg h2]; rfl
        have t2 : (d.p.mode == 2) = false := by simpa using h2
        rw [e1]
        have e0 : d.c (.slice A n c) = ({ d with held := false } : M.Dm).c (.slice A n c) := by rw [← hh]
        rw [show (#[.agg (d.c (.slice A n c)), .bool r] : Array Value) = #[.agg (({ d with held := false } : M.Dm).c (.slice A n c)), .bool r] from by rw [← hh]]
        have c0 := fun W => dopen_any d A n c W
        have c1 := fun W => dwants_any d A n c r W
        rw [e0] at c0 c1
        clear e1 e0 hh hd0 h1 h2
        go_enter Try.func26, Try.ntmps26
        go_wp2_with (first
  | ((with_reducible first | refine to_load 3 rfl ?_ | refine to_load 4 rfl ?_ ); refine Wl_load1 hS (fun _ => by rfl) _ _ rfl (scT _ rfl) ?_; (repeat (first | refine Look.here (of_decide_eq_true rfl) rfl ?_)); (with_reducible show wpList _ _ _ _ _ _); simp only [nA])
  | ((with_reducible refine to_boxT 29 rfl ?_); refine Wl_box hS (fun _ => by rfl) _ rfl ?_; clear hS; intro b1 wW hS; simp only [nA]))
        go_returns
        exact ⟨rfl, hS.below⟩
  · have e1 : M.dHolds d r = true := by rw [hh]; rfl
    rw [e1, show d.c (.slice A n c) = ({ d with held := true } : M.Dm).c (.slice A n c) from by rw [← hh]]
    clear e1 hh
    go_enter Try.func26, Try.ntmps26
    go_wp2_with (first
  | ((with_reducible first | refine to_load 4 rfl ?_ ); refine Wl_load1 hS (fun _ => by rfl) _ _ rfl (scT _ rfl) ?_; (repeat (first | refine Look.here (of_decide_eq_true rfl) rfl ?_)); (with_reducible show wpList _ _ _ _ _ _); simp only [nA])
  | ((with_reducible refine to_boxT 29 rfl ?_); refine Wl_box hS (fun _ => by rfl) _ rfl ?_; clear hS; intro b1 wW hS; simp only [nA]))
    go_returns
    exact ⟨rfl, hS.below⟩
end Go.Proofs.Ytkkkjdbcckaedaa
