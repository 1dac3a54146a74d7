/- The reference's DMA (charabancref22): Take. -/
import Derived.Test.YtkkkjdbcckaedaaRmE
import Derived.Test.YtkkkjdbcckaedaaRmE2
namespace Go.Proofs.Ytkkkjdbcckaedaa
open Go.RowKit
set_option linter.unusedVariables false
set_option linter.unusedSimpArgs false
set_option maxRecDepth 100000
set_option maxHeartbeats 8000000 in
theorem rmtakeF_any (d : M.Dm) (hd : d.ok) (hl : -9223372036854775807 ≤ d.left) (A : Option Addr) (n c : Nat) (b : Int) (h0 : 0 ≤ b) (hb1 : b ≤ 255) (w : World) : Calls Try.prog 24 #[.agg (({ d with held := false } : M.Dm).c (.slice A n c)), .int .u8 b] w fun e w' => e = .returned (.agg ((M.dTake { d with held := false } b).c (.slice A n c))) ∧ Below w.heap.size w w' := by
  have hS := St.start w.heap.size 0 0 w
  have hd1 : ({ d with held := false, hold := b, ran := true } : M.Dm).ok := ⟨hd.p, hd.a, hd.b, hd.left, ⟨h0, hb1⟩, hd.ask⟩
  have hm := fun W => rmmove_any { d with held := false, hold := b, ran := true } hd1 d.p.atob A n c W
  have hT0 : M.dTake { d with held := false } b = if (M.dMove { d with held := false, hold := b, ran := true } d.p.atob).p.cls = 2 then M.dFinish (M.dFound (M.dMove { d with held := false, hold := b, ran := true } d.p.atob) b) else { M.dFound (M.dMove { d with held := false, hold := b, ran := true } d.p.atob) b with held := true } := by
    cases h : d.p.atob <;> simp [M.dTake, M.dMove, h]
  have hok := M.dMove_ok hd1 d.p.atob
  have hlx : -9223372036854775807 ≤ (M.dMove { d with held := false, hold := b, ran := true } d.p.atob).left := by rw [M.dMove_same]; exact hl
  generalize M.dMove { d with held := false, hold := b, ran := true } d.p.atob = x at hm hT0 hok hlx
  replace hT0 := Lib.hid hT0
  have HM := Lib.hid hm
  have ha := fun W => rmalike_any b x.p.mat x.p.mask h0 hb1 hok.p.mat.1 hok.p.mat.2 hok.p.mask.1 hok.p.mask.2 W
  obtain ⟨al, hal⟩ : ∃ al, M.alike b x.p.mat x.p.mask = al := ⟨_, rfl⟩
  rw [hal] at ha
  have HA := Lib.hid ha
  replace hal := Lib.hid hal
  have hi := fun W => refis_any x.p.ctl 0 hok.p.ctl.1 hok.p.ctl.2 W
  obtain ⟨q, hq⟩ : ∃ q, M.is x.p.ctl 0 = q := ⟨_, rfl⟩
  rw [hq] at hi
  have HI := Lib.hid hi
  replace hq := Lib.hid hq
  clear hm ha hi hd1
  go_enter Try.func24, Try.ntmps24
  go_wp2_with (first
  | ((with_reducible first | refine to_load 4 rfl ?_ ); refine Wl_load1 hS (fun _ => by rfl) _ _ rfl (scT _ rfl) ?_; (repeat (first | refine Look.here (of_decide_eq_true rfl) rfl ?_ | refine Look.next ?_)); (with_reducible show wpList _ _ _ _ _ _); simp only [nA])
  | ((with_reducible first | refine to_store 4 rfl ?_ | refine to_store 5 rfl ?_); (first | refine Wl_store1 hS (fun _ => by rfl) _ _ (.int _ _) rfl rfl (scT _ rfl) rfl rfl ?_ | refine Wl_store1 hS (fun _ => by rfl) _ _ (.bool _) rfl rfl (scT _ rfl) rfl rfl ?_); (repeat (first | refine Turn1.here (of_decide_eq_true rfl) (of_decide_eq_true rfl) ?_ | refine Turn1.next ?_)); clear hS; intro wW hS; (try simp only [nA]); try simp only [Nat.sub_zero, Nat.add_zero, Nat.zero_add, Nat.reduceSub, Nat.add_sub_cancel_left, dm_ss] at hS)
  | ((with_reducible refine to_boxT 42 rfl ?_); refine Wl_box hS (fun _ => by rfl) _ rfl ?_; clear hS; intro b1 wW hS; simp only [nA])
  | ((with_reducible refine to_alloc 42 rfl ?_); refine Wl_alloc hS (fun _ => by rfl) _ rdmZ ?_; clear hS; intro b2 wW hS; simp only [nA])
  | ((with_reducible refine to_load 42 rfl ?_); refine Wl_load hS (fun _ => by rfl) _ _ rfl _ Try.underlying42 rfl ?_; (repeat (first | (refine Row.here ⟨(rdmI.trans rfl), ?_⟩) | refine Row.next ?_)); (with_reducible show wpList _ _ _ _ _ _); simp only [nA]))
  refine (HM.out _).mono ?_
  rintro e w1 ⟨rfl, hb⟩
  replace hS := hS.call hb
  clear hb
  clear HM
  go_wp2_with (first
  | ((with_reducible first | refine to_load 5 rfl ?_ ); refine Wl_load1 hS (fun _ => by rfl) _ _ rfl (scT _ rfl) ?_; (repeat (first | refine Look.here (of_decide_eq_true rfl) rfl ?_ | refine Look.next ?_)); (with_reducible show wpList _ _ _ _ _ _); simp only [nA])
  | ((with_reducible refine to_store 42 rfl ?_); refine Wl_store hS (fun _ => by rfl) _ _ _ rfl rfl (rdmI.trans rfl) (dm_one _ _ _ _) ?_; (repeat (first | refine Turn.here rfl ?_ | refine Turn.next ?_)); clear hS; intro wW hS; try simp only [nA]))
  refine (HA.out _).mono ?_
  rintro e w1 ⟨rfl, rfl⟩
  clear HA
  by_cases h1 : x.p.cls = 1
  · have t1 : (x.p.cls == 1) = true := by rw [h1]; rfl
    have t2 : (x.p.cls == 2) = false := by rw [h1]; rfl
    have hf : M.dFound x b = x := by simp [M.dFound, h1]
    have hT := Lib.hid (hT0.out.trans ((if_neg (by rw [h1]; decide)).trans (by rw [hf])))
    have t0 : (x.p.cls != 1) = false := by rw [h1]; rfl
    clear hf
    go_wp2_with (first
  | ((with_reducible first | refine to_load 3 rfl ?_ ); refine Wl_load1 hS (fun _ => by rfl) _ _ rfl (scT _ rfl) ?_; (repeat (first | refine Look.here (of_decide_eq_true rfl) rfl ?_ | refine Look.next ?_)); (with_reducible show wpList _ _ _ _ _ _); simp only [nA])
  | ((with_reducible first | refine to_store 4 rfl ?_ ); (first | refine Wl_store1 hS (fun _ => by rfl) _ _ (.bool _) rfl rfl (scT _ rfl) rfl rfl ?_); (repeat (first | refine Turn1.here (of_decide_eq_true rfl) (of_decide_eq_true rfl) ?_ | refine Turn1.next ?_)); clear hS; intro wW hS; (try simp only [nA]); try simp only [Nat.sub_zero, Nat.add_zero, Nat.zero_add, Nat.reduceSub, Nat.add_sub_cancel_left, dm_ss] at hS)
  | ((with_reducible refine to_load 42 rfl ?_); refine Wl_load hS (fun _ => by rfl) _ _ rfl _ Try.underlying42 rfl ?_; (repeat (first | (refine Row.here ⟨(rdmI.trans rfl), ?_⟩) | refine Row.next ?_)); (with_reducible show wpList _ _ _ _ _ _); simp only [nA])
  | ((with_reducible refine to_store 42 rfl ?_); refine Wl_store hS (fun _ => by rfl) _ _ _ rfl rfl (rdmI.trans rfl) (dm_one _ _ _ _) ?_; (repeat (first | refine Turn.here rfl ?_)); clear hS; intro wW hS; try simp only [nA]))
    refine ret_st hS rfl _ _ rfl rfl _ Try.underlying42 rfl ?_
    repeat (first | (refine Row.here ⟨rdmI.trans rfl, ?_⟩))
    exact ⟨by rw [hT.out], hS.below⟩
  · have t1 : (x.p.cls == 1) = false := by simpa using h1
    have t0 : (x.p.cls != 1) = true := by simpa using h1
    cases al
    · have hf : M.dFound x b = x := by simp [M.dFound, hal.out]
      by_cases h2 : x.p.cls = 2
      · have t2 : (x.p.cls == 2) = true := by rw [h2]; rfl
        have hT := Lib.hid (hT0.out.trans ((if_pos h2).trans (by rw [hf])))
        clear hf h2
        go_wp2_with (first
  | ((with_reducible first | refine to_load 3 rfl ?_ ); refine Wl_load1 hS (fun _ => by rfl) _ _ rfl (scT _ rfl) ?_; (repeat (first | refine Look.here (of_decide_eq_true rfl) rfl ?_ | refine Look.next ?_)); (with_reducible show wpList _ _ _ _ _ _); simp only [nA])
  | ((with_reducible refine to_load 42 rfl ?_); refine Wl_load hS (fun _ => by rfl) _ _ rfl _ Try.underlying42 rfl ?_; (repeat (first | (refine Row.here ⟨(rdmI.trans rfl), ?_⟩) | refine Row.next ?_)); (with_reducible show wpList _ _ _ _ _ _); simp only [nA]))
        refine (rmdone_any x ⟨hok.p, hok.a, hok.b, hok.left, hok.hold, hok.ask⟩ hlx A n c _).mono ?_
        rintro e w1 ⟨rfl, hb⟩
        replace hS := hS.call hb
        clear hb
        go_wp2_with (first
  | ((with_reducible refine to_store 42 rfl ?_); refine Wl_store hS (fun _ => by rfl) _ _ _ rfl rfl (rdmI.trans rfl) (dm_one _ _ _ _) ?_; (repeat (first | refine Turn.here rfl ?_)); clear hS; intro wW hS; try simp only [nA]))
        refine ret_st hS rfl _ _ rfl rfl _ Try.underlying42 rfl ?_
        repeat (first | (refine Row.here ⟨rdmI.trans rfl, ?_⟩))
        exact ⟨by rw [hT.out], hS.below⟩
      · have t2 : (x.p.cls == 2) = false := by simpa using h2
        have hT := Lib.hid (hT0.out.trans ((if_neg h2).trans (by rw [hf])))
        clear hf h2
        go_wp2_with (first
  | ((with_reducible first | refine to_load 3 rfl ?_ ); refine Wl_load1 hS (fun _ => by rfl) _ _ rfl (scT _ rfl) ?_; (repeat (first | refine Look.here (of_decide_eq_true rfl) rfl ?_ | refine Look.next ?_)); (with_reducible show wpList _ _ _ _ _ _); simp only [nA])
  | ((with_reducible first | refine to_store 4 rfl ?_ ); (first | refine Wl_store1 hS (fun _ => by rfl) _ _ (.bool _) rfl rfl (scT _ rfl) rfl rfl ?_); (repeat (first | refine Turn1.here (of_decide_eq_true rfl) (of_decide_eq_true rfl) ?_ | refine Turn1.next ?_)); clear hS; intro wW hS; (try simp only [nA]); try simp only [Nat.sub_zero, Nat.add_zero, Nat.zero_add, Nat.reduceSub, Nat.add_sub_cancel_left, dm_ss] at hS)
  | ((with_reducible refine to_load 42 rfl ?_); refine Wl_load hS (fun _ => by rfl) _ _ rfl _ Try.underlying42 rfl ?_; (repeat (first | (refine Row.here ⟨(rdmI.trans rfl), ?_⟩) | refine Row.next ?_)); (with_reducible show wpList _ _ _ _ _ _); simp only [nA])
  | ((with_reducible refine to_store 42 rfl ?_); refine Wl_store hS (fun _ => by rfl) _ _ _ rfl rfl (rdmI.trans rfl) (dm_one _ _ _ _) ?_; (repeat (first | refine Turn.here rfl ?_)); clear hS; intro wW hS; try simp only [nA]))
        refine ret_st hS rfl _ _ rfl rfl _ Try.underlying42 rfl ?_
        repeat (first | (refine Row.here ⟨rdmI.trans rfl, ?_⟩))
        exact ⟨by rw [hT.out], hS.below⟩
    · cases hdn : x.done
      · cases hpn : x.pending
        · cases hin : x.p.ints
          · have hf : M.dFound x b = { x with matched := true, done := x.p.stop, pending := false } := by simp [M.dFound, M.dSignal, h1, hal.out, hdn, hpn, hin]
            by_cases h2 : x.p.cls = 2
            · have t2 : (x.p.cls == 2) = true := by rw [h2]; rfl
              have hT := Lib.hid (hT0.out.trans ((if_pos h2).trans (by rw [hf])))
              clear hf h2
              go_wp2_with (first
  | ((with_reducible first | refine to_load 3 rfl ?_ | refine to_load 4 rfl ?_ | refine to_load 5 rfl ?_ ); refine Wl_load1 hS (fun _ => by rfl) _ _ rfl (scT _ rfl) ?_; (repeat (first | refine Look.here (of_decide_eq_true rfl) rfl ?_ | refine Look.next ?_)); (with_reducible show wpList _ _ _ _ _ _); simp only [nA])
  | ((with_reducible first | refine to_store 4 rfl ?_ ); (first | refine Wl_store1 hS (fun _ => by rfl) _ _ (.bool _) rfl rfl (scT _ rfl) rfl rfl ?_); (repeat (first | refine Turn1.here (of_decide_eq_true rfl) (of_decide_eq_true rfl) ?_ | refine Turn1.next ?_)); clear hS; intro wW hS; (try simp only [nA]); try simp only [Nat.sub_zero, Nat.add_zero, Nat.zero_add, Nat.reduceSub, Nat.add_sub_cancel_left, dm_ss] at hS)
  )
              refine (HI.out _).mono ?_
              rintro e w1 ⟨rfl, rfl⟩
              go_wp2_with (first
  | ((with_reducible first | refine to_load 3 rfl ?_ | refine to_load 4 rfl ?_ ); refine Wl_load1 hS (fun _ => by rfl) _ _ rfl (scT _ rfl) ?_; (repeat (first | refine Look.here (of_decide_eq_true rfl) rfl ?_ | refine Look.next ?_)); (with_reducible show wpList _ _ _ _ _ _); simp only [nA])
  | ((with_reducible first | refine to_store 4 rfl ?_ ); (first | refine Wl_store1 hS (fun _ => by rfl) _ _ (.bool _) rfl rfl (scT _ rfl) rfl rfl ?_); (repeat (first | refine Turn1.here (of_decide_eq_true rfl) (of_decide_eq_true rfl) ?_ | refine Turn1.next ?_)); clear hS; intro wW hS; (try simp only [nA]); try simp only [Nat.sub_zero, Nat.add_zero, Nat.zero_add, Nat.reduceSub, Nat.add_sub_cancel_left, dm_ss] at hS)
  | ((with_reducible refine to_load 42 rfl ?_); refine Wl_load hS (fun _ => by rfl) _ _ rfl _ Try.underlying42 rfl ?_; (repeat (first | (refine Row.here ⟨(rdmI.trans rfl), ?_⟩) | refine Row.next ?_)); (with_reducible show wpList _ _ _ _ _ _); simp only [nA]))
              refine (rmdone_any { x with matched := true, done := x.p.stop, pending := false } ⟨hok.p, hok.a, hok.b, hok.left, hok.hold, hok.ask⟩ hlx A n c _).mono ?_
              rintro e w1 ⟨rfl, hb⟩
              replace hS := hS.call hb
              clear hb
              go_wp2_with (first
  | ((with_reducible refine to_store 42 rfl ?_); refine Wl_store hS (fun _ => by rfl) _ _ _ rfl rfl (rdmI.trans rfl) (dm_one _ _ _ _) ?_; (repeat (first | refine Turn.here rfl ?_)); clear hS; intro wW hS; try simp only [nA]))
              refine ret_st hS rfl _ _ rfl rfl _ Try.underlying42 rfl ?_
              repeat (first | (refine Row.here ⟨rdmI.trans rfl, ?_⟩))
              exact ⟨by rw [hT.out], hS.below⟩
            · have t2 : (x.p.cls == 2) = false := by simpa using h2
              have hT := Lib.hid (hT0.out.trans ((if_neg h2).trans (by rw [hf])))
              clear hf h2
              go_wp2_with (first
  | ((with_reducible first | refine to_load 3 rfl ?_ | refine to_load 4 rfl ?_ | refine to_load 5 rfl ?_ ); refine Wl_load1 hS (fun _ => by rfl) _ _ rfl (scT _ rfl) ?_; (repeat (first | refine Look.here (of_decide_eq_true rfl) rfl ?_ | refine Look.next ?_)); (with_reducible show wpList _ _ _ _ _ _); simp only [nA])
  | ((with_reducible first | refine to_store 4 rfl ?_ ); (first | refine Wl_store1 hS (fun _ => by rfl) _ _ (.bool _) rfl rfl (scT _ rfl) rfl rfl ?_); (repeat (first | refine Turn1.here (of_decide_eq_true rfl) (of_decide_eq_true rfl) ?_ | refine Turn1.next ?_)); clear hS; intro wW hS; (try simp only [nA]); try simp only [Nat.sub_zero, Nat.add_zero, Nat.zero_add, Nat.reduceSub, Nat.add_sub_cancel_left, dm_ss] at hS)
  )
              refine (HI.out _).mono ?_
              rintro e w1 ⟨rfl, rfl⟩
              go_wp2_with (first
  | ((with_reducible first | refine to_load 3 rfl ?_ | refine to_load 4 rfl ?_ ); refine Wl_load1 hS (fun _ => by rfl) _ _ rfl (scT _ rfl) ?_; (repeat (first | refine Look.here (of_decide_eq_true rfl) rfl ?_ | refine Look.next ?_)); (with_reducible show wpList _ _ _ _ _ _); simp only [nA])
  | ((with_reducible first | refine to_store 4 rfl ?_ ); (first | refine Wl_store1 hS (fun _ => by rfl) _ _ (.bool _) rfl rfl (scT _ rfl) rfl rfl ?_); (repeat (first | refine Turn1.here (of_decide_eq_true rfl) (of_decide_eq_true rfl) ?_ | refine Turn1.next ?_)); clear hS; intro wW hS; (try simp only [nA]); try simp only [Nat.sub_zero, Nat.add_zero, Nat.zero_add, Nat.reduceSub, Nat.add_sub_cancel_left, dm_ss] at hS)
  | ((with_reducible refine to_load 42 rfl ?_); refine Wl_load hS (fun _ => by rfl) _ _ rfl _ Try.underlying42 rfl ?_; (repeat (first | (refine Row.here ⟨(rdmI.trans rfl), ?_⟩) | refine Row.next ?_)); (with_reducible show wpList _ _ _ _ _ _); simp only [nA])
  | ((with_reducible refine to_store 42 rfl ?_); refine Wl_store hS (fun _ => by rfl) _ _ _ rfl rfl (rdmI.trans rfl) (dm_one _ _ _ _) ?_; (repeat (first | refine Turn.here rfl ?_)); clear hS; intro wW hS; try simp only [nA]))
              refine ret_st hS rfl _ _ rfl rfl _ Try.underlying42 rfl ?_
              repeat (first | (refine Row.here ⟨rdmI.trans rfl, ?_⟩))
              exact ⟨by rw [hT.out], hS.below⟩
          · have hf : M.dFound x b = { x with matched := true, done := x.p.stop, pending := q } := by simp [M.dFound, M.dSignal, h1, hal.out, hdn, hpn, hin, hq.out]
            by_cases h2 : x.p.cls = 2
            · have t2 : (x.p.cls == 2) = true := by rw [h2]; rfl
              have hT := Lib.hid (hT0.out.trans ((if_pos h2).trans (by rw [hf])))
              clear hf h2
              go_wp2_with (first
  | ((with_reducible first | refine to_load 3 rfl ?_ | refine to_load 4 rfl ?_ | refine to_load 5 rfl ?_ ); refine Wl_load1 hS (fun _ => by rfl) _ _ rfl (scT _ rfl) ?_; (repeat (first | refine Look.here (of_decide_eq_true rfl) rfl ?_ | refine Look.next ?_)); (with_reducible show wpList _ _ _ _ _ _); simp only [nA])
  | ((with_reducible first | refine to_store 4 rfl ?_ ); (first | refine Wl_store1 hS (fun _ => by rfl) _ _ (.bool _) rfl rfl (scT _ rfl) rfl rfl ?_); (repeat (first | refine Turn1.here (of_decide_eq_true rfl) (of_decide_eq_true rfl) ?_ | refine Turn1.next ?_)); clear hS; intro wW hS; (try simp only [nA]); try simp only [Nat.sub_zero, Nat.add_zero, Nat.zero_add, Nat.reduceSub, Nat.add_sub_cancel_left, dm_ss] at hS)
  )
              refine (HI.out _).mono ?_
              rintro e w1 ⟨rfl, rfl⟩
              go_wp2_with (first
  | ((with_reducible first | refine to_load 3 rfl ?_ | refine to_load 4 rfl ?_ ); refine Wl_load1 hS (fun _ => by rfl) _ _ rfl (scT _ rfl) ?_; (repeat (first | refine Look.here (of_decide_eq_true rfl) rfl ?_ | refine Look.next ?_)); (with_reducible show wpList _ _ _ _ _ _); simp only [nA])
  | ((with_reducible first | refine to_store 4 rfl ?_ ); (first | refine Wl_store1 hS (fun _ => by rfl) _ _ (.bool _) rfl rfl (scT _ rfl) rfl rfl ?_); (repeat (first | refine Turn1.here (of_decide_eq_true rfl) (of_decide_eq_true rfl) ?_ | refine Turn1.next ?_)); clear hS; intro wW hS; (try simp only [nA]); try simp only [Nat.sub_zero, Nat.add_zero, Nat.zero_add, Nat.reduceSub, Nat.add_sub_cancel_left, dm_ss] at hS)
  | ((with_reducible refine to_load 42 rfl ?_); refine Wl_load hS (fun _ => by rfl) _ _ rfl _ Try.underlying42 rfl ?_; (repeat (first | (refine Row.here ⟨(rdmI.trans rfl), ?_⟩) | refine Row.next ?_)); (with_reducible show wpList _ _ _ _ _ _); simp only [nA]))
              refine (rmdone_any { x with matched := true, done := x.p.stop, pending := q } ⟨hok.p, hok.a, hok.b, hok.left, hok.hold, hok.ask⟩ hlx A n c _).mono ?_
              rintro e w1 ⟨rfl, hb⟩
              replace hS := hS.call hb
              clear hb
              go_wp2_with (first
  | ((with_reducible refine to_store 42 rfl ?_); refine Wl_store hS (fun _ => by rfl) _ _ _ rfl rfl (rdmI.trans rfl) (dm_one _ _ _ _) ?_; (repeat (first | refine Turn.here rfl ?_)); clear hS; intro wW hS; try simp only [nA]))
              refine ret_st hS rfl _ _ rfl rfl _ Try.underlying42 rfl ?_
              repeat (first | (refine Row.here ⟨rdmI.trans rfl, ?_⟩))
              exact ⟨by rw [hT.out], hS.below⟩
            · have t2 : (x.p.cls == 2) = false := by simpa using h2
              have hT := Lib.hid (hT0.out.trans ((if_neg h2).trans (by rw [hf])))
              clear hf h2
              go_wp2_with (first
  | ((with_reducible first | refine to_load 3 rfl ?_ | refine to_load 4 rfl ?_ | refine to_load 5 rfl ?_ ); refine Wl_load1 hS (fun _ => by rfl) _ _ rfl (scT _ rfl) ?_; (repeat (first | refine Look.here (of_decide_eq_true rfl) rfl ?_ | refine Look.next ?_)); (with_reducible show wpList _ _ _ _ _ _); simp only [nA])
  | ((with_reducible first | refine to_store 4 rfl ?_ ); (first | refine Wl_store1 hS (fun _ => by rfl) _ _ (.bool _) rfl rfl (scT _ rfl) rfl rfl ?_); (repeat (first | refine Turn1.here (of_decide_eq_true rfl) (of_decide_eq_true rfl) ?_ | refine Turn1.next ?_)); clear hS; intro wW hS; (try simp only [nA]); try simp only [Nat.sub_zero, Nat.add_zero, Nat.zero_add, Nat.reduceSub, Nat.add_sub_cancel_left, dm_ss] at hS)
  )
              refine (HI.out _).mono ?_
              rintro e w1 ⟨rfl, rfl⟩
              go_wp2_with (first
  | ((with_reducible first | refine to_load 3 rfl ?_ | refine to_load 4 rfl ?_ ); refine Wl_load1 hS (fun _ => by rfl) _ _ rfl (scT _ rfl) ?_; (repeat (first | refine Look.here (of_decide_eq_true rfl) rfl ?_ | refine Look.next ?_)); (with_reducible show wpList _ _ _ _ _ _); simp only [nA])
  | ((with_reducible first | refine to_store 4 rfl ?_ ); (first | refine Wl_store1 hS (fun _ => by rfl) _ _ (.bool _) rfl rfl (scT _ rfl) rfl rfl ?_); (repeat (first | refine Turn1.here (of_decide_eq_true rfl) (of_decide_eq_true rfl) ?_ | refine Turn1.next ?_)); clear hS; intro wW hS; (try simp only [nA]); try simp only [Nat.sub_zero, Nat.add_zero, Nat.zero_add, Nat.reduceSub, Nat.add_sub_cancel_left, dm_ss] at hS)
  | ((with_reducible refine to_load 42 rfl ?_); refine Wl_load hS (fun _ => by rfl) _ _ rfl _ Try.underlying42 rfl ?_; (repeat (first | (refine Row.here ⟨(rdmI.trans rfl), ?_⟩) | refine Row.next ?_)); (with_reducible show wpList _ _ _ _ _ _); simp only [nA])
  | ((with_reducible refine to_store 42 rfl ?_); refine Wl_store hS (fun _ => by rfl) _ _ _ rfl rfl (rdmI.trans rfl) (dm_one _ _ _ _) ?_; (repeat (first | refine Turn.here rfl ?_)); clear hS; intro wW hS; try simp only [nA]))
              refine ret_st hS rfl _ _ rfl rfl _ Try.underlying42 rfl ?_
              repeat (first | (refine Row.here ⟨rdmI.trans rfl, ?_⟩))
              exact ⟨by rw [hT.out], hS.below⟩
        · have hf : M.dFound x b = { x with matched := true, done := x.p.stop, pending := true } := by simp [M.dFound, M.dSignal, h1, hal.out, hdn, hpn]
          by_cases h2 : x.p.cls = 2
          · have t2 : (x.p.cls == 2) = true := by rw [h2]; rfl
            have hT := Lib.hid (hT0.out.trans ((if_pos h2).trans (by rw [hf])))
            clear hf h2
            go_wp2_with (first
  | ((with_reducible first | refine to_load 3 rfl ?_ | refine to_load 4 rfl ?_ | refine to_load 5 rfl ?_ ); refine Wl_load1 hS (fun _ => by rfl) _ _ rfl (scT _ rfl) ?_; (repeat (first | refine Look.here (of_decide_eq_true rfl) rfl ?_ | refine Look.next ?_)); (with_reducible show wpList _ _ _ _ _ _); simp only [nA])
  | ((with_reducible first | refine to_store 4 rfl ?_ ); (first | refine Wl_store1 hS (fun _ => by rfl) _ _ (.bool _) rfl rfl (scT _ rfl) rfl rfl ?_); (repeat (first | refine Turn1.here (of_decide_eq_true rfl) (of_decide_eq_true rfl) ?_ | refine Turn1.next ?_)); clear hS; intro wW hS; (try simp only [nA]); try simp only [Nat.sub_zero, Nat.add_zero, Nat.zero_add, Nat.reduceSub, Nat.add_sub_cancel_left, dm_ss] at hS)
  )
            refine (HI.out _).mono ?_
            rintro e w1 ⟨rfl, rfl⟩
            go_wp2_with (first
  | ((with_reducible first | refine to_load 3 rfl ?_ | refine to_load 4 rfl ?_ ); refine Wl_load1 hS (fun _ => by rfl) _ _ rfl (scT _ rfl) ?_; (repeat (first | refine Look.here (of_decide_eq_true rfl) rfl ?_ | refine Look.next ?_)); (with_reducible show wpList _ _ _ _ _ _); simp only [nA])
  | ((with_reducible first | refine to_store 4 rfl ?_ ); (first | refine Wl_store1 hS (fun _ => by rfl) _ _ (.bool _) rfl rfl (scT _ rfl) rfl rfl ?_); (repeat (first | refine Turn1.here (of_decide_eq_true rfl) (of_decide_eq_true rfl) ?_ | refine Turn1.next ?_)); clear hS; intro wW hS; (try simp only [nA]); try simp only [Nat.sub_zero, Nat.add_zero, Nat.zero_add, Nat.reduceSub, Nat.add_sub_cancel_left, dm_ss] at hS)
  | ((with_reducible refine to_load 42 rfl ?_); refine Wl_load hS (fun _ => by rfl) _ _ rfl _ Try.underlying42 rfl ?_; (repeat (first | (refine Row.here ⟨(rdmI.trans rfl), ?_⟩) | refine Row.next ?_)); (with_reducible show wpList _ _ _ _ _ _); simp only [nA]))
            refine (rmdone_any { x with matched := true, done := x.p.stop, pending := true } ⟨hok.p, hok.a, hok.b, hok.left, hok.hold, hok.ask⟩ hlx A n c _).mono ?_
            rintro e w1 ⟨rfl, hb⟩
            replace hS := hS.call hb
            clear hb
            go_wp2_with (first
  | ((with_reducible refine to_store 42 rfl ?_); refine Wl_store hS (fun _ => by rfl) _ _ _ rfl rfl (rdmI.trans rfl) (dm_one _ _ _ _) ?_; (repeat (first | refine Turn.here rfl ?_)); clear hS; intro wW hS; try simp only [nA]))
            refine ret_st hS rfl _ _ rfl rfl _ Try.underlying42 rfl ?_
            repeat (first | (refine Row.here ⟨rdmI.trans rfl, ?_⟩))
            exact ⟨by rw [hT.out], hS.below⟩
          · have t2 : (x.p.cls == 2) = false := by simpa using h2
            have hT := Lib.hid (hT0.out.trans ((if_neg h2).trans (by rw [hf])))
            clear hf h2
            go_wp2_with (first
  | ((with_reducible first | refine to_load 3 rfl ?_ | refine to_load 4 rfl ?_ | refine to_load 5 rfl ?_ ); refine Wl_load1 hS (fun _ => by rfl) _ _ rfl (scT _ rfl) ?_; (repeat (first | refine Look.here (of_decide_eq_true rfl) rfl ?_ | refine Look.next ?_)); (with_reducible show wpList _ _ _ _ _ _); simp only [nA])
  | ((with_reducible first | refine to_store 4 rfl ?_ ); (first | refine Wl_store1 hS (fun _ => by rfl) _ _ (.bool _) rfl rfl (scT _ rfl) rfl rfl ?_); (repeat (first | refine Turn1.here (of_decide_eq_true rfl) (of_decide_eq_true rfl) ?_ | refine Turn1.next ?_)); clear hS; intro wW hS; (try simp only [nA]); try simp only [Nat.sub_zero, Nat.add_zero, Nat.zero_add, Nat.reduceSub, Nat.add_sub_cancel_left, dm_ss] at hS)
  )
            refine (HI.out _).mono ?_
            rintro e w1 ⟨rfl, rfl⟩
            go_wp2_with (first
  | ((with_reducible first | refine to_load 3 rfl ?_ | refine to_load 4 rfl ?_ ); refine Wl_load1 hS (fun _ => by rfl) _ _ rfl (scT _ rfl) ?_; (repeat (first | refine Look.here (of_decide_eq_true rfl) rfl ?_ | refine Look.next ?_)); (with_reducible show wpList _ _ _ _ _ _); simp only [nA])
  | ((with_reducible first | refine to_store 4 rfl ?_ ); (first | refine Wl_store1 hS (fun _ => by rfl) _ _ (.bool _) rfl rfl (scT _ rfl) rfl rfl ?_); (repeat (first | refine Turn1.here (of_decide_eq_true rfl) (of_decide_eq_true rfl) ?_ | refine Turn1.next ?_)); clear hS; intro wW hS; (try simp only [nA]); try simp only [Nat.sub_zero, Nat.add_zero, Nat.zero_add, Nat.reduceSub, Nat.add_sub_cancel_left, dm_ss] at hS)
  | ((with_reducible refine to_load 42 rfl ?_); refine Wl_load hS (fun _ => by rfl) _ _ rfl _ Try.underlying42 rfl ?_; (repeat (first | (refine Row.here ⟨(rdmI.trans rfl), ?_⟩) | refine Row.next ?_)); (with_reducible show wpList _ _ _ _ _ _); simp only [nA])
  | ((with_reducible refine to_store 42 rfl ?_); refine Wl_store hS (fun _ => by rfl) _ _ _ rfl rfl (rdmI.trans rfl) (dm_one _ _ _ _) ?_; (repeat (first | refine Turn.here rfl ?_)); clear hS; intro wW hS; try simp only [nA]))
            refine ret_st hS rfl _ _ rfl rfl _ Try.underlying42 rfl ?_
            repeat (first | (refine Row.here ⟨rdmI.trans rfl, ?_⟩))
            exact ⟨by rw [hT.out], hS.below⟩
      · cases hpn : x.pending
        · cases hin : x.p.ints
          · have hf : M.dFound x b = { x with matched := true, done := true, pending := false } := by simp [M.dFound, M.dSignal, h1, hal.out, hdn, hpn, hin]
            by_cases h2 : x.p.cls = 2
            · have t2 : (x.p.cls == 2) = true := by rw [h2]; rfl
              have hT := Lib.hid (hT0.out.trans ((if_pos h2).trans (by rw [hf])))
              clear hf h2
              go_wp2_with (first
  | ((with_reducible first | refine to_load 3 rfl ?_ | refine to_load 4 rfl ?_ | refine to_load 5 rfl ?_ ); refine Wl_load1 hS (fun _ => by rfl) _ _ rfl (scT _ rfl) ?_; (repeat (first | refine Look.here (of_decide_eq_true rfl) rfl ?_ | refine Look.next ?_)); (with_reducible show wpList _ _ _ _ _ _); simp only [nA])
  | ((with_reducible first | refine to_store 4 rfl ?_ ); (first | refine Wl_store1 hS (fun _ => by rfl) _ _ (.bool _) rfl rfl (scT _ rfl) rfl rfl ?_); (repeat (first | refine Turn1.here (of_decide_eq_true rfl) (of_decide_eq_true rfl) ?_ | refine Turn1.next ?_)); clear hS; intro wW hS; (try simp only [nA]); try simp only [Nat.sub_zero, Nat.add_zero, Nat.zero_add, Nat.reduceSub, Nat.add_sub_cancel_left, dm_ss] at hS)
  )
              refine (HI.out _).mono ?_
              rintro e w1 ⟨rfl, rfl⟩
              go_wp2_with (first
  | ((with_reducible first | refine to_load 3 rfl ?_ | refine to_load 4 rfl ?_ ); refine Wl_load1 hS (fun _ => by rfl) _ _ rfl (scT _ rfl) ?_; (repeat (first | refine Look.here (of_decide_eq_true rfl) rfl ?_ | refine Look.next ?_)); (with_reducible show wpList _ _ _ _ _ _); simp only [nA])
  | ((with_reducible first | refine to_store 4 rfl ?_ ); (first | refine Wl_store1 hS (fun _ => by rfl) _ _ (.bool _) rfl rfl (scT _ rfl) rfl rfl ?_); (repeat (first | refine Turn1.here (of_decide_eq_true rfl) (of_decide_eq_true rfl) ?_ | refine Turn1.next ?_)); clear hS; intro wW hS; (try simp only [nA]); try simp only [Nat.sub_zero, Nat.add_zero, Nat.zero_add, Nat.reduceSub, Nat.add_sub_cancel_left, dm_ss] at hS)
  | ((with_reducible refine to_load 42 rfl ?_); refine Wl_load hS (fun _ => by rfl) _ _ rfl _ Try.underlying42 rfl ?_; (repeat (first | (refine Row.here ⟨(rdmI.trans rfl), ?_⟩) | refine Row.next ?_)); (with_reducible show wpList _ _ _ _ _ _); simp only [nA]))
              refine (rmdone_any { x with matched := true, done := true, pending := false } ⟨hok.p, hok.a, hok.b, hok.left, hok.hold, hok.ask⟩ hlx A n c _).mono ?_
              rintro e w1 ⟨rfl, hb⟩
              replace hS := hS.call hb
              clear hb
              go_wp2_with (first
  | ((with_reducible refine to_store 42 rfl ?_); refine Wl_store hS (fun _ => by rfl) _ _ _ rfl rfl (rdmI.trans rfl) (dm_one _ _ _ _) ?_; (repeat (first | refine Turn.here rfl ?_)); clear hS; intro wW hS; try simp only [nA]))
              refine ret_st hS rfl _ _ rfl rfl _ Try.underlying42 rfl ?_
              repeat (first | (refine Row.here ⟨rdmI.trans rfl, ?_⟩))
              exact ⟨by rw [hT.out], hS.below⟩
            · have t2 : (x.p.cls == 2) = false := by simpa using h2
              have hT := Lib.hid (hT0.out.trans ((if_neg h2).trans (by rw [hf])))
              clear hf h2
              go_wp2_with (first
  | ((with_reducible first | refine to_load 3 rfl ?_ | refine to_load 4 rfl ?_ | refine to_load 5 rfl ?_ ); refine Wl_load1 hS (fun _ => by rfl) _ _ rfl (scT _ rfl) ?_; (repeat (first | refine Look.here (of_decide_eq_true rfl) rfl ?_ | refine Look.next ?_)); (with_reducible show wpList _ _ _ _ _ _); simp only [nA])
  | ((with_reducible first | refine to_store 4 rfl ?_ ); (first | refine Wl_store1 hS (fun _ => by rfl) _ _ (.bool _) rfl rfl (scT _ rfl) rfl rfl ?_); (repeat (first | refine Turn1.here (of_decide_eq_true rfl) (of_decide_eq_true rfl) ?_ | refine Turn1.next ?_)); clear hS; intro wW hS; (try simp only [nA]); try simp only [Nat.sub_zero, Nat.add_zero, Nat.zero_add, Nat.reduceSub, Nat.add_sub_cancel_left, dm_ss] at hS)
  )
              refine (HI.out _).mono ?_
              rintro e w1 ⟨rfl, rfl⟩
              go_wp2_with (first
  | ((with_reducible first | refine to_load 3 rfl ?_ | refine to_load 4 rfl ?_ ); refine Wl_load1 hS (fun _ => by rfl) _ _ rfl (scT _ rfl) ?_; (repeat (first | refine Look.here (of_decide_eq_true rfl) rfl ?_ | refine Look.next ?_)); (with_reducible show wpList _ _ _ _ _ _); simp only [nA])
  | ((with_reducible first | refine to_store 4 rfl ?_ ); (first | refine Wl_store1 hS (fun _ => by rfl) _ _ (.bool _) rfl rfl (scT _ rfl) rfl rfl ?_); (repeat (first | refine Turn1.here (of_decide_eq_true rfl) (of_decide_eq_true rfl) ?_ | refine Turn1.next ?_)); clear hS; intro wW hS; (try simp only [nA]); try simp only [Nat.sub_zero, Nat.add_zero, Nat.zero_add, Nat.reduceSub, Nat.add_sub_cancel_left, dm_ss] at hS)
  | ((with_reducible refine to_load 42 rfl ?_); refine Wl_load hS (fun _ => by rfl) _ _ rfl _ Try.underlying42 rfl ?_; (repeat (first | (refine Row.here ⟨(rdmI.trans rfl), ?_⟩) | refine Row.next ?_)); (with_reducible show wpList _ _ _ _ _ _); simp only [nA])
  | ((with_reducible refine to_store 42 rfl ?_); refine Wl_store hS (fun _ => by rfl) _ _ _ rfl rfl (rdmI.trans rfl) (dm_one _ _ _ _) ?_; (repeat (first | refine Turn.here rfl ?_)); clear hS; intro wW hS; try simp only [nA]))
              refine ret_st hS rfl _ _ rfl rfl _ Try.underlying42 rfl ?_
              repeat (first | (refine Row.here ⟨rdmI.trans rfl, ?_⟩))
              exact ⟨by rw [hT.out], hS.below⟩
          · have hf : M.dFound x b = { x with matched := true, done := true, pending := q } := by simp [M.dFound, M.dSignal, h1, hal.out, hdn, hpn, hin, hq.out]
            by_cases h2 : x.p.cls = 2
            · have t2 : (x.p.cls == 2) = true := by rw [h2]; rfl
              have hT := Lib.hid (hT0.out.trans ((if_pos h2).trans (by rw [hf])))
              clear hf h2
              go_wp2_with (first
  | ((with_reducible first | refine to_load 3 rfl ?_ | refine to_load 4 rfl ?_ | refine to_load 5 rfl ?_ ); refine Wl_load1 hS (fun _ => by rfl) _ _ rfl (scT _ rfl) ?_; (repeat (first | refine Look.here (of_decide_eq_true rfl) rfl ?_ | refine Look.next ?_)); (with_reducible show wpList _ _ _ _ _ _); simp only [nA])
  | ((with_reducible first | refine to_store 4 rfl ?_ ); (first | refine Wl_store1 hS (fun _ => by rfl) _ _ (.bool _) rfl rfl (scT _ rfl) rfl rfl ?_); (repeat (first | refine Turn1.here (of_decide_eq_true rfl) (of_decide_eq_true rfl) ?_ | refine Turn1.next ?_)); clear hS; intro wW hS; (try simp only [nA]); try simp only [Nat.sub_zero, Nat.add_zero, Nat.zero_add, Nat.reduceSub, Nat.add_sub_cancel_left, dm_ss] at hS)
  )
              refine (HI.out _).mono ?_
              rintro e w1 ⟨rfl, rfl⟩
              go_wp2_with (first
  | ((with_reducible first | refine to_load 3 rfl ?_ | refine to_load 4 rfl ?_ ); refine Wl_load1 hS (fun _ => by rfl) _ _ rfl (scT _ rfl) ?_; (repeat (first | refine Look.here (of_decide_eq_true rfl) rfl ?_ | refine Look.next ?_)); (with_reducible show wpList _ _ _ _ _ _); simp only [nA])
  | ((with_reducible first | refine to_store 4 rfl ?_ ); (first | refine Wl_store1 hS (fun _ => by rfl) _ _ (.bool _) rfl rfl (scT _ rfl) rfl rfl ?_); (repeat (first | refine Turn1.here (of_decide_eq_true rfl) (of_decide_eq_true rfl) ?_ | refine Turn1.next ?_)); clear hS; intro wW hS; (try simp only [nA]); try simp only [Nat.sub_zero, Nat.add_zero, Nat.zero_add, Nat.reduceSub, Nat.add_sub_cancel_left, dm_ss] at hS)
  | ((with_reducible refine to_load 42 rfl ?_); refine Wl_load hS (fun _ => by rfl) _ _ rfl _ Try.underlying42 rfl ?_; (repeat (first | (refine Row.here ⟨(rdmI.trans rfl), ?_⟩) | refine Row.next ?_)); (with_reducible show wpList _ _ _ _ _ _); simp only [nA]))
              refine (rmdone_any { x with matched := true, done := true, pending := q } ⟨hok.p, hok.a, hok.b, hok.left, hok.hold, hok.ask⟩ hlx A n c _).mono ?_
              rintro e w1 ⟨rfl, hb⟩
              replace hS := hS.call hb
              clear hb
              go_wp2_with (first
  | ((with_reducible refine to_store 42 rfl ?_); refine Wl_store hS (fun _ => by rfl) _ _ _ rfl rfl (rdmI.trans rfl) (dm_one _ _ _ _) ?_; (repeat (first | refine Turn.here rfl ?_)); clear hS; intro wW hS; try simp only [nA]))
              refine ret_st hS rfl _ _ rfl rfl _ Try.underlying42 rfl ?_
              repeat (first | (refine Row.here ⟨rdmI.trans rfl, ?_⟩))
              exact ⟨by rw [hT.out], hS.below⟩
            · have t2 : (x.p.cls == 2) = false := by simpa using h2
              have hT := Lib.hid (hT0.out.trans ((if_neg h2).trans (by rw [hf])))
              clear hf h2
              go_wp2_with (first
  | ((with_reducible first | refine to_load 3 rfl ?_ | refine to_load 4 rfl ?_ | refine to_load 5 rfl ?_ ); refine Wl_load1 hS (fun _ => by rfl) _ _ rfl (scT _ rfl) ?_; (repeat (first | refine Look.here (of_decide_eq_true rfl) rfl ?_ | refine Look.next ?_)); (with_reducible show wpList _ _ _ _ _ _); simp only [nA])
  | ((with_reducible first | refine to_store 4 rfl ?_ ); (first | refine Wl_store1 hS (fun _ => by rfl) _ _ (.bool _) rfl rfl (scT _ rfl) rfl rfl ?_); (repeat (first | refine Turn1.here (of_decide_eq_true rfl) (of_decide_eq_true rfl) ?_ | refine Turn1.next ?_)); clear hS; intro wW hS; (try simp only [nA]); try simp only [Nat.sub_zero, Nat.add_zero, Nat.zero_add, Nat.reduceSub, Nat.add_sub_cancel_left, dm_ss] at hS)
  )
              refine (HI.out _).mono ?_
              rintro e w1 ⟨rfl, rfl⟩
              go_wp2_with (first
  | ((with_reducible first | refine to_load 3 rfl ?_ | refine to_load 4 rfl ?_ ); refine Wl_load1 hS (fun _ => by rfl) _ _ rfl (scT _ rfl) ?_; (repeat (first | refine Look.here (of_decide_eq_true rfl) rfl ?_ | refine Look.next ?_)); (with_reducible show wpList _ _ _ _ _ _); simp only [nA])
  | ((with_reducible first | refine to_store 4 rfl ?_ ); (first | refine Wl_store1 hS (fun _ => by rfl) _ _ (.bool _) rfl rfl (scT _ rfl) rfl rfl ?_); (repeat (first | refine Turn1.here (of_decide_eq_true rfl) (of_decide_eq_true rfl) ?_ | refine Turn1.next ?_)); clear hS; intro wW hS; (try simp only [nA]); try simp only [Nat.sub_zero, Nat.add_zero, Nat.zero_add, Nat.reduceSub, Nat.add_sub_cancel_left, dm_ss] at hS)
  | ((with_reducible refine to_load 42 rfl ?_); refine Wl_load hS (fun _ => by rfl) _ _ rfl _ Try.underlying42 rfl ?_; (repeat (first | (refine Row.here ⟨(rdmI.trans rfl), ?_⟩) | refine Row.next ?_)); (with_reducible show wpList _ _ _ _ _ _); simp only [nA])
  | ((with_reducible refine to_store 42 rfl ?_); refine Wl_store hS (fun _ => by rfl) _ _ _ rfl rfl (rdmI.trans rfl) (dm_one _ _ _ _) ?_; (repeat (first | refine Turn.here rfl ?_)); clear hS; intro wW hS; try simp only [nA]))
              refine ret_st hS rfl _ _ rfl rfl _ Try.underlying42 rfl ?_
              repeat (first | (refine Row.here ⟨rdmI.trans rfl, ?_⟩))
              exact ⟨by rw [hT.out], hS.below⟩
        · have hf : M.dFound x b = { x with matched := true, done := true, pending := true } := by simp [M.dFound, M.dSignal, h1, hal.out, hdn, hpn]
          by_cases h2 : x.p.cls = 2
          · have t2 : (x.p.cls == 2) = true := by rw [h2]; rfl
            have hT := Lib.hid (hT0.out.trans ((if_pos h2).trans (by rw [hf])))
            clear hf h2
            go_wp2_with (first
  | ((with_reducible first | refine to_load 3 rfl ?_ | refine to_load 4 rfl ?_ | refine to_load 5 rfl ?_ ); refine Wl_load1 hS (fun _ => by rfl) _ _ rfl (scT _ rfl) ?_; (repeat (first | refine Look.here (of_decide_eq_true rfl) rfl ?_ | refine Look.next ?_)); (with_reducible show wpList _ _ _ _ _ _); simp only [nA])
  | ((with_reducible first | refine to_store 4 rfl ?_ ); (first | refine Wl_store1 hS (fun _ => by rfl) _ _ (.bool _) rfl rfl (scT _ rfl) rfl rfl ?_); (repeat (first | refine Turn1.here (of_decide_eq_true rfl) (of_decide_eq_true rfl) ?_ | refine Turn1.next ?_)); clear hS; intro wW hS; (try simp only [nA]); try simp only [Nat.sub_zero, Nat.add_zero, Nat.zero_add, Nat.reduceSub, Nat.add_sub_cancel_left, dm_ss] at hS)
  )
            refine (HI.out _).mono ?_
            rintro e w1 ⟨rfl, rfl⟩
            go_wp2_with (first
  | ((with_reducible first | refine to_load 3 rfl ?_ | refine to_load 4 rfl ?_ ); refine Wl_load1 hS (fun _ => by rfl) _ _ rfl (scT _ rfl) ?_; (repeat (first | refine Look.here (of_decide_eq_true rfl) rfl ?_ | refine Look.next ?_)); (with_reducible show wpList _ _ _ _ _ _); simp only [nA])
  | ((with_reducible first | refine to_store 4 rfl ?_ ); (first | refine Wl_store1 hS (fun _ => by rfl) _ _ (.bool _) rfl rfl (scT _ rfl) rfl rfl ?_); (repeat (first | refine Turn1.here (of_decide_eq_true rfl) (of_decide_eq_true rfl) ?_ | refine Turn1.next ?_)); clear hS; intro wW hS; (try simp only [nA]); try simp only [Nat.sub_zero, Nat.add_zero, Nat.zero_add, Nat.reduceSub, Nat.add_sub_cancel_left, dm_ss] at hS)
  | ((with_reducible refine to_load 42 rfl ?_); refine Wl_load hS (fun _ => by rfl) _ _ rfl _ Try.underlying42 rfl ?_; (repeat (first | (refine Row.here ⟨(rdmI.trans rfl), ?_⟩) | refine Row.next ?_)); (with_reducible show wpList _ _ _ _ _ _); simp only [nA]))
            refine (rmdone_any { x with matched := true, done := true, pending := true } ⟨hok.p, hok.a, hok.b, hok.left, hok.hold, hok.ask⟩ hlx A n c _).mono ?_
            rintro e w1 ⟨rfl, hb⟩
            replace hS := hS.call hb
            clear hb
            go_wp2_with (first
  | ((with_reducible refine to_store 42 rfl ?_); refine Wl_store hS (fun _ => by rfl) _ _ _ rfl rfl (rdmI.trans rfl) (dm_one _ _ _ _) ?_; (repeat (first | refine Turn.here rfl ?_)); clear hS; intro wW hS; try simp only [nA]))
            refine ret_st hS rfl _ _ rfl rfl _ Try.underlying42 rfl ?_
            repeat (first | (refine Row.here ⟨rdmI.trans rfl, ?_⟩))
            exact ⟨by rw [hT.out], hS.below⟩
          · have t2 : (x.p.cls == 2) = false := by simpa using h2
            have hT := Lib.hid (hT0.out.trans ((if_neg h2).trans (by rw [hf])))
            clear hf h2
            go_wp2_with (first
  | ((with_reducible first | refine to_load 3 rfl ?_ | refine to_load 4 rfl ?_ | refine to_load 5 rfl ?_ ); refine Wl_load1 hS (fun _ => by rfl) _ _ rfl (scT _ rfl) ?_; (repeat (first | refine Look.here (of_decide_eq_true rfl) rfl ?_ | refine Look.next ?_)); (with_reducible show wpList _ _ _ _ _ _); simp only [nA])
  | ((with_reducible first | refine to_store 4 rfl ?_ ); (first | refine Wl_store1 hS (fun _ => by rfl) _ _ (.bool _) rfl rfl (scT _ rfl) rfl rfl ?_); (repeat (first | refine Turn1.here (of_decide_eq_true rfl) (of_decide_eq_true rfl) ?_ | refine Turn1.next ?_)); clear hS; intro wW hS; (try simp only [nA]); try simp only [Nat.sub_zero, Nat.add_zero, Nat.zero_add, Nat.reduceSub, Nat.add_sub_cancel_left, dm_ss] at hS)
  )
            refine (HI.out _).mono ?_
            rintro e w1 ⟨rfl, rfl⟩
            go_wp2_with (first
  | ((with_reducible first | refine to_load 3 rfl ?_ | refine to_load 4 rfl ?_ ); refine Wl_load1 hS (fun _ => by rfl) _ _ rfl (scT _ rfl) ?_; (repeat (first | refine Look.here (of_decide_eq_true rfl) rfl ?_ | refine Look.next ?_)); (with_reducible show wpList _ _ _ _ _ _); simp only [nA])
  | ((with_reducible first | refine to_store 4 rfl ?_ ); (first | refine Wl_store1 hS (fun _ => by rfl) _ _ (.bool _) rfl rfl (scT _ rfl) rfl rfl ?_); (repeat (first | refine Turn1.here (of_decide_eq_true rfl) (of_decide_eq_true rfl) ?_ | refine Turn1.next ?_)); clear hS; intro wW hS; (try simp only [nA]); try simp only [Nat.sub_zero, Nat.add_zero, Nat.zero_add, Nat.reduceSub, Nat.add_sub_cancel_left, dm_ss] at hS)
  | ((with_reducible refine to_load 42 rfl ?_); refine Wl_load hS (fun _ => by rfl) _ _ rfl _ Try.underlying42 rfl ?_; (repeat (first | (refine Row.here ⟨(rdmI.trans rfl), ?_⟩) | refine Row.next ?_)); (with_reducible show wpList _ _ _ _ _ _); simp only [nA])
  | ((with_reducible refine to_store 42 rfl ?_); refine Wl_store hS (fun _ => by rfl) _ _ _ rfl rfl (rdmI.trans rfl) (dm_one _ _ _ _) ?_; (repeat (first | refine Turn.here rfl ?_)); clear hS; intro wW hS; try simp only [nA]))
            refine ret_st hS rfl _ _ rfl rfl _ Try.underlying42 rfl ?_
            repeat (first | (refine Row.here ⟨rdmI.trans rfl, ?_⟩))
            exact ⟨by rw [hT.out], hS.below⟩
set_option maxHeartbeats 2000000 in
theorem rmtakeT_any (d : M.Dm) (hd : d.ok) (hl : -9223372036854775807 ≤ d.left) (A : Option Addr) (n c : Nat) (b : Int) (h0 : 0 ≤ b) (hb1 : b ≤ 255) (w : World) : Calls Try.prog 24 #[.agg (({ d with held := true } : M.Dm).c (.slice A n c)), .int .u8 b] w fun e w' => e = .returned (.agg ((M.dTake { d with held := true } b).c (.slice A n c))) ∧ Below w.heap.size w w' := by
  have hS := St.start w.heap.size 0 0 w
  have hd1 : ({ d with held := false } : M.Dm).ok := ⟨hd.p, hd.a, hd.b, hd.left, hd.hold, hd.ask⟩
  have hm := fun W => rmmove_any { d with held := false } hd1 (!d.p.atob) A n c W
  have hT : M.dTake { d with held := true } b = M.dFinish (M.dMove { d with held := false } (!d.p.atob)) := by
    cases h : d.p.atob <;> simp [M.dTake, M.dMove, h]
  have hok := M.dMove_ok hd1 (!d.p.atob)
  have hlx : -9223372036854775807 ≤ (M.dMove { d with held := false } (!d.p.atob)).left := by rw [M.dMove_same]; exact hl
  generalize M.dMove { d with held := false } (!d.p.atob) = x at hm hT hok hlx
  replace hT := Lib.hid hT
  have HM := Lib.hid hm
  clear hm hd1
  go_enter Try.func24, Try.ntmps24
  go_wp2_with (first
  | ((with_reducible first | refine to_load 4 rfl ?_ ); refine Wl_load1 hS (fun _ => by rfl) _ _ rfl (scT _ rfl) ?_; (repeat (first | refine Look.here (of_decide_eq_true rfl) rfl ?_ | refine Look.next ?_)); (with_reducible show wpList _ _ _ _ _ _); simp only [nA])
  | ((with_reducible first | refine to_store 4 rfl ?_ ); (first | refine Wl_store1 hS (fun _ => by rfl) _ _ (.bool _) rfl rfl (scT _ rfl) rfl rfl ?_); (repeat (first | refine Turn1.here (of_decide_eq_true rfl) (of_decide_eq_true rfl) ?_ | refine Turn1.next ?_)); clear hS; intro wW hS; (try simp only [nA]); try simp only [Nat.sub_zero, Nat.add_zero, Nat.zero_add, Nat.reduceSub, Nat.add_sub_cancel_left, dm_ss] at hS)
  | ((with_reducible refine to_boxT 42 rfl ?_); refine Wl_box hS (fun _ => by rfl) _ rfl ?_; clear hS; intro b1 wW hS; simp only [nA])
  | ((with_reducible refine to_alloc 42 rfl ?_); refine Wl_alloc hS (fun _ => by rfl) _ rdmZ ?_; clear hS; intro b2 wW hS; simp only [nA])
  | ((with_reducible refine to_load 42 rfl ?_); refine Wl_load hS (fun _ => by rfl) _ _ rfl _ Try.underlying42 rfl ?_; (repeat (first | (refine Row.here ⟨(rdmI.trans rfl), ?_⟩) | refine Row.next ?_)); (with_reducible show wpList _ _ _ _ _ _); simp only [nA]))
  refine (HM.out _).mono ?_
  rintro e w1 ⟨rfl, hb⟩
  replace hS := hS.call hb
  clear hb
  clear HM
  go_wp2_with (first
  | ((with_reducible first | refine to_load 3 rfl ?_ ); refine Wl_load1 hS (fun _ => by rfl) _ _ rfl (scT _ rfl) ?_; (repeat (first | refine Look.here (of_decide_eq_true rfl) rfl ?_)); (with_reducible show wpList _ _ _ _ _ _); simp only [nA])
  )
  refine (rmdone_any x hok hlx A n c _).mono ?_
  rintro e w1 ⟨rfl, hb⟩
  replace hS := hS.call hb
  clear hb
  go_wp2_with (first
  | ((with_reducible refine to_store 42 rfl ?_); refine Wl_store hS (fun _ => by rfl) _ _ _ rfl rfl (rdmI.trans rfl) (dm_one _ _ _ _) ?_; (repeat (first | refine Turn.here rfl ?_)); clear hS; intro wW hS; try simp only [nA]))
  refine ret_st hS rfl _ _ rfl rfl _ Try.underlying42 rfl ?_
  repeat (first | (refine Row.here ⟨rdmI.trans rfl, ?_⟩))
  exact ⟨by rw [hT.out], hS.below⟩
theorem rmtake_any (d : M.Dm) (hd : d.ok) (hl : -9223372036854775807 ≤ d.left) (A : Option Addr) (n c : Nat) (b : Int) (h0 : 0 ≤ b) (hb1 : b ≤ 255) (w : World) : Calls Try.prog 24 #[.agg (d.c (.slice A n c)), .int .u8 b] w fun e w' => e = .returned (.agg ((M.dTake d b).c (.slice A n c))) ∧ Below w.heap.size w w' := by
  cases h : d.held
  · have h1 := rmtakeF_any d hd hl A n c b h0 hb1 w
    rwa [show ({ d with held := false } : M.Dm) = d from by rw [← h]] at h1
  · have h1 := rmtakeT_any d hd hl A n c b h0 hb1 w
    rwa [show ({ d with held := true } : M.Dm) = d from by rw [← h]] at h1
end Go.Proofs.Ytkkkjdbcckaedaa
