/- The reference's DMA (charabancref22): Write. -/
import Derived.Test.YtkkkjdbcckaedaaRmA
import Derived.Test.YtkkkjdbcckaedaaRgRefW
import Derived.Test.YtkkkjdbcckaedaaDmWrite
namespace Go.Proofs.Ytkkkjdbcckaedaa
open Go.RowKit
set_option linter.unusedVariables false
set_option linter.unusedSimpArgs false
set_option maxRecDepth 100000
set_option maxHeartbeats 16000000 in
theorem rmwrite_core (d : M.Dm) (R : M.Rg) (C : Int) (x : M.Dm) (hx : Hid (x = { d with p := R })) (hok : x.ok) (A : Option Addr) (c : Nat) (b : Int) (h0 : 0 ≤ b) (h1 : b ≤ 255) (w : World)
    (HT : Hid (∀ W, Below w.heap.size w W → Calls Try.prog 55 #[.agg (d.p.c (.slice A d.p.want.length c)), .int .u8 b] W fun e w' => ∃ A' c', e = .returned (.tuple #[.agg (R.c (.slice A' R.want.length c')), .int .u8 C]) ∧ Ls W.heap.size w' (.slice A' R.want.length c') (ints .i64 R.want) ∧ Below W.heap.size W w')) :
    Calls Try.prog 20 #[.agg (d.c (.slice A d.p.want.length c)), .int .u8 b] w fun e w' => ∃ A' c', e = .returned (.agg ((M.dCmd x C).c (.slice A' (M.dCmd x C).p.want.length c'))) ∧ Ls w.heap.size w' (.slice A' (M.dCmd x C).p.want.length c') (ints .i64 (M.dCmd x C).p.want) ∧ Below w.heap.size w w' := by
  have hS := St.start w.heap.size 0 0 w
  go_enter Try.func20, Try.ntmps20
  go_wp2_with (first
  | ((with_reducible refine to_boxT 42 rfl ?_); refine Wl_box hS (fun _ => by rfl) _ rfl ?_; clear hS; intro b1 wW hS; simp only [nA])
  | ((with_reducible refine to_alloc 42 rfl ?_); refine Wl_alloc hS (fun _ => by rfl) _ rdmZ ?_; clear hS; intro b2 wW hS; simp only [nA])
  | ((with_reducible refine to_load 40 rfl ?_); refine Wl_load_sub hS (fun _ => by rfl) _ _ rfl _ Try.underlying40 rfl (d.p.c (.slice A d.p.want.length c)) (rrgI.trans rfl) ?_; (repeat (first | (refine Sub.here (of_decide_eq_true rfl) rfl ?_) | refine Sub.next ?_)); (with_reducible show wpList _ _ _ _ _ _); simp only [nA]))
  refine (HT.out _ hS.below).mono ?_
  rintro e w1 ⟨A1, c1, rfl, hl, hb⟩
  have hfA1 := fun e he => Nat.le_trans hS.size (hl.ent e he).1
  replace hS := hS.callN hb hl
  simp only [List.cons_append, List.nil_append] at hS
  have hshA1 := hl.shp
  clear hb hl HT
  by_cases k0 : C = 195
  · subst k0
    have hc := Lib.hid (show M.dCmd x 195 = M.dmNew from rfl)
    go_wp2_with (first
  | ((with_reducible refine to_alloc 40 rfl ?_); refine Wl_alloc hS (fun _ => by rfl) _ rrgZ ?_; clear hS; intro b3 wW hS; simp only [nA])
  | ((with_reducible refine to_load 40 rfl ?_); refine Wl_load hS (fun _ => by rfl) _ _ rfl _ Try.underlying40 rfl ?_; (repeat (first | (refine Row.here ⟨rrgI.trans rfl, ?_⟩))); (with_reducible show wpList _ _ _ _ _ _); simp only [nA])
  | ((with_reducible refine to_store 40 rfl ?_); refine Wl_store hS (fun _ => by rfl) _ _ _ rfl rfl (rrgI.trans rfl) (rg_one _ _ _ _) ?_; (repeat (first | refine Turn.here rfl ?_ | refine Turn.next ?_)); clear hS; intro wW hS; try simp only [nA])
  | ((with_reducible refine to_store 40 rfl ?_); refine Wl_store_sub hS (fun _ => by rfl) _ _ _ (({ d with p := R } : M.Dm).c (.slice A1 R.want.length c1)) rfl rfl (rrgI.trans rfl) (rg_one _ _ _ _) ?_; (repeat (first | refine SubTurn.here (of_decide_eq_true rfl) (of_decide_eq_true rfl) rfl ?_ | refine SubTurn.next ?_)); clear hS; intro wW hS; rw [← hx.out] at hS; try simp only [nA])
  )
    refine (rmnew_any _).mono ?_
    rintro e w1 ⟨rfl, hb⟩
    replace hS := hS.call hb
    clear hb
    go_wp2_with (first
  | ((with_reducible refine to_store 42 rfl ?_); refine Wl_store hS (fun _ => by rfl) _ _ _ rfl rfl (rdmI.trans rfl) (dm_one _ _ _ _) ?_; (repeat (first | refine Turn.here rfl ?_ | refine Turn.next ?_)); clear hS; intro wW hS; try simp only [nA]))
    refine ret_st hS rfl _ _ rfl rfl _ Try.underlying42 rfl ?_
    repeat (first | (refine Row.here ⟨rdmI.trans rfl, ?_⟩) | refine Row.next ?_)
    rw [hc.out]
    exact ⟨none, 0, rfl, Ls.nil _ _ _ _ (Nat.zero_le _), hS.below⟩
  have t0 : (C == 195) = false := by simpa using k0
  by_cases k1 : C = 207
  · subst k1
    clear t0
    have hc := Lib.hid (show M.dCmd x 207 = { M.dBlock x with done := false, forced := false } from rfl)
    go_wp2_with (first
  | ((with_reducible refine to_alloc 40 rfl ?_); refine Wl_alloc hS (fun _ => by rfl) _ rrgZ ?_; clear hS; intro b3 wW hS; simp only [nA])
  | ((with_reducible refine to_load 40 rfl ?_); refine Wl_load hS (fun _ => by rfl) _ _ rfl _ Try.underlying40 rfl ?_; (repeat (first | (refine Row.here ⟨rrgI.trans rfl, ?_⟩))); (with_reducible show wpList _ _ _ _ _ _); simp only [nA])
  | ((with_reducible refine to_store 40 rfl ?_); refine Wl_store hS (fun _ => by rfl) _ _ _ rfl rfl (rrgI.trans rfl) (rg_one _ _ _ _) ?_; (repeat (first | refine Turn.here rfl ?_ | refine Turn.next ?_)); clear hS; intro wW hS; try simp only [nA])
  | ((with_reducible refine to_store 40 rfl ?_); refine Wl_store_sub hS (fun _ => by rfl) _ _ _ (({ d with p := R } : M.Dm).c (.slice A1 R.want.length c1)) rfl rfl (rrgI.trans rfl) (rg_one _ _ _ _) ?_; (repeat (first | refine SubTurn.here (of_decide_eq_true rfl) (of_decide_eq_true rfl) rfl ?_ | refine SubTurn.next ?_)); clear hS; intro wW hS; rw [← hx.out] at hS; try simp only [nA])
  | ((with_reducible refine to_load 42 rfl ?_); refine Wl_load hS (fun _ => by rfl) _ _ rfl _ Try.underlying42 rfl ?_; (repeat (first | (refine Row.here ⟨(rdmI.trans rfl), ?_⟩) | refine Row.next ?_)); (with_reducible show wpList _ _ _ _ _ _); simp only [nA]))
    refine (rmblock_any x hok A1 _ c1 _).mono ?_
    rintro e w1 ⟨rfl, hb⟩
    replace hS := hS.call hb
    clear hb
    go_wp2_with (first
  | ((with_reducible first | refine to_store 4 rfl ?_ ); (first | refine Wl_store1 hS (fun _ => by rfl) _ _ (.bool _) rfl rfl (scT _ rfl) rfl rfl ?_); (repeat (first | refine Turn1.here (of_decide_eq_true rfl) (of_decide_eq_true rfl) ?_ | refine Turn1.next ?_)); clear hS; intro wW hS; (try simp only [nA]); try simp only [Nat.sub_zero, Nat.add_zero, Nat.zero_add, Nat.reduceSub, Nat.add_sub_cancel_left, dm_ss] at hS)
  | ((with_reducible refine to_load 42 rfl ?_); refine Wl_load hS (fun _ => by rfl) _ _ rfl _ Try.underlying42 rfl ?_; (repeat (first | (refine Row.here ⟨(rdmI.trans rfl), ?_⟩) | refine Row.next ?_)); (with_reducible show wpList _ _ _ _ _ _); simp only [nA])
  | ((with_reducible refine to_store 42 rfl ?_); refine Wl_store hS (fun _ => by rfl) _ _ _ rfl rfl (rdmI.trans rfl) (dm_one _ _ _ _) ?_; (repeat (first | refine Turn.here rfl ?_ | refine Turn.next ?_)); clear hS; intro wW hS; try simp only [nA]))
    refine ret_st hS rfl _ _ rfl rfl _ Try.underlying42 rfl ?_
    repeat (first | (refine Row.here ⟨rdmI.trans rfl, ?_⟩) | refine Row.next ?_)
    have hR : R = x.p := by rw [hx.out]
    clear hx
    subst hR
    rw [hc.out]
    exact ⟨A1, c1, rfl, hS.lsF hshA1 hfA1 (fun e he => by repeat (first | exact he | refine List.Mem.tail _ ?_)), hS.below⟩
  have t1 : (C == 207) = false := by simpa using k1
  by_cases k2 : C = 211
  · subst k2
    clear t0 t1
    have hc := Lib.hid (show M.dCmd x 211 = { x with left := M.dLen x, done := false } from rfl)
    go_wp2_with (first
  | ((with_reducible refine to_alloc 40 rfl ?_); refine Wl_alloc hS (fun _ => by rfl) _ rrgZ ?_; clear hS; intro b3 wW hS; simp only [nA])
  | ((with_reducible refine to_load 40 rfl ?_); refine Wl_load hS (fun _ => by rfl) _ _ rfl _ Try.underlying40 rfl ?_; (repeat (first | (refine Row.here ⟨rrgI.trans rfl, ?_⟩))); (with_reducible show wpList _ _ _ _ _ _); simp only [nA])
  | ((with_reducible refine to_store 40 rfl ?_); refine Wl_store hS (fun _ => by rfl) _ _ _ rfl rfl (rrgI.trans rfl) (rg_one _ _ _ _) ?_; (repeat (first | refine Turn.here rfl ?_ | refine Turn.next ?_)); clear hS; intro wW hS; try simp only [nA])
  | ((with_reducible refine to_store 40 rfl ?_); refine Wl_store_sub hS (fun _ => by rfl) _ _ _ (({ d with p := R } : M.Dm).c (.slice A1 R.want.length c1)) rfl rfl (rrgI.trans rfl) (rg_one _ _ _ _) ?_; (repeat (first | refine SubTurn.here (of_decide_eq_true rfl) (of_decide_eq_true rfl) rfl ?_ | refine SubTurn.next ?_)); clear hS; intro wW hS; rw [← hx.out] at hS; try simp only [nA])
  | ((with_reducible refine to_load 42 rfl ?_); refine Wl_load hS (fun _ => by rfl) _ _ rfl _ Try.underlying42 rfl ?_; (repeat (first | (refine Row.here ⟨(rdmI.trans rfl), ?_⟩) | refine Row.next ?_)); (with_reducible show wpList _ _ _ _ _ _); simp only [nA]))
    refine (rmlen_any x hok A1 _ c1 _).mono ?_
    rintro e w1 ⟨rfl, hb⟩
    replace hS := hS.call hb
    clear hb
    go_wp2_with (first
  | ((with_reducible first | refine to_store 3 rfl ?_ | refine to_store 4 rfl ?_ ); (first | refine Wl_store1 hS (fun _ => by rfl) _ _ (.int _ _) rfl rfl (scT _ rfl) rfl rfl ?_ | refine Wl_store1 hS (fun _ => by rfl) _ _ (.bool _) rfl rfl (scT _ rfl) rfl rfl ?_); (repeat (first | refine Turn1.here (of_decide_eq_true rfl) (of_decide_eq_true rfl) ?_ | refine Turn1.next ?_)); clear hS; intro wW hS; (try simp only [nA]); try simp only [Nat.sub_zero, Nat.add_zero, Nat.zero_add, Nat.reduceSub, Nat.add_sub_cancel_left, dm_ss] at hS)
  | ((with_reducible refine to_load 42 rfl ?_); refine Wl_load hS (fun _ => by rfl) _ _ rfl _ Try.underlying42 rfl ?_; (repeat (first | (refine Row.here ⟨(rdmI.trans rfl), ?_⟩) | refine Row.next ?_)); (with_reducible show wpList _ _ _ _ _ _); simp only [nA])
  | ((with_reducible refine to_store 42 rfl ?_); refine Wl_store hS (fun _ => by rfl) _ _ _ rfl rfl (rdmI.trans rfl) (dm_one _ _ _ _) ?_; (repeat (first | refine Turn.here rfl ?_ | refine Turn.next ?_)); clear hS; intro wW hS; try simp only [nA]))
    refine ret_st hS rfl _ _ rfl rfl _ Try.underlying42 rfl ?_
    repeat (first | (refine Row.here ⟨rdmI.trans rfl, ?_⟩) | refine Row.next ?_)
    have hR : R = x.p := by rw [hx.out]
    clear hx
    subst hR
    rw [hc.out]
    exact ⟨A1, c1, rfl, hS.lsF hshA1 hfA1 (fun e he => by repeat (first | exact he | refine List.Mem.tail _ ?_)), hS.below⟩
  have t2 : (C == 211) = false := by simpa using k2
  by_cases k3 : C = 179
  · subst k3
    clear t0 t1 t2
    have hc := Lib.hid (show M.dCmd x 179 = { x with forced := true } from rfl)
    go_wp2_with (first
  | ((with_reducible first | refine to_store 4 rfl ?_ ); (first | refine Wl_store1 hS (fun _ => by rfl) _ _ (.bool _) rfl rfl (scT _ rfl) rfl rfl ?_); (repeat (first | refine Turn1.here (of_decide_eq_true rfl) (of_decide_eq_true rfl) ?_ | refine Turn1.next ?_)); clear hS; intro wW hS; (try simp only [nA]); try simp only [Nat.sub_zero, Nat.add_zero, Nat.zero_add, Nat.reduceSub, Nat.add_sub_cancel_left, dm_ss] at hS)
  | ((with_reducible refine to_alloc 40 rfl ?_); refine Wl_alloc hS (fun _ => by rfl) _ rrgZ ?_; clear hS; intro b3 wW hS; simp only [nA])
  | ((with_reducible refine to_load 40 rfl ?_); refine Wl_load hS (fun _ => by rfl) _ _ rfl _ Try.underlying40 rfl ?_; (repeat (first | (refine Row.here ⟨rrgI.trans rfl, ?_⟩))); (with_reducible show wpList _ _ _ _ _ _); simp only [nA])
  | ((with_reducible refine to_store 40 rfl ?_); refine Wl_store hS (fun _ => by rfl) _ _ _ rfl rfl (rrgI.trans rfl) (rg_one _ _ _ _) ?_; (repeat (first | refine Turn.here rfl ?_ | refine Turn.next ?_)); clear hS; intro wW hS; try simp only [nA])
  | ((with_reducible refine to_store 40 rfl ?_); refine Wl_store_sub hS (fun _ => by rfl) _ _ _ (({ d with p := R } : M.Dm).c (.slice A1 R.want.length c1)) rfl rfl (rrgI.trans rfl) (rg_one _ _ _ _) ?_; (repeat (first | refine SubTurn.here (of_decide_eq_true rfl) (of_decide_eq_true rfl) rfl ?_ | refine SubTurn.next ?_)); clear hS; intro wW hS; rw [← hx.out] at hS; try simp only [nA])
  | ((with_reducible refine to_load 42 rfl ?_); refine Wl_load hS (fun _ => by rfl) _ _ rfl _ Try.underlying42 rfl ?_; (repeat (first | (refine Row.here ⟨(rdmI.trans rfl), ?_⟩) | refine Row.next ?_)); (with_reducible show wpList _ _ _ _ _ _); simp only [nA])
  | ((with_reducible refine to_store 42 rfl ?_); refine Wl_store hS (fun _ => by rfl) _ _ _ rfl rfl (rdmI.trans rfl) (dm_one _ _ _ _) ?_; (repeat (first | refine Turn.here rfl ?_ | refine Turn.next ?_)); clear hS; intro wW hS; try simp only [nA]))
    refine ret_st hS rfl _ _ rfl rfl _ Try.underlying42 rfl ?_
    repeat (first | (refine Row.here ⟨rdmI.trans rfl, ?_⟩) | refine Row.next ?_)
    have hR : R = x.p := by rw [hx.out]
    clear hx
    subst hR
    rw [hc.out]
    exact ⟨A1, c1, rfl, hS.lsF hshA1 hfA1 (fun e he => by repeat (first | exact he | refine List.Mem.tail _ ?_)), hS.below⟩
  have t3 : (C == 179) = false := by simpa using k3
  by_cases k4 : C = 131
  · subst k4
    clear t0 t1 t2 t3
    have hc := Lib.hid (show M.dCmd x 131 = { x with forced := false } from rfl)
    go_wp2_with (first
  | ((with_reducible first | refine to_store 4 rfl ?_ ); (first | refine Wl_store1 hS (fun _ => by rfl) _ _ (.bool _) rfl rfl (scT _ rfl) rfl rfl ?_); (repeat (first | refine Turn1.here (of_decide_eq_true rfl) (of_decide_eq_true rfl) ?_ | refine Turn1.next ?_)); clear hS; intro wW hS; (try simp only [nA]); try simp only [Nat.sub_zero, Nat.add_zero, Nat.zero_add, Nat.reduceSub, Nat.add_sub_cancel_left, dm_ss] at hS)
  | ((with_reducible refine to_alloc 40 rfl ?_); refine Wl_alloc hS (fun _ => by rfl) _ rrgZ ?_; clear hS; intro b3 wW hS; simp only [nA])
  | ((with_reducible refine to_load 40 rfl ?_); refine Wl_load hS (fun _ => by rfl) _ _ rfl _ Try.underlying40 rfl ?_; (repeat (first | (refine Row.here ⟨rrgI.trans rfl, ?_⟩))); (with_reducible show wpList _ _ _ _ _ _); simp only [nA])
  | ((with_reducible refine to_store 40 rfl ?_); refine Wl_store hS (fun _ => by rfl) _ _ _ rfl rfl (rrgI.trans rfl) (rg_one _ _ _ _) ?_; (repeat (first | refine Turn.here rfl ?_ | refine Turn.next ?_)); clear hS; intro wW hS; try simp only [nA])
  | ((with_reducible refine to_store 40 rfl ?_); refine Wl_store_sub hS (fun _ => by rfl) _ _ _ (({ d with p := R } : M.Dm).c (.slice A1 R.want.length c1)) rfl rfl (rrgI.trans rfl) (rg_one _ _ _ _) ?_; (repeat (first | refine SubTurn.here (of_decide_eq_true rfl) (of_decide_eq_true rfl) rfl ?_ | refine SubTurn.next ?_)); clear hS; intro wW hS; rw [← hx.out] at hS; try simp only [nA])
  | ((with_reducible refine to_load 42 rfl ?_); refine Wl_load hS (fun _ => by rfl) _ _ rfl _ Try.underlying42 rfl ?_; (repeat (first | (refine Row.here ⟨(rdmI.trans rfl), ?_⟩) | refine Row.next ?_)); (with_reducible show wpList _ _ _ _ _ _); simp only [nA])
  | ((with_reducible refine to_store 42 rfl ?_); refine Wl_store hS (fun _ => by rfl) _ _ _ rfl rfl (rdmI.trans rfl) (dm_one _ _ _ _) ?_; (repeat (first | refine Turn.here rfl ?_ | refine Turn.next ?_)); clear hS; intro wW hS; try simp only [nA]))
    refine ret_st hS rfl _ _ rfl rfl _ Try.underlying42 rfl ?_
    repeat (first | (refine Row.here ⟨rdmI.trans rfl, ?_⟩) | refine Row.next ?_)
    have hR : R = x.p := by rw [hx.out]
    clear hx
    subst hR
    rw [hc.out]
    exact ⟨A1, c1, rfl, hS.lsF hshA1 hfA1 (fun e he => by repeat (first | exact he | refine List.Mem.tail _ ?_)), hS.below⟩
  have t4 : (C == 131) = false := by simpa using k4
  by_cases k5 : C = 139
  · subst k5
    clear t0 t1 t2 t3 t4
    have hc := Lib.hid (show M.dCmd x 139 = { x with matched := false, done := false, pending := false } from rfl)
    go_wp2_with (first
  | ((with_reducible first | refine to_store 4 rfl ?_ ); (first | refine Wl_store1 hS (fun _ => by rfl) _ _ (.bool _) rfl rfl (scT _ rfl) rfl rfl ?_); (repeat (first | refine Turn1.here (of_decide_eq_true rfl) (of_decide_eq_true rfl) ?_ | refine Turn1.next ?_)); clear hS; intro wW hS; (try simp only [nA]); try simp only [Nat.sub_zero, Nat.add_zero, Nat.zero_add, Nat.reduceSub, Nat.add_sub_cancel_left, dm_ss] at hS)
  | ((with_reducible refine to_alloc 40 rfl ?_); refine Wl_alloc hS (fun _ => by rfl) _ rrgZ ?_; clear hS; intro b3 wW hS; simp only [nA])
  | ((with_reducible refine to_load 40 rfl ?_); refine Wl_load hS (fun _ => by rfl) _ _ rfl _ Try.underlying40 rfl ?_; (repeat (first | (refine Row.here ⟨rrgI.trans rfl, ?_⟩))); (with_reducible show wpList _ _ _ _ _ _); simp only [nA])
  | ((with_reducible refine to_store 40 rfl ?_); refine Wl_store hS (fun _ => by rfl) _ _ _ rfl rfl (rrgI.trans rfl) (rg_one _ _ _ _) ?_; (repeat (first | refine Turn.here rfl ?_ | refine Turn.next ?_)); clear hS; intro wW hS; try simp only [nA])
  | ((with_reducible refine to_store 40 rfl ?_); refine Wl_store_sub hS (fun _ => by rfl) _ _ _ (({ d with p := R } : M.Dm).c (.slice A1 R.want.length c1)) rfl rfl (rrgI.trans rfl) (rg_one _ _ _ _) ?_; (repeat (first | refine SubTurn.here (of_decide_eq_true rfl) (of_decide_eq_true rfl) rfl ?_ | refine SubTurn.next ?_)); clear hS; intro wW hS; rw [← hx.out] at hS; try simp only [nA])
  | ((with_reducible refine to_load 42 rfl ?_); refine Wl_load hS (fun _ => by rfl) _ _ rfl _ Try.underlying42 rfl ?_; (repeat (first | (refine Row.here ⟨(rdmI.trans rfl), ?_⟩) | refine Row.next ?_)); (with_reducible show wpList _ _ _ _ _ _); simp only [nA])
  | ((with_reducible refine to_store 42 rfl ?_); refine Wl_store hS (fun _ => by rfl) _ _ _ rfl rfl (rdmI.trans rfl) (dm_one _ _ _ _) ?_; (repeat (first | refine Turn.here rfl ?_ | refine Turn.next ?_)); clear hS; intro wW hS; try simp only [nA]))
    refine ret_st hS rfl _ _ rfl rfl _ Try.underlying42 rfl ?_
    repeat (first | (refine Row.here ⟨rdmI.trans rfl, ?_⟩) | refine Row.next ?_)
    have hR : R = x.p := by rw [hx.out]
    clear hx
    subst hR
    rw [hc.out]
    exact ⟨A1, c1, rfl, hS.lsF hshA1 hfA1 (fun e he => by repeat (first | exact he | refine List.Mem.tail _ ?_)), hS.below⟩
  have t5 : (C == 139) = false := by simpa using k5
  by_cases k6 : C = 163
  · subst k6
    clear t0 t1 t2 t3 t4 t5
    have hc := Lib.hid (show M.dCmd x 163 = { x with pending := false, forced := false } from rfl)
    go_wp2_with (first
  | ((with_reducible first | refine to_store 4 rfl ?_ ); (first | refine Wl_store1 hS (fun _ => by rfl) _ _ (.bool _) rfl rfl (scT _ rfl) rfl rfl ?_); (repeat (first | refine Turn1.here (of_decide_eq_true rfl) (of_decide_eq_true rfl) ?_ | refine Turn1.next ?_)); clear hS; intro wW hS; (try simp only [nA]); try simp only [Nat.sub_zero, Nat.add_zero, Nat.zero_add, Nat.reduceSub, Nat.add_sub_cancel_left, dm_ss] at hS)
  | ((with_reducible refine to_alloc 40 rfl ?_); refine Wl_alloc hS (fun _ => by rfl) _ rrgZ ?_; clear hS; intro b3 wW hS; simp only [nA])
  | ((with_reducible refine to_load 40 rfl ?_); refine Wl_load hS (fun _ => by rfl) _ _ rfl _ Try.underlying40 rfl ?_; (repeat (first | (refine Row.here ⟨rrgI.trans rfl, ?_⟩))); (with_reducible show wpList _ _ _ _ _ _); simp only [nA])
  | ((with_reducible refine to_store 40 rfl ?_); refine Wl_store hS (fun _ => by rfl) _ _ _ rfl rfl (rrgI.trans rfl) (rg_one _ _ _ _) ?_; (repeat (first | refine Turn.here rfl ?_ | refine Turn.next ?_)); clear hS; intro wW hS; try simp only [nA])
  | ((with_reducible refine to_store 40 rfl ?_); refine Wl_store_sub hS (fun _ => by rfl) _ _ _ (({ d with p := R } : M.Dm).c (.slice A1 R.want.length c1)) rfl rfl (rrgI.trans rfl) (rg_one _ _ _ _) ?_; (repeat (first | refine SubTurn.here (of_decide_eq_true rfl) (of_decide_eq_true rfl) rfl ?_ | refine SubTurn.next ?_)); clear hS; intro wW hS; rw [← hx.out] at hS; try simp only [nA])
  | ((with_reducible refine to_load 42 rfl ?_); refine Wl_load hS (fun _ => by rfl) _ _ rfl _ Try.underlying42 rfl ?_; (repeat (first | (refine Row.here ⟨(rdmI.trans rfl), ?_⟩) | refine Row.next ?_)); (with_reducible show wpList _ _ _ _ _ _); simp only [nA])
  | ((with_reducible refine to_store 42 rfl ?_); refine Wl_store hS (fun _ => by rfl) _ _ _ rfl rfl (rdmI.trans rfl) (dm_one _ _ _ _) ?_; (repeat (first | refine Turn.here rfl ?_ | refine Turn.next ?_)); clear hS; intro wW hS; try simp only [nA]))
    refine ret_st hS rfl _ _ rfl rfl _ Try.underlying42 rfl ?_
    repeat (first | (refine Row.here ⟨rdmI.trans rfl, ?_⟩) | refine Row.next ?_)
    have hR : R = x.p := by rw [hx.out]
    clear hx
    subst hR
    rw [hc.out]
    exact ⟨A1, c1, rfl, hS.lsF hshA1 hfA1 (fun e he => by repeat (first | exact he | refine List.Mem.tail _ ?_)), hS.below⟩
  have t6 : (C == 163) = false := by simpa using k6
  by_cases k7 : C = 167
  · subst k7
    clear t0 t1 t2 t3 t4 t5 t6
    have hc := Lib.hid (show M.dCmd x 167 = { x with ask := x.p.rmask } from rfl)
    go_wp2_with (first
  | ((with_reducible first | refine to_load 5 rfl ?_ ); refine Wl_load1 hS (fun _ => by rfl) _ _ rfl (scT _ rfl) ?_; (repeat (first | refine Look.here (of_decide_eq_true rfl) rfl ?_ | refine Look.next ?_)); (with_reducible show wpList _ _ _ _ _ _); simp only [nA])
  | ((with_reducible first | refine to_store 5 rfl ?_); (first | refine Wl_store1 hS (fun _ => by rfl) _ _ (.int _ _) rfl rfl (scT _ rfl) rfl rfl ?_); (repeat (first | refine Turn1.here (of_decide_eq_true rfl) (of_decide_eq_true rfl) ?_ | refine Turn1.next ?_)); clear hS; intro wW hS; (try simp only [nA]); try simp only [Nat.sub_zero, Nat.add_zero, Nat.zero_add, Nat.reduceSub, Nat.add_sub_cancel_left, dm_ss] at hS)
  | ((with_reducible refine to_alloc 40 rfl ?_); refine Wl_alloc hS (fun _ => by rfl) _ rrgZ ?_; clear hS; intro b3 wW hS; simp only [nA])
  | ((with_reducible refine to_load 40 rfl ?_); refine Wl_load hS (fun _ => by rfl) _ _ rfl _ Try.underlying40 rfl ?_; (repeat (first | (refine Row.here ⟨rrgI.trans rfl, ?_⟩))); (with_reducible show wpList _ _ _ _ _ _); simp only [nA])
  | ((with_reducible refine to_store 40 rfl ?_); refine Wl_store hS (fun _ => by rfl) _ _ _ rfl rfl (rrgI.trans rfl) (rg_one _ _ _ _) ?_; (repeat (first | refine Turn.here rfl ?_ | refine Turn.next ?_)); clear hS; intro wW hS; try simp only [nA])
  | ((with_reducible refine to_store 40 rfl ?_); refine Wl_store_sub hS (fun _ => by rfl) _ _ _ (({ d with p := R } : M.Dm).c (.slice A1 R.want.length c1)) rfl rfl (rrgI.trans rfl) (rg_one _ _ _ _) ?_; (repeat (first | refine SubTurn.here (of_decide_eq_true rfl) (of_decide_eq_true rfl) rfl ?_ | refine SubTurn.next ?_)); clear hS; intro wW hS; rw [← hx.out] at hS; try simp only [nA])
  | ((with_reducible refine to_load 42 rfl ?_); refine Wl_load hS (fun _ => by rfl) _ _ rfl _ Try.underlying42 rfl ?_; (repeat (first | (refine Row.here ⟨(rdmI.trans rfl), ?_⟩) | refine Row.next ?_)); (with_reducible show wpList _ _ _ _ _ _); simp only [nA])
  | ((with_reducible refine to_store 42 rfl ?_); refine Wl_store hS (fun _ => by rfl) _ _ _ rfl rfl (rdmI.trans rfl) (dm_one _ _ _ _) ?_; (repeat (first | refine Turn.here rfl ?_ | refine Turn.next ?_)); clear hS; intro wW hS; try simp only [nA]))
    refine ret_st hS rfl _ _ rfl rfl _ Try.underlying42 rfl ?_
    repeat (first | (refine Row.here ⟨rdmI.trans rfl, ?_⟩) | refine Row.next ?_)
    have hR : R = x.p := by rw [hx.out]
    clear hx
    subst hR
    rw [hc.out]
    exact ⟨A1, c1, rfl, hS.lsF hshA1 hfA1 (fun e he => by repeat (first | exact he | refine List.Mem.tail _ ?_)), hS.below⟩
  have t7 : (C == 167) = false := by simpa using k7
  by_cases k8 : C = 191
  · subst k8
    clear t0 t1 t2 t3 t4 t5 t6 t7
    have hc := Lib.hid (show M.dCmd x 191 = { x with ask := 1 } from rfl)
    go_wp2_with (first
  | ((with_reducible first | refine to_store 5 rfl ?_); (first | refine Wl_store1 hS (fun _ => by rfl) _ _ (.int _ _) rfl rfl (scT _ rfl) rfl rfl ?_); (repeat (first | refine Turn1.here (of_decide_eq_true rfl) (of_decide_eq_true rfl) ?_ | refine Turn1.next ?_)); clear hS; intro wW hS; (try simp only [nA]); try simp only [Nat.sub_zero, Nat.add_zero, Nat.zero_add, Nat.reduceSub, Nat.add_sub_cancel_left, dm_ss] at hS)
  | ((with_reducible refine to_alloc 40 rfl ?_); refine Wl_alloc hS (fun _ => by rfl) _ rrgZ ?_; clear hS; intro b3 wW hS; simp only [nA])
  | ((with_reducible refine to_load 40 rfl ?_); refine Wl_load hS (fun _ => by rfl) _ _ rfl _ Try.underlying40 rfl ?_; (repeat (first | (refine Row.here ⟨rrgI.trans rfl, ?_⟩))); (with_reducible show wpList _ _ _ _ _ _); simp only [nA])
  | ((with_reducible refine to_store 40 rfl ?_); refine Wl_store hS (fun _ => by rfl) _ _ _ rfl rfl (rrgI.trans rfl) (rg_one _ _ _ _) ?_; (repeat (first | refine Turn.here rfl ?_ | refine Turn.next ?_)); clear hS; intro wW hS; try simp only [nA])
  | ((with_reducible refine to_store 40 rfl ?_); refine Wl_store_sub hS (fun _ => by rfl) _ _ _ (({ d with p := R } : M.Dm).c (.slice A1 R.want.length c1)) rfl rfl (rrgI.trans rfl) (rg_one _ _ _ _) ?_; (repeat (first | refine SubTurn.here (of_decide_eq_true rfl) (of_decide_eq_true rfl) rfl ?_ | refine SubTurn.next ?_)); clear hS; intro wW hS; rw [← hx.out] at hS; try simp only [nA])
  | ((with_reducible refine to_load 42 rfl ?_); refine Wl_load hS (fun _ => by rfl) _ _ rfl _ Try.underlying42 rfl ?_; (repeat (first | (refine Row.here ⟨(rdmI.trans rfl), ?_⟩) | refine Row.next ?_)); (with_reducible show wpList _ _ _ _ _ _); simp only [nA])
  | ((with_reducible refine to_store 42 rfl ?_); refine Wl_store hS (fun _ => by rfl) _ _ _ rfl rfl (rdmI.trans rfl) (dm_one _ _ _ _) ?_; (repeat (first | refine Turn.here rfl ?_ | refine Turn.next ?_)); clear hS; intro wW hS; try simp only [nA]))
    refine ret_st hS rfl _ _ rfl rfl _ Try.underlying42 rfl ?_
    repeat (first | (refine Row.here ⟨rdmI.trans rfl, ?_⟩) | refine Row.next ?_)
    have hR : R = x.p := by rw [hx.out]
    clear hx
    subst hR
    rw [hc.out]
    exact ⟨A1, c1, rfl, hS.lsF hshA1 hfA1 (fun e he => by repeat (first | exact he | refine List.Mem.tail _ ?_)), hS.below⟩
  have t8 : (C == 191) = false := by simpa using k8
  have hc := Lib.hid (show M.dCmd x C = x from by simp [M.dCmd, k0, k1, k2, k3, k4, k5, k6, k7, k8])
  clear k0 k1 k2 k3 k4 k5 k6 k7 k8
  go_wp2_with (first
  | ((with_reducible refine to_alloc 40 rfl ?_); refine Wl_alloc hS (fun _ => by rfl) _ rrgZ ?_; clear hS; intro b3 wW hS; simp only [nA])
  | ((with_reducible refine to_load 40 rfl ?_); refine Wl_load hS (fun _ => by rfl) _ _ rfl _ Try.underlying40 rfl ?_; (repeat (first | (refine Row.here ⟨rrgI.trans rfl, ?_⟩))); (with_reducible show wpList _ _ _ _ _ _); simp only [nA])
  | ((with_reducible refine to_store 40 rfl ?_); refine Wl_store hS (fun _ => by rfl) _ _ _ rfl rfl (rrgI.trans rfl) (rg_one _ _ _ _) ?_; (repeat (first | refine Turn.here rfl ?_ | refine Turn.next ?_)); clear hS; intro wW hS; try simp only [nA])
  | ((with_reducible refine to_store 40 rfl ?_); refine Wl_store_sub hS (fun _ => by rfl) _ _ _ (({ d with p := R } : M.Dm).c (.slice A1 R.want.length c1)) rfl rfl (rrgI.trans rfl) (rg_one _ _ _ _) ?_; (repeat (first | refine SubTurn.here (of_decide_eq_true rfl) (of_decide_eq_true rfl) rfl ?_ | refine SubTurn.next ?_)); clear hS; intro wW hS; rw [← hx.out] at hS; try simp only [nA])
  | ((with_reducible refine to_load 42 rfl ?_); refine Wl_load hS (fun _ => by rfl) _ _ rfl _ Try.underlying42 rfl ?_; (repeat (first | (refine Row.here ⟨(rdmI.trans rfl), ?_⟩) | refine Row.next ?_)); (with_reducible show wpList _ _ _ _ _ _); simp only [nA])
  | ((with_reducible refine to_store 42 rfl ?_); refine Wl_store hS (fun _ => by rfl) _ _ _ rfl rfl (rdmI.trans rfl) (dm_one _ _ _ _) ?_; (repeat (first | refine Turn.here rfl ?_ | refine Turn.next ?_)); clear hS; intro wW hS; try simp only [nA]))
  refine ret_st hS rfl _ _ rfl rfl _ Try.underlying42 rfl ?_
  repeat (first | (refine Row.here ⟨rdmI.trans rfl, ?_⟩) | refine Row.next ?_)
  have hR : R = x.p := by rw [hx.out]
  clear hx
  subst hR
  rw [hc.out]
  exact ⟨A1, c1, rfl, hS.lsF hshA1 hfA1 (fun e he => by repeat (first | exact he | refine List.Mem.tail _ ?_)), hS.below⟩
theorem rmwrite_any (d : M.Dm) (hd : d.ok) (hL : d.p.want.length ≤ 9000) (A : Option Addr) (c : Nat) (b : Int) (h0 : 0 ≤ b) (h1 : b ≤ 255) (w : World) (r1 : Ls 0 w (.slice A d.p.want.length c) (ints .i64 d.p.want)) :
    Calls Try.prog 20 #[.agg (d.c (.slice A d.p.want.length c)), .int .u8 b] w fun e w' => ∃ A' c', e = .returned (.agg ((M.dWrite d b).c (.slice A' (M.dWrite d b).p.want.length c'))) ∧ Ls w.heap.size w' (.slice A' (M.dWrite d b).p.want.length c') (ints .i64 (M.dWrite d b).p.want) ∧ Below w.heap.size w w' :=
  rmwrite_core d (M.rWrite d.p b) (M.rWriteC d.p b) { d with p := M.rWrite d.p b } (Lib.hid rfl) ⟨M.rWrite_ok hd.p h0 h1, hd.a, hd.b, hd.left, hd.hold, hd.ask⟩ A c b h0 h1 w (Lib.hid fun W hW => rwrite_any d.p hd.p hL A c b h0 h1 W (Ls.below r1 hW))
end Go.Proofs.Ytkkkjdbcckaedaa
