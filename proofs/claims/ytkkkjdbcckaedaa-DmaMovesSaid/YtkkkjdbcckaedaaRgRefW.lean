/- The reference's Write (charabancref21), by its contract. -/
import Derived.Test.YtkkkjdbcckaedaaRgRefT
namespace Go.Proofs.Ytkkkjdbcckaedaa
open Go.RowKit
set_option linter.unusedVariables false
set_option linter.unusedSimpArgs false
set_option maxRecDepth 100000
theorem wr_end {r' : M.Rg} {F : Nat} {W : World} {A : Option Addr} {c : Nat} {x : Int} {e : Ending} {Q : Prop} (hw : r'.want = []) (hc : c ≤ maxLen) (he : e = .returned (.tuple #[.agg (r'.c (.slice A 0 c)), .int .u8 x])) (hq : Q) :
    ∃ A' c', e = .returned (.tuple #[.agg (r'.c (.slice A' r'.want.length c')), .int .u8 x]) ∧ Ls F W (.slice A' r'.want.length c') (ints .i64 r'.want) ∧ Q := by
  rw [hw]
  exact ⟨A, c, he, Ls.nil _ _ _ _ hc, hq⟩
set_option maxHeartbeats 16000000 in
theorem rwrite_any (r : M.Rg) (hr : r.ok) (hL : r.want.length ≤ 9000) (A : Option Addr) (c : Nat) (b : Int) (h0 : 0 ≤ b) (h1 : b ≤ 255) (w : World) (r1 : Ls 0 w (.slice A r.want.length c) (ints .i64 r.want)) :
    Calls Try.prog 55 #[.agg (r.c (.slice A r.want.length c)), .int .u8 b] w fun e w' => ∃ A' c', e = .returned (.tuple #[.agg ((M.rWrite r b).c (.slice A' (M.rWrite r b).want.length c')), .int .u8 (M.rWriteC r b)]) ∧ Ls w.heap.size w' (.slice A' (M.rWrite r b).want.length c') (ints .i64 (M.rWrite r b).want) ∧ Below w.heap.size w w' := by
  have hS := St.start w.heap.size 0 0 w
  cases hw : r.want with
  | cons k rest =>
    have e1 : M.rWrite r b = M.rTake r b k rest := by simp only [M.rWrite, hw]
    have e2 : M.rWriteC r b = 0 := by simp [M.rWriteC, hw]
    rw [e1, e2]
    clear e1 e2
    rw [hw] at r1 hL
    simp only [List.length_cons] at r1 hL ⊢
    obtain ⟨bq, q, c', hs, _, _, _⟩ := r1.at_ (i := 0) (by simp)
    simp only [Value.slice.injEq] at hs
    obtain ⟨rfl, -, rfl⟩ := hs
    have ht := fun W hW => rtake_any r hr k rest (by omega) bq q c b h0 h1 W (r1.below hW)
    generalize M.rTake r b k rest = R at ht ⊢
    have HT := Lib.hid ht
    clear ht hw hL r1
    have hc1 : (0 : Int) < ((rest.length : Nat) : Int) + 1 := by omega
    go_enter Try.func55, Try.ntmps55
    go_wp2_with (first
  | ((with_reducible refine to_boxT 40 rfl ?_); refine Wl_box hS (fun _ => by rfl) _ rfl ?_; clear hS; intro b2 wW hS; simp only [nA])
  | ((with_reducible refine to_alloc 40 rfl ?_); refine Wl_alloc hS (fun _ => by rfl) _ rrgZ ?_; clear hS; intro b4 wW hS; simp only [nA])
  | ((with_reducible first | refine to_load 25 rfl ?_); refine Wl_load1 hS (fun _ => by rfl) _ _ rfl (scT _ rfl) ?_; (repeat (first | refine Look.here (of_decide_eq_true rfl) rfl ?_ | refine Look.next ?_)); (with_reducible show wpList _ _ _ _ _ _); simp only [nA])
  | ((with_reducible refine to_load 40 rfl ?_); refine Wl_load hS (fun _ => by rfl) _ _ rfl _ Try.underlying40 rfl ?_; (repeat (first | (refine Row.here ⟨rrgI.trans rfl, ?_⟩) | refine Row.next ?_)); (with_reducible show wpList _ _ _ _ _ _); simp only [nA]))
    refine (HT.out _ hS.below).mono ?_
    rintro e w1 ⟨A1, c1, rfl, hl, hb⟩
    have hfA1 := fun e he => Nat.le_trans hS.size (hl.ent e he).1
    replace hS := hS.callN hb hl
    simp only [List.cons_append, List.nil_append] at hS
    have hshA1 := hl.shp
    clear hb hl
    go_wp2_with (first
  | ((with_reducible refine to_store 40 rfl ?_); refine Wl_store hS (fun _ => by rfl) _ _ _ rfl rfl (rrgI.trans rfl) (rg_one _ _ _ _) ?_; (repeat (first | refine Turn.here rfl ?_)); clear hS; intro wW hS; try simp only [nA]))
    refine ret_tmp_st hS rfl _ _ rfl _ rfl rfl _ Try.underlying40 rfl ?_
    repeat (first | (refine Row.here ⟨rrgI.trans rfl, ?_⟩))
    exact ⟨A1, c1, rfl, hS.lsF hshA1 hfA1 (fun e he => by repeat (first | exact he | refine List.Mem.tail _ ?_)), hS.below⟩
  | nil =>
    have e1 : M.rWrite r b = M.rBase r b := by simp only [M.rWrite, hw]
    have e2 : M.rWriteC r b = M.rBaseC b := by simp [M.rWriteC, hw]
    rw [e1, e2]
    clear e1 e2
    rw [hw] at r1
    simp only [List.length_nil] at r1 ⊢
    have hcm : c ≤ maxLen := by
      obtain ⟨A', c', hs, g1, g2, _⟩ := r1.shp
      simp only [Value.slice.injEq] at hs
      obtain ⟨-, -, rfl⟩ := hs
      exact g2
    clear r1 hL
    by_cases hb1 : b < 128
    · have e2 : M.rBaseC b = 0 := if_neg (by omega)
      rw [M.rBase_low hb1, e2]
      clear e2
      have hb2 : b ≤ 127 := by omega
      have ht := fun W => rlow_any r A 0 c b h0 hb2 W
      generalize M.rLow r b = R at ht ⊢
      have HT := Lib.hid ht
      clear ht
      go_enter Try.func55, Try.ntmps55
      go_wp2_with (first
  | ((with_reducible refine to_boxT 40 rfl ?_); refine Wl_box hS (fun _ => by rfl) _ rfl ?_; clear hS; intro b2 wW hS; simp only [nA])
  | ((with_reducible refine to_alloc 40 rfl ?_); refine Wl_alloc hS (fun _ => by rfl) _ rrgZ ?_; clear hS; intro b4 wW hS; simp only [nA])
  | ((with_reducible first | refine to_load 25 rfl ?_); refine Wl_load1 hS (fun _ => by rfl) _ _ rfl (scT _ rfl) ?_; (repeat (first | refine Look.here (of_decide_eq_true rfl) rfl ?_ | refine Look.next ?_)); (with_reducible show wpList _ _ _ _ _ _); simp only [nA])
  | ((with_reducible refine to_load 40 rfl ?_); refine Wl_load hS (fun _ => by rfl) _ _ rfl _ Try.underlying40 rfl ?_; (repeat (first | (refine Row.here ⟨rrgI.trans rfl, ?_⟩) | refine Row.next ?_)); (with_reducible show wpList _ _ _ _ _ _); simp only [nA]))
      refine (HT.out _).mono ?_
      rintro e w1 ⟨A1, c1, rfl, hl, hb⟩
      have hfA1 := fun e he => Nat.le_trans hS.size (hl.ent e he).1
      replace hS := hS.callN hb hl
      simp only [List.cons_append, List.nil_append] at hS
      have hshA1 := hl.shp
      clear hb hl
      go_wp2_with (first
  | ((with_reducible refine to_store 40 rfl ?_); refine Wl_store hS (fun _ => by rfl) _ _ _ rfl rfl (rrgI.trans rfl) (rg_one _ _ _ _) ?_; (repeat (first | refine Turn.here rfl ?_)); clear hS; intro wW hS; try simp only [nA]))
      refine ret_tmp_st hS rfl _ _ rfl _ rfl rfl _ Try.underlying40 rfl ?_
      repeat (first | (refine Row.here ⟨rrgI.trans rfl, ?_⟩))
      exact ⟨A1, c1, rfl, hS.lsF hshA1 hfA1 (fun e he => by repeat (first | exact he | refine List.Mem.tail _ ?_)), hS.below⟩
    · by_cases k0 : b % 4 = 0
      · have e1 : M.rBase r b = { r with stop := M.is b 2, want := M.rWants b 7 3 2, ints := M.is b 5, on := r.on || M.is b 6 } := by unfold M.rBase; rw [if_neg hb1, if_pos k0]
        have e2 : M.rBaseC b = 0 := if_neg (by omega)
        rw [e1, e2]
        clear e1 e2 hr hw
        obtain ⟨cls, atob, a, bb, len, aio, bio, astep, bstep, atime, btime, mask, mat, stop, mode, ctl, pulse, vec, high, auto, rmask, ints', on, want⟩ := r
        cases on
        all_goals
          go_enter Try.func55, Try.ntmps55
          go_wp2_with (first
  | ((with_reducible refine to_boxT 40 rfl ?_); refine Wl_box hS (fun _ => by rfl) _ rfl ?_; clear hS; intro b2 wW hS; simp only [nA])
  | ((with_reducible refine to_alloc 40 rfl ?_); refine Wl_alloc hS (fun _ => by rfl) _ rrgZ ?_; clear hS; intro b4 wW hS; simp only [nA])
  | ((with_reducible first | refine to_load 25 rfl ?_); refine Wl_load1 hS (fun _ => by rfl) _ _ rfl (scT _ rfl) ?_; (repeat (first | refine Look.here (of_decide_eq_true rfl) rfl ?_ | refine Look.next ?_)); (with_reducible show wpList _ _ _ _ _ _); simp only [nA])
  )
          refine (refis_any b _ h0 h1 _).mono ?_
          rintro e w1 ⟨rfl, rfl⟩
          go_wp2_with (first
  | ((with_reducible first | refine to_store 4 rfl ?_ ); (first | refine Wl_store1 hS (fun _ => by rfl) _ _ (.bool _) rfl rfl (scT _ rfl) rfl rfl ?_); (repeat (first | refine Turn1.here (of_decide_eq_true rfl) (of_decide_eq_true rfl) ?_ | refine Turn1.next ?_)); clear hS; intro wW hS; (try simp only [nA]); try simp only [Nat.sub_zero, Nat.add_zero, Nat.zero_add, Nat.reduceSub, Nat.add_sub_cancel_left, rg_ss] at hS)
  )
          replace hS := (hS.new (ints .i64 (M.upFrom 3 2)).toArray 3).rest
          refine (rwantedNil b _ 3 2 h0 h1 (by decide) (by decide) (by decide) (by decide) _ _ _ (ls_new (L := M.upFrom 3 2) (by decide))).mono ?_
          rintro e w1 ⟨A1, c1, rfl, hl, hb⟩
          have hfA1 := fun e he => Nat.le_trans hS.size (hl.ent e he).1
          replace hS := hS.callN hb hl
          simp only [List.cons_append, List.nil_append] at hS
          have hshA1 := hl.shp
          clear hb hl
          go_wp2_with (first
  | ((with_reducible first | refine to_store 25 rfl ?_); (first | refine Wl_store1 hS (fun _ => by rfl) _ _ (.slice _ _ _) rfl rfl (scT _ rfl) rfl rfl ?_); (repeat (first | refine Turn1.here (of_decide_eq_true rfl) (of_decide_eq_true rfl) ?_ | refine Turn1.next ?_)); clear hS; intro wW hS; (try simp only [nA]); try simp only [Nat.sub_zero, Nat.add_zero, Nat.zero_add, Nat.reduceSub, Nat.add_sub_cancel_left, rg_ss] at hS)
  )
          refine (refis_any b _ h0 h1 _).mono ?_
          rintro e w1 ⟨rfl, rfl⟩
          go_wp2_with (first
  | ((with_reducible first | refine to_store 4 rfl ?_ ); (first | refine Wl_store1 hS (fun _ => by rfl) _ _ (.bool _) rfl rfl (scT _ rfl) rfl rfl ?_); (repeat (first | refine Turn1.here (of_decide_eq_true rfl) (of_decide_eq_true rfl) ?_ | refine Turn1.next ?_)); clear hS; intro wW hS; (try simp only [nA]); try simp only [Nat.sub_zero, Nat.add_zero, Nat.zero_add, Nat.reduceSub, Nat.add_sub_cancel_left, rg_ss] at hS)
  )
          refine (refis_any b _ h0 h1 _).mono ?_
          rintro e w1 ⟨rfl, rfl⟩
          go_wp2_with (first
  | ((with_reducible first | refine to_load 4 rfl ?_ ); refine Wl_load1 hS (fun _ => by rfl) _ _ rfl (scT _ rfl) ?_; (repeat (first | refine Look.here (of_decide_eq_true rfl) rfl ?_ | refine Look.next ?_)); (with_reducible show wpList _ _ _ _ _ _); simp only [nA])
  | ((with_reducible first | refine to_store 4 rfl ?_ ); (first | refine Wl_store1 hS (fun _ => by rfl) _ _ (.bool _) rfl rfl (scT _ rfl) rfl rfl ?_); (repeat (first | refine Turn1.here (of_decide_eq_true rfl) (of_decide_eq_true rfl) ?_ | refine Turn1.next ?_)); clear hS; intro wW hS; (try simp only [nA]); try simp only [Nat.sub_zero, Nat.add_zero, Nat.zero_add, Nat.reduceSub, Nat.add_sub_cancel_left, rg_ss] at hS)
  | ((with_reducible refine to_load 40 rfl ?_); refine Wl_load hS (fun _ => by rfl) _ _ rfl _ Try.underlying40 rfl ?_; (repeat (first | (refine Row.here ⟨rrgI.trans rfl, ?_⟩) | refine Row.next ?_)); (with_reducible show wpList _ _ _ _ _ _); simp only [nA])
  | ((with_reducible refine to_store 40 rfl ?_); refine Wl_store hS (fun _ => by rfl) _ _ _ rfl rfl (rrgI.trans rfl) (rg_one _ _ _ _) ?_; (repeat (first | refine Turn.here rfl ?_)); clear hS; intro wW hS; try simp only [nA]))
          refine ret_tmp_st hS rfl _ _ rfl _ rfl rfl _ Try.underlying40 rfl ?_
          repeat (first | (refine Row.here ⟨rrgI.trans rfl, ?_⟩))
          exact ⟨A1, c1, rfl, hS.lsF hshA1 hfA1 (fun e he => by repeat (first | exact he | refine List.Mem.tail _ ?_)), hS.below⟩
      · by_cases k1 : b % 4 = 1
        · have e1 : M.rBase r b = { r with mode := b / 32 % 4, want := M.rWants b 9 2 3 } := by unfold M.rBase; rw [if_neg hb1, if_neg k0, if_pos k1]
          have e2 : M.rBaseC b = 0 := if_neg (by omega)
          rw [e1, e2]
          clear e1 e2
          go_enter Try.func55, Try.ntmps55
          go_wp2_with (first
  | ((with_reducible refine to_boxT 40 rfl ?_); refine Wl_box hS (fun _ => by rfl) _ rfl ?_; clear hS; intro b2 wW hS; simp only [nA])
  | ((with_reducible refine to_alloc 40 rfl ?_); refine Wl_alloc hS (fun _ => by rfl) _ rrgZ ?_; clear hS; intro b4 wW hS; simp only [nA])
  | ((with_reducible first | refine to_load 25 rfl ?_); refine Wl_load1 hS (fun _ => by rfl) _ _ rfl (scT _ rfl) ?_; (repeat (first | refine Look.here (of_decide_eq_true rfl) rfl ?_ | refine Look.next ?_)); (with_reducible show wpList _ _ _ _ _ _); simp only [nA])
  | ((with_reducible first | refine to_store 3 rfl ?_ ); (first | refine Wl_store1 hS (fun _ => by rfl) _ _ (.int _ _) rfl rfl (scT _ rfl) rfl rfl ?_ ); (repeat (first | refine Turn1.here (of_decide_eq_true rfl) (of_decide_eq_true rfl) ?_ | refine Turn1.next ?_)); clear hS; intro wW hS; (try simp only [nA]); try simp only [Nat.sub_zero, Nat.add_zero, Nat.zero_add, Nat.reduceSub, Nat.add_sub_cancel_left, rg_ss] at hS)
  )
          replace hS := (hS.new (ints .i64 (M.upFrom 2 3)).toArray 3).rest
          refine (rwantedNil b _ 2 3 h0 h1 (by decide) (by decide) (by decide) (by decide) _ _ _ (ls_new (L := M.upFrom 2 3) (by decide))).mono ?_
          rintro e w1 ⟨A1, c1, rfl, hl, hb⟩
          have hfA1 := fun e he => Nat.le_trans hS.size (hl.ent e he).1
          replace hS := hS.callN hb hl
          simp only [List.cons_append, List.nil_append] at hS
          have hshA1 := hl.shp
          clear hb hl
          go_wp2_with (first
  | ((with_reducible first | refine to_store 25 rfl ?_); (first | refine Wl_store1 hS (fun _ => by rfl) _ _ (.slice _ _ _) rfl rfl (scT _ rfl) rfl rfl ?_); (repeat (first | refine Turn1.here (of_decide_eq_true rfl) (of_decide_eq_true rfl) ?_ | refine Turn1.next ?_)); clear hS; intro wW hS; (try simp only [nA]); try simp only [Nat.sub_zero, Nat.add_zero, Nat.zero_add, Nat.reduceSub, Nat.add_sub_cancel_left, rg_ss] at hS)
  | ((with_reducible refine to_load 40 rfl ?_); refine Wl_load hS (fun _ => by rfl) _ _ rfl _ Try.underlying40 rfl ?_; (repeat (first | (refine Row.here ⟨rrgI.trans rfl, ?_⟩) | refine Row.next ?_)); (with_reducible show wpList _ _ _ _ _ _); simp only [nA])
  | ((with_reducible refine to_store 40 rfl ?_); refine Wl_store hS (fun _ => by rfl) _ _ _ rfl rfl (rrgI.trans rfl) (rg_one _ _ _ _) ?_; (repeat (first | refine Turn.here rfl ?_)); clear hS; intro wW hS; try simp only [nA]))
          refine ret_tmp_st hS rfl _ _ rfl _ rfl rfl _ Try.underlying40 rfl ?_
          repeat (first | (refine Row.here ⟨rrgI.trans rfl, ?_⟩))
          exact ⟨A1, c1, rfl, hS.lsF hshA1 hfA1 (fun e he => by repeat (first | exact he | refine List.Mem.tail _ ?_)), hS.below⟩
        · by_cases k2 : b % 4 = 2
          · have e1 : M.rBase r b = { r with high := M.is b 3, auto := M.is b 5 } := by unfold M.rBase; rw [if_neg hb1, if_neg k0, if_neg k1, if_pos k2]
            have e2 : M.rBaseC b = 0 := if_neg (by omega)
            rw [e1, e2]
            clear e1 e2
            go_enter Try.func55, Try.ntmps55
            go_wp2_with (first
  | ((with_reducible refine to_boxT 40 rfl ?_); refine Wl_box hS (fun _ => by rfl) _ rfl ?_; clear hS; intro b2 wW hS; simp only [nA])
  | ((with_reducible refine to_alloc 40 rfl ?_); refine Wl_alloc hS (fun _ => by rfl) _ rrgZ ?_; clear hS; intro b4 wW hS; simp only [nA])
  | ((with_reducible first | refine to_load 25 rfl ?_); refine Wl_load1 hS (fun _ => by rfl) _ _ rfl (scT _ rfl) ?_; (repeat (first | refine Look.here (of_decide_eq_true rfl) rfl ?_ | refine Look.next ?_)); (with_reducible show wpList _ _ _ _ _ _); simp only [nA])
  )
            refine (refis_any b _ h0 h1 _).mono ?_
            rintro e w1 ⟨rfl, rfl⟩
            go_wp2_with (first
  | ((with_reducible first | refine to_store 4 rfl ?_ ); (first | refine Wl_store1 hS (fun _ => by rfl) _ _ (.bool _) rfl rfl (scT _ rfl) rfl rfl ?_); (repeat (first | refine Turn1.here (of_decide_eq_true rfl) (of_decide_eq_true rfl) ?_ | refine Turn1.next ?_)); clear hS; intro wW hS; (try simp only [nA]); try simp only [Nat.sub_zero, Nat.add_zero, Nat.zero_add, Nat.reduceSub, Nat.add_sub_cancel_left, rg_ss] at hS)
  )
            refine (refis_any b _ h0 h1 _).mono ?_
            rintro e w1 ⟨rfl, rfl⟩
            go_wp2_with (first
  | ((with_reducible first | refine to_store 4 rfl ?_ ); (first | refine Wl_store1 hS (fun _ => by rfl) _ _ (.bool _) rfl rfl (scT _ rfl) rfl rfl ?_); (repeat (first | refine Turn1.here (of_decide_eq_true rfl) (of_decide_eq_true rfl) ?_ | refine Turn1.next ?_)); clear hS; intro wW hS; (try simp only [nA]); try simp only [Nat.sub_zero, Nat.add_zero, Nat.zero_add, Nat.reduceSub, Nat.add_sub_cancel_left, rg_ss] at hS)
  | ((with_reducible refine to_load 40 rfl ?_); refine Wl_load hS (fun _ => by rfl) _ _ rfl _ Try.underlying40 rfl ?_; (repeat (first | (refine Row.here ⟨rrgI.trans rfl, ?_⟩) | refine Row.next ?_)); (with_reducible show wpList _ _ _ _ _ _); simp only [nA])
  | ((with_reducible refine to_store 40 rfl ?_); refine Wl_store hS (fun _ => by rfl) _ _ _ rfl rfl (rrgI.trans rfl) (rg_one _ _ _ _) ?_; (repeat (first | refine Turn.here rfl ?_)); clear hS; intro wW hS; try simp only [nA]))
            refine ret_tmp_st hS rfl _ _ rfl _ rfl rfl _ Try.underlying40 rfl ?_
            repeat (first | (refine Row.here ⟨rrgI.trans rfl, ?_⟩))
            exact wr_end (r' := { r with high := M.is b 3, auto := M.is b 5 }) hw hcm rfl hS.below
          · have e1 : M.rBase r b = M.rCmd r b := by unfold M.rBase; rw [if_neg hb1, if_neg k0, if_neg k1, if_neg k2]
            have e2 : M.rBaseC b = b := if_pos (by omega)
            have k3 : b % 4 = 3 := by omega
            rw [e1, e2]
            clear e1 e2 k0 k1 k2
            have ht := fun W => rcommand_any r hw A c hcm b h0 h1 W
            generalize M.rCmd r b = R at ht ⊢
            have HT := Lib.hid ht
            clear ht
            go_enter Try.func55, Try.ntmps55
            go_wp2_with (first
  | ((with_reducible refine to_boxT 40 rfl ?_); refine Wl_box hS (fun _ => by rfl) _ rfl ?_; clear hS; intro b2 wW hS; simp only [nA])
  | ((with_reducible refine to_alloc 40 rfl ?_); refine Wl_alloc hS (fun _ => by rfl) _ rrgZ ?_; clear hS; intro b4 wW hS; simp only [nA])
  | ((with_reducible first | refine to_load 25 rfl ?_); refine Wl_load1 hS (fun _ => by rfl) _ _ rfl (scT _ rfl) ?_; (repeat (first | refine Look.here (of_decide_eq_true rfl) rfl ?_ | refine Look.next ?_)); (with_reducible show wpList _ _ _ _ _ _); simp only [nA])
  | ((with_reducible refine to_load 40 rfl ?_); refine Wl_load hS (fun _ => by rfl) _ _ rfl _ Try.underlying40 rfl ?_; (repeat (first | (refine Row.here ⟨rrgI.trans rfl, ?_⟩) | refine Row.next ?_)); (with_reducible show wpList _ _ _ _ _ _); simp only [nA]))
            refine (HT.out _).mono ?_
            rintro e w1 ⟨A1, c1, rfl, hl, hb⟩
            have hfA1 := fun e he => Nat.le_trans hS.size (hl.ent e he).1
            replace hS := hS.callN hb hl
            simp only [List.cons_append, List.nil_append] at hS
            have hshA1 := hl.shp
            clear hb hl
            go_wp2_with (first
  | ((with_reducible refine to_store 40 rfl ?_); refine Wl_store hS (fun _ => by rfl) _ _ _ rfl rfl (rrgI.trans rfl) (rg_one _ _ _ _) ?_; (repeat (first | refine Turn.here rfl ?_)); clear hS; intro wW hS; try simp only [nA]))
            refine ret_tmp_st hS rfl _ _ rfl _ rfl rfl _ Try.underlying40 rfl ?_
            repeat (first | (refine Row.here ⟨rrgI.trans rfl, ?_⟩))
            exact ⟨A1, c1, rfl, hS.lsF hshA1 hfA1 (fun e he => by repeat (first | exact he | refine List.Mem.tail _ ?_)), hS.below⟩
end Go.Proofs.Ytkkkjdbcckaedaa
