/- The program's base (dmareg), by its contract. -/
import Derived.Test.YtkkkjdbcckaedaaRgBas
namespace Go.Proofs.Ytkkkjdbcckaedaa
open Go.RowKit
set_option linter.unusedVariables false
set_option linter.unusedSimpArgs false
set_option maxRecDepth 100000
set_option maxHeartbeats 16000000 in
theorem dbase_any (B : Nat) (r : M.Rg) (hw : r.want = []) (A : Option Addr) (c : Nat) (hc : c ≤ maxLen) (b : Int) (h0 : 0 ≤ b) (h1 : b ≤ 255) (w : World) (hat : RgAt B r (.slice A 0 c) w) :
    Calls Try.prog 70 #[.pointer (some ⟨B, 0, none⟩), .int .u8 b] w (RgOut B (M.rBase r b) (.int .u8 (M.rBaseC b)) w) := by
  have e3 := M.and3 b h0 h1
  have e5 := M.and3m b h0 h1
  have e8 := M.and128d b h0 h1
  have hS := hat.st
  clear hat
  by_cases hb1 : b < 128
  · have e2 : M.rBaseC b = 0 := if_neg (by omega)
    have hb2 : ¬ 128 ≤ b := by omega
    rw [M.rBase_low hb1, e2]
    clear e2 e5
    by_cases k : b % 4 = 0
    · cases hk : M.is b 2 with
      | true =>
        have e1 : M.rLow r b = { r with aio := M.is b 3, astep := M.rStep b, want := M.rWants b 5 6 1 } := by unfold M.rLow; rw [if_neg (by simp [k]), if_pos hk]
        rw [e1]
        clear e1
        go_enter Try.func70, Try.ntmps70
        go_wp2_with (first
  | ((with_reducible first | refine to_load 3 rfl ?_ ); refine Wl_load1 hS (fun _ => by rfl) _ _ rfl (scT _ rfl) ?_; (repeat (first | refine Look.here (of_decide_eq_true rfl) rfl ?_)); (with_reducible show wpList _ _ _ _ _ _); simp only [nA]))
        refine (is_any b _ h0 h1 _).mono ?_
        rintro e w1 ⟨rfl, rfl⟩
        go_wp2_with (first
  | ((with_reducible first | refine to_load 3 rfl ?_ ); refine Wl_load1 hS (fun _ => by rfl) _ _ rfl (scT _ rfl) ?_; (repeat (first | refine Look.here (of_decide_eq_true rfl) rfl ?_)); (with_reducible show wpList _ _ _ _ _ _); simp only [nA]))
        refine (is_any b _ h0 h1 _).mono ?_
        rintro e w1 ⟨rfl, rfl⟩
        go_wp2_with (first
  | ((with_reducible first | refine to_load 3 rfl ?_ ); refine Wl_load1 hS (fun _ => by rfl) _ _ rfl (scT _ rfl) ?_; (repeat (first | refine Look.here (of_decide_eq_true rfl) rfl ?_)); (with_reducible show wpList _ _ _ _ _ _); simp only [nA]))
        refine (stepped_any b h0 h1 _).mono ?_
        rintro e w1 ⟨rfl, rfl⟩
        go_wp2_with (first
  | ((with_reducible first | refine to_load 3 rfl ?_ ); refine Wl_load1 hS (fun _ => by rfl) _ _ rfl (scT _ rfl) ?_; (repeat (first | refine Look.here (of_decide_eq_true rfl) rfl ?_)); (with_reducible show wpList _ _ _ _ _ _); simp only [nA]))
        refine (wants_any b _ 6 1 h0 h1 (by decide) (by decide) (by decide) (by decide) _).mono ?_
        rintro e w1 ⟨A1, c1, rfl, hl, hb⟩
        have hfA1 := fun e he => Nat.le_trans hS.size (hl.ent e he).1
        replace hS := hS.callN hb hl
        simp only [List.cons_append, List.nil_append] at hS
        have hshA1 := hl.shp
        clear hb hl
        go_wp2_with (first
  | ((with_reducible first | refine to_store 3 rfl ?_ | refine to_store 4 rfl ?_ | refine to_store 25 rfl ?_); (first | refine Wl_store1 hS (fun _ => by rfl) _ _ (.int _ _) rfl rfl (scT _ rfl) rfl rfl ?_ | refine Wl_store1 hS (fun _ => by rfl) _ _ (.bool _) rfl rfl (scT _ rfl) rfl rfl ?_ | refine Wl_store1 hS (fun _ => by rfl) _ _ (.slice _ _ _) rfl rfl (scT _ rfl) rfl rfl ?_); (repeat (first | refine Turn1.here (of_decide_eq_true rfl) (of_decide_eq_true rfl) ?_)); clear hS; intro wW hS; (try simp only [nA]); try simp only [Nat.sub_zero, Nat.add_zero, Nat.zero_add, Nat.reduceSub, Nat.add_sub_cancel_left, rg_ss] at hS))
        go_returns
        exact ⟨A1, c1, rfl, hS.range (.head _), hS.lsF hshA1 hfA1 (fun e he => by repeat (first | exact he | refine List.Mem.tail _ ?_)), hS.touch⟩
      | false =>
        have e1 : M.rLow r b = { r with bio := M.is b 3, bstep := M.rStep b, want := M.rWants b 6 6 1 } := by unfold M.rLow; rw [if_neg (by simp [k]), if_neg (by simp [hk])]
        rw [e1]
        clear e1
        go_enter Try.func70, Try.ntmps70
        go_wp2_with (first
  | ((with_reducible first | refine to_load 3 rfl ?_ ); refine Wl_load1 hS (fun _ => by rfl) _ _ rfl (scT _ rfl) ?_; (repeat (first | refine Look.here (of_decide_eq_true rfl) rfl ?_)); (with_reducible show wpList _ _ _ _ _ _); simp only [nA]))
        refine (is_any b _ h0 h1 _).mono ?_
        rintro e w1 ⟨rfl, rfl⟩
        go_wp2_with (first
  | ((with_reducible first | refine to_load 3 rfl ?_ ); refine Wl_load1 hS (fun _ => by rfl) _ _ rfl (scT _ rfl) ?_; (repeat (first | refine Look.here (of_decide_eq_true rfl) rfl ?_)); (with_reducible show wpList _ _ _ _ _ _); simp only [nA]))
        refine (is_any b _ h0 h1 _).mono ?_
        rintro e w1 ⟨rfl, rfl⟩
        go_wp2_with (first
  | ((with_reducible first | refine to_load 3 rfl ?_ ); refine Wl_load1 hS (fun _ => by rfl) _ _ rfl (scT _ rfl) ?_; (repeat (first | refine Look.here (of_decide_eq_true rfl) rfl ?_)); (with_reducible show wpList _ _ _ _ _ _); simp only [nA]))
        refine (stepped_any b h0 h1 _).mono ?_
        rintro e w1 ⟨rfl, rfl⟩
        go_wp2_with (first
  | ((with_reducible first | refine to_load 3 rfl ?_ ); refine Wl_load1 hS (fun _ => by rfl) _ _ rfl (scT _ rfl) ?_; (repeat (first | refine Look.here (of_decide_eq_true rfl) rfl ?_)); (with_reducible show wpList _ _ _ _ _ _); simp only [nA]))
        refine (wants_any b _ 6 1 h0 h1 (by decide) (by decide) (by decide) (by decide) _).mono ?_
        rintro e w1 ⟨A1, c1, rfl, hl, hb⟩
        have hfA1 := fun e he => Nat.le_trans hS.size (hl.ent e he).1
        replace hS := hS.callN hb hl
        simp only [List.cons_append, List.nil_append] at hS
        have hshA1 := hl.shp
        clear hb hl
        go_wp2_with (first
  | ((with_reducible first | refine to_store 3 rfl ?_ | refine to_store 4 rfl ?_ | refine to_store 25 rfl ?_); (first | refine Wl_store1 hS (fun _ => by rfl) _ _ (.int _ _) rfl rfl (scT _ rfl) rfl rfl ?_ | refine Wl_store1 hS (fun _ => by rfl) _ _ (.bool _) rfl rfl (scT _ rfl) rfl rfl ?_ | refine Wl_store1 hS (fun _ => by rfl) _ _ (.slice _ _ _) rfl rfl (scT _ rfl) rfl rfl ?_); (repeat (first | refine Turn1.here (of_decide_eq_true rfl) (of_decide_eq_true rfl) ?_)); clear hS; intro wW hS; (try simp only [nA]); try simp only [Nat.sub_zero, Nat.add_zero, Nat.zero_add, Nat.reduceSub, Nat.add_sub_cancel_left, rg_ss] at hS))
        go_returns
        exact ⟨A1, c1, rfl, hS.range (.head _), hS.lsF hshA1 hfA1 (fun e he => by repeat (first | exact he | refine List.Mem.tail _ ?_)), hS.touch⟩
    · have e1 : M.rLow r b = { r with cls := b % 4, atob := M.is b 2, want := M.rWants b 1 3 4 } := by unfold M.rLow; rw [if_pos k]
      rw [e1]
      clear e1
      have k' : (b % 4 == 0) = false := by simpa using k
      go_enter Try.func70, Try.ntmps70
      go_wp2_with (first
  | ((with_reducible first | refine to_load 3 rfl ?_ ); refine Wl_load1 hS (fun _ => by rfl) _ _ rfl (scT _ rfl) ?_; (repeat (first | refine Look.here (of_decide_eq_true rfl) rfl ?_)); (with_reducible show wpList _ _ _ _ _ _); simp only [nA]))
      refine (is_any b _ h0 h1 _).mono ?_
      rintro e w1 ⟨rfl, rfl⟩
      go_wp2_with (first
  | ((with_reducible first | refine to_load 3 rfl ?_ ); refine Wl_load1 hS (fun _ => by rfl) _ _ rfl (scT _ rfl) ?_; (repeat (first | refine Look.here (of_decide_eq_true rfl) rfl ?_)); (with_reducible show wpList _ _ _ _ _ _); simp only [nA]))
      refine (wants_any b _ 3 4 h0 h1 (by decide) (by decide) (by decide) (by decide) _).mono ?_
      rintro e w1 ⟨A1, c1, rfl, hl, hb⟩
      have hfA1 := fun e he => Nat.le_trans hS.size (hl.ent e he).1
      replace hS := hS.callN hb hl
      simp only [List.cons_append, List.nil_append] at hS
      have hshA1 := hl.shp
      clear hb hl
      go_wp2_with (first
  | ((with_reducible first | refine to_store 3 rfl ?_ | refine to_store 4 rfl ?_ | refine to_store 25 rfl ?_); (first | refine Wl_store1 hS (fun _ => by rfl) _ _ (.int _ _) rfl rfl (scT _ rfl) rfl rfl ?_ | refine Wl_store1 hS (fun _ => by rfl) _ _ (.bool _) rfl rfl (scT _ rfl) rfl rfl ?_ | refine Wl_store1 hS (fun _ => by rfl) _ _ (.slice _ _ _) rfl rfl (scT _ rfl) rfl rfl ?_); (repeat (first | refine Turn1.here (of_decide_eq_true rfl) (of_decide_eq_true rfl) ?_)); clear hS; intro wW hS; (try simp only [nA]); try simp only [Nat.sub_zero, Nat.add_zero, Nat.zero_add, Nat.reduceSub, Nat.add_sub_cancel_left, rg_ss] at hS))
      go_returns
      exact ⟨A1, c1, rfl, hS.range (.head _), hS.lsF hshA1 hfA1 (fun e he => by repeat (first | exact he | refine List.Mem.tail _ ?_)), hS.touch⟩
  · have hb2 : 128 ≤ b := by omega
    by_cases k0 : b % 4 = 0
    · have e1 : M.rBase r b = { r with stop := M.is b 2, want := M.rWants b 7 3 2, ints := M.is b 5, on := r.on || M.is b 6 } := by unfold M.rBase; rw [if_neg hb1, if_pos k0]
      have e2 : M.rBaseC b = 0 := if_neg (by omega)
      rw [e1, e2]
      clear e1 e2 hw e5
      obtain ⟨cls, atob, a, bb, len, aio, bio, astep, bstep, atime, btime, mask, mat, stop, mode, ctl, pulse, vec, high, auto, rmask, ints', on, want⟩ := r
      cases on
      · go_enter Try.func70, Try.ntmps70
        go_wp2_with (first
  | ((with_reducible first | refine to_load 3 rfl ?_ ); refine Wl_load1 hS (fun _ => by rfl) _ _ rfl (scT _ rfl) ?_; (repeat (first | refine Look.here (of_decide_eq_true rfl) rfl ?_)); (with_reducible show wpList _ _ _ _ _ _); simp only [nA]))
        refine (is_any b _ h0 h1 _).mono ?_
        rintro e w1 ⟨rfl, rfl⟩
        go_wp2_with (first
  | ((with_reducible first | refine to_load 3 rfl ?_ ); refine Wl_load1 hS (fun _ => by rfl) _ _ rfl (scT _ rfl) ?_; (repeat (first | refine Look.here (of_decide_eq_true rfl) rfl ?_)); (with_reducible show wpList _ _ _ _ _ _); simp only [nA]))
        refine (wants_any b _ 3 2 h0 h1 (by decide) (by decide) (by decide) (by decide) _).mono ?_
        rintro e w1 ⟨A1, c1, rfl, hl, hb⟩
        have hfA1 := fun e he => Nat.le_trans hS.size (hl.ent e he).1
        replace hS := hS.callN hb hl
        simp only [List.cons_append, List.nil_append] at hS
        have hshA1 := hl.shp
        clear hb hl
        go_wp2_with (first
  | ((with_reducible first | refine to_load 3 rfl ?_ ); refine Wl_load1 hS (fun _ => by rfl) _ _ rfl (scT _ rfl) ?_; (repeat (first | refine Look.here (of_decide_eq_true rfl) rfl ?_)); (with_reducible show wpList _ _ _ _ _ _); simp only [nA]))
        refine (is_any b _ h0 h1 _).mono ?_
        rintro e w1 ⟨rfl, rfl⟩
        go_wp2_with (first
  | ((with_reducible first | refine to_load 4 rfl ?_ ); refine Wl_load1 hS (fun _ => by rfl) _ _ rfl (scT _ rfl) ?_; (repeat (first | refine Look.here (of_decide_eq_true rfl) rfl ?_)); (with_reducible show wpList _ _ _ _ _ _); simp only [nA])
  | ((with_reducible first | refine to_store 4 rfl ?_ | refine to_store 25 rfl ?_); (first | refine Wl_store1 hS (fun _ => by rfl) _ _ (.bool _) rfl rfl (scT _ rfl) rfl rfl ?_ | refine Wl_store1 hS (fun _ => by rfl) _ _ (.slice _ _ _) rfl rfl (scT _ rfl) rfl rfl ?_); (repeat (first | refine Turn1.here (of_decide_eq_true rfl) (of_decide_eq_true rfl) ?_)); clear hS; intro wW hS; (try simp only [nA]); try simp only [Nat.sub_zero, Nat.add_zero, Nat.zero_add, Nat.reduceSub, Nat.add_sub_cancel_left, rg_ss] at hS))
        refine (is_any b _ h0 h1 _).mono ?_
        rintro e w1 ⟨rfl, rfl⟩
        go_wp2_with (first
  | ((with_reducible first | refine to_store 4 rfl ?_ ); (first | refine Wl_store1 hS (fun _ => by rfl) _ _ (.bool _) rfl rfl (scT _ rfl) rfl rfl ?_); (repeat (first | refine Turn1.here (of_decide_eq_true rfl) (of_decide_eq_true rfl) ?_)); clear hS; intro wW hS; (try simp only [nA]); try simp only [Nat.sub_zero, Nat.add_zero, Nat.zero_add, Nat.reduceSub, Nat.add_sub_cancel_left, rg_ss] at hS))
        go_returns
        exact ⟨A1, c1, rfl, hS.range (.head _), hS.lsF hshA1 hfA1 (fun e he => by repeat (first | exact he | refine List.Mem.tail _ ?_)), hS.touch⟩
      · go_enter Try.func70, Try.ntmps70
        go_wp2_with (first
  | ((with_reducible first | refine to_load 3 rfl ?_ ); refine Wl_load1 hS (fun _ => by rfl) _ _ rfl (scT _ rfl) ?_; (repeat (first | refine Look.here (of_decide_eq_true rfl) rfl ?_)); (with_reducible show wpList _ _ _ _ _ _); simp only [nA]))
        refine (is_any b _ h0 h1 _).mono ?_
        rintro e w1 ⟨rfl, rfl⟩
        go_wp2_with (first
  | ((with_reducible first | refine to_load 3 rfl ?_ ); refine Wl_load1 hS (fun _ => by rfl) _ _ rfl (scT _ rfl) ?_; (repeat (first | refine Look.here (of_decide_eq_true rfl) rfl ?_)); (with_reducible show wpList _ _ _ _ _ _); simp only [nA]))
        refine (wants_any b _ 3 2 h0 h1 (by decide) (by decide) (by decide) (by decide) _).mono ?_
        rintro e w1 ⟨A1, c1, rfl, hl, hb⟩
        have hfA1 := fun e he => Nat.le_trans hS.size (hl.ent e he).1
        replace hS := hS.callN hb hl
        simp only [List.cons_append, List.nil_append] at hS
        have hshA1 := hl.shp
        clear hb hl
        go_wp2_with (first
  | ((with_reducible first | refine to_load 3 rfl ?_ ); refine Wl_load1 hS (fun _ => by rfl) _ _ rfl (scT _ rfl) ?_; (repeat (first | refine Look.here (of_decide_eq_true rfl) rfl ?_)); (with_reducible show wpList _ _ _ _ _ _); simp only [nA]))
        refine (is_any b _ h0 h1 _).mono ?_
        rintro e w1 ⟨rfl, rfl⟩
        go_wp2_with (first
  | ((with_reducible first | refine to_load 4 rfl ?_ ); refine Wl_load1 hS (fun _ => by rfl) _ _ rfl (scT _ rfl) ?_; (repeat (first | refine Look.here (of_decide_eq_true rfl) rfl ?_)); (with_reducible show wpList _ _ _ _ _ _); simp only [nA])
  | ((with_reducible first | refine to_store 4 rfl ?_ | refine to_store 25 rfl ?_); (first | refine Wl_store1 hS (fun _ => by rfl) _ _ (.bool _) rfl rfl (scT _ rfl) rfl rfl ?_ | refine Wl_store1 hS (fun _ => by rfl) _ _ (.slice _ _ _) rfl rfl (scT _ rfl) rfl rfl ?_); (repeat (first | refine Turn1.here (of_decide_eq_true rfl) (of_decide_eq_true rfl) ?_)); clear hS; intro wW hS; (try simp only [nA]); try simp only [Nat.sub_zero, Nat.add_zero, Nat.zero_add, Nat.reduceSub, Nat.add_sub_cancel_left, rg_ss] at hS))
        go_returns
        exact ⟨A1, c1, rfl, hS.range (.head _), hS.lsF hshA1 hfA1 (fun e he => by repeat (first | exact he | refine List.Mem.tail _ ?_)), hS.touch⟩
    · by_cases k1 : b % 4 = 1
      · have e1 : M.rBase r b = { r with mode := b / 32 % 4, want := M.rWants b 9 2 3 } := by unfold M.rBase; rw [if_neg hb1, if_neg k0, if_pos k1]
        have e2 : M.rBaseC b = 0 := if_neg (by omega)
        rw [e1, e2]
        clear e1 e2
        go_enter Try.func70, Try.ntmps70
        go_wp2_with (first
  | ((with_reducible first | refine to_load 3 rfl ?_ ); refine Wl_load1 hS (fun _ => by rfl) _ _ rfl (scT _ rfl) ?_; (repeat (first | refine Look.here (of_decide_eq_true rfl) rfl ?_)); (with_reducible show wpList _ _ _ _ _ _); simp only [nA]))
        refine (wants_any b _ 2 3 h0 h1 (by decide) (by decide) (by decide) (by decide) _).mono ?_
        rintro e w1 ⟨A1, c1, rfl, hl, hb⟩
        have hfA1 := fun e he => Nat.le_trans hS.size (hl.ent e he).1
        replace hS := hS.callN hb hl
        simp only [List.cons_append, List.nil_append] at hS
        have hshA1 := hl.shp
        clear hb hl
        go_wp2_with (first
  | ((with_reducible first | refine to_store 3 rfl ?_ | refine to_store 25 rfl ?_); (first | refine Wl_store1 hS (fun _ => by rfl) _ _ (.int _ _) rfl rfl (scT _ rfl) rfl rfl ?_ | refine Wl_store1 hS (fun _ => by rfl) _ _ (.slice _ _ _) rfl rfl (scT _ rfl) rfl rfl ?_); (repeat (first | refine Turn1.here (of_decide_eq_true rfl) (of_decide_eq_true rfl) ?_)); clear hS; intro wW hS; (try simp only [nA]); try simp only [Nat.sub_zero, Nat.add_zero, Nat.zero_add, Nat.reduceSub, Nat.add_sub_cancel_left, rg_ss] at hS))
        go_returns
        exact ⟨A1, c1, rfl, hS.range (.head _), hS.lsF hshA1 hfA1 (fun e he => by repeat (first | exact he | refine List.Mem.tail _ ?_)), hS.touch⟩
      · by_cases k2 : b % 4 = 2
        · have e1 : M.rBase r b = { r with high := M.is b 3, auto := M.is b 5 } := by unfold M.rBase; rw [if_neg hb1, if_neg k0, if_neg k1, if_pos k2]
          have e2 : M.rBaseC b = 0 := if_neg (by omega)
          rw [e1, e2]
          clear e1 e2
          go_enter Try.func70, Try.ntmps70
          go_wp2_with (first
  | ((with_reducible first | refine to_load 3 rfl ?_ ); refine Wl_load1 hS (fun _ => by rfl) _ _ rfl (scT _ rfl) ?_; (repeat (first | refine Look.here (of_decide_eq_true rfl) rfl ?_)); (with_reducible show wpList _ _ _ _ _ _); simp only [nA]))
          refine (is_any b _ h0 h1 _).mono ?_
          rintro e w1 ⟨rfl, rfl⟩
          go_wp2_with (first
  | ((with_reducible first | refine to_load 3 rfl ?_ ); refine Wl_load1 hS (fun _ => by rfl) _ _ rfl (scT _ rfl) ?_; (repeat (first | refine Look.here (of_decide_eq_true rfl) rfl ?_)); (with_reducible show wpList _ _ _ _ _ _); simp only [nA]))
          refine (is_any b _ h0 h1 _).mono ?_
          rintro e w1 ⟨rfl, rfl⟩
          go_wp2_with (first
  | ((with_reducible first | refine to_store 4 rfl ?_ ); (first | refine Wl_store1 hS (fun _ => by rfl) _ _ (.bool _) rfl rfl (scT _ rfl) rfl rfl ?_); (repeat (first | refine Turn1.here (of_decide_eq_true rfl) (of_decide_eq_true rfl) ?_)); clear hS; intro wW hS; (try simp only [nA]); try simp only [Nat.sub_zero, Nat.add_zero, Nat.zero_add, Nat.reduceSub, Nat.add_sub_cancel_left, rg_ss] at hS))
          go_returns
          exact RgOut.same (r' := { r with high := M.is b 3, auto := M.is b 5 }) hw hc hS (.head _)
        · have e1 : M.rBase r b = M.rCmd r b := by unfold M.rBase; rw [if_neg hb1, if_neg k0, if_neg k1, if_neg k2]
          have e2 : M.rBaseC b = b := if_pos (by omega)
          have k3 : b % 4 = 3 := by omega
          rw [e1, e2]
          clear e1 e2 k0 k1 k2
          have ht := fun W hW => dcommand_any B r hw A c hc b h0 h1 W hW
          generalize M.rCmd r b = R at ht ⊢
          have HT := Lib.hid ht
          clear ht
          go_enter Try.func70, Try.ntmps70
          go_wp2_with (first
  | ((with_reducible first | refine to_load 3 rfl ?_ ); refine Wl_load1 hS (fun _ => by rfl) _ _ rfl (scT _ rfl) ?_; (repeat (first | refine Look.here (of_decide_eq_true rfl) rfl ?_)); (with_reducible show wpList _ _ _ _ _ _); simp only [nA]))
          refine (HT.out _ (hS.rgAt (.head _))).mono ?_
          rintro e w1 ⟨A1, c1, rfl, hr, hl, ht⟩
          have hfA1 := fun e he => Nat.le_trans hS.size (hl.ent e he).1
          replace hS := hS.callTN (.head _ _ _ _ _) hr ht rfl hl
          simp only [List.cons_append, List.nil_append] at hS
          have hshA1 := hl.shp
          clear hr hl ht
          go_wp2_with (first
  | ((with_reducible first | refine to_load 3 rfl ?_ ); refine Wl_load1 hS (fun _ => by rfl) _ _ rfl (scT _ rfl) ?_; (repeat (first | refine Look.here (of_decide_eq_true rfl) rfl ?_)); (with_reducible show wpList _ _ _ _ _ _); simp only [nA]))
          go_returns
          exact ⟨A1, c1, rfl, hS.range (.head _), hS.lsF hshA1 hfA1 (fun e he => by repeat (first | exact he | refine List.Mem.tail _ ?_)), hS.touch⟩
end Go.Proofs.Ytkkkjdbcckaedaa
