/- The reference's DMA (charabancref22): Move, move, byteDone, alike, Take. -/
import Derived.Test.YtkkkjdbcckaedaaRmB
import Derived.Test.YtkkkjdbcckaedaaDmTake
namespace Go.Proofs.Ytkkkjdbcckaedaa
open Go.RowKit
set_option linter.unusedVariables false
set_option linter.unusedSimpArgs false
set_option maxRecDepth 100000
theorem M.move_is (x y : Int) (h0 : 0 ≤ x) (h1 : x ≤ 65535) : IntKind.u16.wrap ((wrap64 ((wrap64 (x + y.tmod 65536)).tmod 65536 + 65536)).tmod 65536) = (x + y) % 65536 := by
  have e1 := M.tmod_is y 65536 (by decide)
  have e2 : wrap64 (x + y.tmod 65536) = x + y.tmod 65536 := by
    simp only [wrap64]
    rw [e1]
    split <;> omega
  rw [e2]
  have e3 := M.tmod_is (x + y.tmod 65536) 65536 (by decide)
  have e4 : wrap64 ((x + y.tmod 65536).tmod 65536 + 65536) = (x + y.tmod 65536).tmod 65536 + 65536 := by
    simp only [wrap64]
    rw [e3]
    split <;> omega
  rw [e4]
  have e5 := M.tmod_is ((x + y.tmod 65536).tmod 65536 + 65536) 65536 (by decide)
  rw [e5, e3, e1]
  show (_ : Int) % 65536 = _
  split <;> split <;> split <;> omega
theorem rmove_any (x y : Int) (h0 : 0 ≤ x) (h1 : x ≤ 65535) (w : World) : Calls Try.prog 76 #[.int .u16 x, .int .i64 y] w fun e w' => e = .returned (.int .u16 ((x + y) % 65536)) ∧ w = w' := by
  have H := Lib.hid (M.move_is x y h0 h1)
  go_enter Try.func76, Try.ntmps76
  go_wp2
  go_ret
  exact ⟨ret_int H.out, rfl⟩
theorem rmmove_any (d : M.Dm) (hd : d.ok) (i : Bool) (A : Option Addr) (n c : Nat) (w : World) : Calls Try.prog 59 #[.agg (d.c (.slice A n c)), .bool i] w fun e w' => e = .returned (.agg ((M.dMove d i).c (.slice A n c))) ∧ Below w.heap.size w w' := by
  have hS := St.start w.heap.size 0 0 w
  cases i
  · have hm := fun W => rmove_any d.b d.p.bstep hd.b.1 hd.b.2 W
    rw [show M.dMove d false = { d with b := (d.b + d.p.bstep) % 65536 } from rfl]
    generalize (d.b + d.p.bstep) % 65536 = q at hm ⊢
    have HM := Lib.hid hm
    clear hm
    go_enter Try.func59, Try.ntmps59
    go_wp2_with (first
  | ((with_reducible first | refine to_load 3 rfl ?_ | refine to_load 4 rfl ?_ | refine to_load 5 rfl ?_ | refine to_load 24 rfl ?_ | refine to_load 25 rfl ?_); refine Wl_load1 hS (fun _ => by rfl) _ _ rfl (scT _ rfl) ?_; (repeat (first | refine Look.here (of_decide_eq_true rfl) rfl ?_ | refine Look.next ?_)); (with_reducible show wpList _ _ _ _ _ _); simp only [nA])
  | ((with_reducible first | refine to_store 3 rfl ?_ | refine to_store 4 rfl ?_ | refine to_store 5 rfl ?_ | refine to_store 24 rfl ?_); (first | refine Wl_store1 hS (fun _ => by rfl) _ _ (.int _ _) rfl rfl (scT _ rfl) rfl rfl ?_ | refine Wl_store1 hS (fun _ => by rfl) _ _ (.bool _) rfl rfl (scT _ rfl) rfl rfl ?_); (repeat (first | refine Turn1.here (of_decide_eq_true rfl) (of_decide_eq_true rfl) ?_ | refine Turn1.next ?_)); clear hS; intro wW hS; (try simp only [nA]); try simp only [Nat.sub_zero, Nat.add_zero, Nat.zero_add, Nat.reduceSub, Nat.add_sub_cancel_left, dm_ss] at hS)
  | ((with_reducible refine to_boxT 42 rfl ?_); refine Wl_box hS (fun _ => by rfl) _ rfl ?_; clear hS; intro b1 wW hS; simp only [nA])
  | ((with_reducible refine to_alloc 42 rfl ?_); refine Wl_alloc hS (fun _ => by rfl) _ rdmZ ?_; clear hS; intro b2 wW hS; simp only [nA])
  | ((with_reducible refine to_load 42 rfl ?_); refine Wl_load hS (fun _ => by rfl) _ _ rfl _ Try.underlying42 rfl ?_; (repeat (first | (refine Row.here ⟨(rdmI.trans rfl), ?_⟩) | refine Row.next ?_)); (with_reducible show wpList _ _ _ _ _ _); simp only [nA])
  | ((with_reducible refine to_store 42 rfl ?_); refine Wl_store hS (fun _ => by rfl) _ _ _ rfl rfl (rdmI.trans rfl) (dm_one _ _ _ _) ?_; (repeat (first | refine Turn.here rfl ?_ | refine Turn.next ?_)); clear hS; intro wW hS; try simp only [nA]))
    refine (HM.out _).mono ?_
    rintro e w1 ⟨rfl, rfl⟩
    go_wp2_with (first
  | ((with_reducible first | refine to_load 3 rfl ?_ | refine to_load 4 rfl ?_ | refine to_load 5 rfl ?_ | refine to_load 24 rfl ?_ | refine to_load 25 rfl ?_); refine Wl_load1 hS (fun _ => by rfl) _ _ rfl (scT _ rfl) ?_; (repeat (first | refine Look.here (of_decide_eq_true rfl) rfl ?_ | refine Look.next ?_)); (with_reducible show wpList _ _ _ _ _ _); simp only [nA])
  | ((with_reducible first | refine to_store 3 rfl ?_ | refine to_store 4 rfl ?_ | refine to_store 5 rfl ?_ | refine to_store 24 rfl ?_); (first | refine Wl_store1 hS (fun _ => by rfl) _ _ (.int _ _) rfl rfl (scT _ rfl) rfl rfl ?_ | refine Wl_store1 hS (fun _ => by rfl) _ _ (.bool _) rfl rfl (scT _ rfl) rfl rfl ?_); (repeat (first | refine Turn1.here (of_decide_eq_true rfl) (of_decide_eq_true rfl) ?_ | refine Turn1.next ?_)); clear hS; intro wW hS; (try simp only [nA]); try simp only [Nat.sub_zero, Nat.add_zero, Nat.zero_add, Nat.reduceSub, Nat.add_sub_cancel_left, dm_ss] at hS)
  | ((with_reducible refine to_boxT 42 rfl ?_); refine Wl_box hS (fun _ => by rfl) _ rfl ?_; clear hS; intro b1 wW hS; simp only [nA])
  | ((with_reducible refine to_alloc 42 rfl ?_); refine Wl_alloc hS (fun _ => by rfl) _ rdmZ ?_; clear hS; intro b2 wW hS; simp only [nA])
  | ((with_reducible refine to_load 42 rfl ?_); refine Wl_load hS (fun _ => by rfl) _ _ rfl _ Try.underlying42 rfl ?_; (repeat (first | (refine Row.here ⟨(rdmI.trans rfl), ?_⟩) | refine Row.next ?_)); (with_reducible show wpList _ _ _ _ _ _); simp only [nA])
  | ((with_reducible refine to_store 42 rfl ?_); refine Wl_store hS (fun _ => by rfl) _ _ _ rfl rfl (rdmI.trans rfl) (dm_one _ _ _ _) ?_; (repeat (first | refine Turn.here rfl ?_ | refine Turn.next ?_)); clear hS; intro wW hS; try simp only [nA]))
    refine ret_st hS rfl _ _ rfl rfl _ Try.underlying42 rfl ?_
    repeat (first | (refine Row.here ⟨rdmI.trans rfl, ?_⟩) | refine Row.next ?_)
    exact ⟨rfl, hS.below⟩
  · have hm := fun W => rmove_any d.a d.p.astep hd.a.1 hd.a.2 W
    rw [show M.dMove d true = { d with a := (d.a + d.p.astep) % 65536 } from rfl]
    generalize (d.a + d.p.astep) % 65536 = q at hm ⊢
    have HM := Lib.hid hm
    clear hm
    go_enter Try.func59, Try.ntmps59
    go_wp2_with (first
  | ((with_reducible first | refine to_load 3 rfl ?_ | refine to_load 4 rfl ?_ | refine to_load 5 rfl ?_ | refine to_load 24 rfl ?_ | refine to_load 25 rfl ?_); refine Wl_load1 hS (fun _ => by rfl) _ _ rfl (scT _ rfl) ?_; (repeat (first | refine Look.here (of_decide_eq_true rfl) rfl ?_ | refine Look.next ?_)); (with_reducible show wpList _ _ _ _ _ _); simp only [nA])
  | ((with_reducible first | refine to_store 3 rfl ?_ | refine to_store 4 rfl ?_ | refine to_store 5 rfl ?_ | refine to_store 24 rfl ?_); (first | refine Wl_store1 hS (fun _ => by rfl) _ _ (.int _ _) rfl rfl (scT _ rfl) rfl rfl ?_ | refine Wl_store1 hS (fun _ => by rfl) _ _ (.bool _) rfl rfl (scT _ rfl) rfl rfl ?_); (repeat (first | refine Turn1.here (of_decide_eq_true rfl) (of_decide_eq_true rfl) ?_ | refine Turn1.next ?_)); clear hS; intro wW hS; (try simp only [nA]); try simp only [Nat.sub_zero, Nat.add_zero, Nat.zero_add, Nat.reduceSub, Nat.add_sub_cancel_left, dm_ss] at hS)
  | ((with_reducible refine to_boxT 42 rfl ?_); refine Wl_box hS (fun _ => by rfl) _ rfl ?_; clear hS; intro b1 wW hS; simp only [nA])
  | ((with_reducible refine to_alloc 42 rfl ?_); refine Wl_alloc hS (fun _ => by rfl) _ rdmZ ?_; clear hS; intro b2 wW hS; simp only [nA])
  | ((with_reducible refine to_load 42 rfl ?_); refine Wl_load hS (fun _ => by rfl) _ _ rfl _ Try.underlying42 rfl ?_; (repeat (first | (refine Row.here ⟨(rdmI.trans rfl), ?_⟩) | refine Row.next ?_)); (with_reducible show wpList _ _ _ _ _ _); simp only [nA])
  | ((with_reducible refine to_store 42 rfl ?_); refine Wl_store hS (fun _ => by rfl) _ _ _ rfl rfl (rdmI.trans rfl) (dm_one _ _ _ _) ?_; (repeat (first | refine Turn.here rfl ?_ | refine Turn.next ?_)); clear hS; intro wW hS; try simp only [nA]))
    refine (HM.out _).mono ?_
    rintro e w1 ⟨rfl, rfl⟩
    go_wp2_with (first
  | ((with_reducible first | refine to_load 3 rfl ?_ | refine to_load 4 rfl ?_ | refine to_load 5 rfl ?_ | refine to_load 24 rfl ?_ | refine to_load 25 rfl ?_); refine Wl_load1 hS (fun _ => by rfl) _ _ rfl (scT _ rfl) ?_; (repeat (first | refine Look.here (of_decide_eq_true rfl) rfl ?_ | refine Look.next ?_)); (with_reducible show wpList _ _ _ _ _ _); simp only [nA])
  | ((with_reducible first | refine to_store 3 rfl ?_ | refine to_store 4 rfl ?_ | refine to_store 5 rfl ?_ | refine to_store 24 rfl ?_); (first | refine Wl_store1 hS (fun _ => by rfl) _ _ (.int _ _) rfl rfl (scT _ rfl) rfl rfl ?_ | refine Wl_store1 hS (fun _ => by rfl) _ _ (.bool _) rfl rfl (scT _ rfl) rfl rfl ?_); (repeat (first | refine Turn1.here (of_decide_eq_true rfl) (of_decide_eq_true rfl) ?_ | refine Turn1.next ?_)); clear hS; intro wW hS; (try simp only [nA]); try simp only [Nat.sub_zero, Nat.add_zero, Nat.zero_add, Nat.reduceSub, Nat.add_sub_cancel_left, dm_ss] at hS)
  | ((with_reducible refine to_boxT 42 rfl ?_); refine Wl_box hS (fun _ => by rfl) _ rfl ?_; clear hS; intro b1 wW hS; simp only [nA])
  | ((with_reducible refine to_alloc 42 rfl ?_); refine Wl_alloc hS (fun _ => by rfl) _ rdmZ ?_; clear hS; intro b2 wW hS; simp only [nA])
  | ((with_reducible refine to_load 42 rfl ?_); refine Wl_load hS (fun _ => by rfl) _ _ rfl _ Try.underlying42 rfl ?_; (repeat (first | (refine Row.here ⟨(rdmI.trans rfl), ?_⟩) | refine Row.next ?_)); (with_reducible show wpList _ _ _ _ _ _); simp only [nA])
  | ((with_reducible refine to_store 42 rfl ?_); refine Wl_store hS (fun _ => by rfl) _ _ _ rfl rfl (rdmI.trans rfl) (dm_one _ _ _ _) ?_; (repeat (first | refine Turn.here rfl ?_ | refine Turn.next ?_)); clear hS; intro wW hS; try simp only [nA]))
    refine ret_st hS rfl _ _ rfl rfl _ Try.underlying42 rfl ?_
    repeat (first | (refine Row.here ⟨rdmI.trans rfl, ?_⟩) | refine Row.next ?_)
    exact ⟨rfl, hS.below⟩
theorem rmalike_any (a b m : Int) (a0 : 0 ≤ a) (a1 : a ≤ 255) (b0 : 0 ≤ b) (b1 : b ≤ 255) (m0 : 0 ≤ m) (m1 : m ≤ 255) (w : World) : Calls Try.prog 60 #[.int .u8 a, .int .u8 b, .int .u8 m] w fun e w' => e = .returned (.bool (M.alike a b m)) ∧ w = w' := by
  go_enter Try.func60, Try.ntmps60
  go_wp2
  go_loop [7] (fun i => ∃ k : Nat, k ≤ 8 ∧ ((List.range k).all fun k : Nat => (M.bit a k == M.bit b k) || M.bit m k) = true ∧ i = .int .i64 k) (fun i => 8 - (intOf i).toNat)
  case atStart => exact ⟨0, Nat.zero_le _, rfl, rfl⟩
  case round =>
    obtain ⟨k, hk, hu, rfl⟩ := hrel
    by_cases hlt : k < 8
    · have ha := fun W => refis_any a (k : Int) a0 a1 W
      have hb := fun W => refis_any b (k : Int) b0 b1 W
      have hm := fun W => refis_any m (k : Int) m0 m1 W
      rw [M.is_bit a k hlt] at ha
      rw [M.is_bit b k hlt] at hb
      rw [M.is_bit m k hlt] at hm
      have hno : ((M.bit a k == M.bit b k) || M.bit m k) = false → M.alike a b m = false := fun h => by
        unfold M.alike
        rw [List.all_eq_false]
        exact ⟨k, List.mem_range.2 hlt, by rw [h]; decide⟩
      have hyes : ((M.bit a k == M.bit b k) || M.bit m k) = true → ((List.range (k + 1)).all fun k : Nat => (M.bit a k == M.bit b k) || M.bit m k) = true := fun h => by
        rw [List.range_succ, List.all_append, hu]
        simpa using h
      clear hu
      obtain ⟨x, hx⟩ : ∃ x, x = M.bit a k := ⟨_, rfl⟩
      obtain ⟨y, hy⟩ : ∃ x, x = M.bit b k := ⟨_, rfl⟩
      obtain ⟨z, hz⟩ : ∃ x, x = M.bit m k := ⟨_, rfl⟩
      rw [← hx] at ha
      rw [← hy] at hb
      rw [← hz] at hm
      rw [← hx, ← hy, ← hz] at hno hyes
      have HA := Lib.hid ha
      have HB := Lib.hid hb
      have HM := Lib.hid hm
      have HN := Lib.hid hno
      have HY := Lib.hid hyes
      clear ha hb hm hx hy hz hno hyes
      cases x <;> cases y <;> cases z
      all_goals
        go_wp2_with fail
        refine (HA.out _).mono ?_
        rintro e w1 ⟨rfl, rfl⟩
        go_wp2_with fail
        refine (HB.out _).mono ?_
        rintro e w1 ⟨rfl, rfl⟩
        go_wp2_with fail
        refine (HM.out _).mono ?_
        rintro e w1 ⟨rfl, rfl⟩
        go_wp2_with fail
        first
          | (go_round
             case rel => exact ⟨k + 1, by omega, HY.out rfl, by simp⟩
             case measure => simp [intOf]; omega)
          | (go_returns
             exact ⟨ret_bool (HN.out rfl).symm, rfl⟩)
    · obtain rfl : k = 8 := by omega
      have hs := Lib.hid (show M.alike a b m = true from hu)
      clear hu
      go_wp2
      go_ret
      exact ⟨ret_bool hs.out.symm, rfl⟩
end Go.Proofs.Ytkkkjdbcckaedaa
