/- The program's sums of words (wide.Add, Adc, Sbc), each by its contract: nothing that lay before is turned. -/
import Derived.Handy
import Derived.Deep.RegionHeld3
import Derived.WalkSpells
import Derived.Deep.DeepCutAuto
import Derived.Tactics2
import Derived.KernelRfl
import Derived.Test.YthidmlnoiginiaaPureSum
import Derived.Test.YthidmlnoiginiaaMath4
import Derived.Test.YthidmlnoiginiaaRef03
namespace Go.Proofs.Ythidmlnoiginiaa
open Go.RowKit
set_option linter.unusedVariables false

theorem sumadd_any (a b : Int) (c : Bool) (h0 : 0 ≤ a) (h1 : a ≤ 255) (h2 : 0 ≤ b) (h3 : b ≤ 255) (w : World) :
    Calls Try.prog 35 #[.int .u8 a, .int .u8 b, .bool c] w fun e w' => e = .returned (.tuple #[.int .u8 (M.addR a b c), .int .u8 (M.addF a b c)]) ∧ Below w.heap.size w w' :=
  PS.sum_Add.calls 6 a b c _ _ w (Pure.add_is 0 a b c h0 h1 h2 h3)
theorem sumsub_any (a b : Int) (c : Bool) (h0 : 0 ≤ a) (h1 : a ≤ 255) (h2 : 0 ≤ b) (h3 : b ≤ 255) (w : World) :
    Calls Try.prog 37 #[.int .u8 a, .int .u8 b, .bool c] w fun e w' => e = .returned (.tuple #[.int .u8 (M.subR a b c), .int .u8 (M.subF a b c)]) ∧ Below w.heap.size w w' :=
  PS.sum_Sub.calls 6 a b c _ _ w (Pure.sub_is 0 a b c h0 h1 h2 h3)
theorem lo_any (x : Int) (h0 : 0 ≤ x) (h1 : x ≤ 65535) (w : World) : Calls Try.prog 16 #[.int .u16 x] w fun e w' => e = .returned (.int .u8 (x % 256)) ∧ w = w' := by
  go_enter Try.func16, Try.ntmps16
  go_wp2
  go_ret
  exact ⟨rfl, rfl⟩
theorem hi_any (x : Int) (h0 : 0 ≤ x) (h1 : x ≤ 65535) (w : World) : Calls Try.prog 18 #[.int .u16 x] w fun e w' => e = .returned (.int .u8 (x / 256)) ∧ w = w' := by
  go_enter Try.func18, Try.ntmps18
  go_wp2
  go_ret
  exact ⟨rfl, rfl⟩
theorem word_is (x y : Int) (h0 : 0 ≤ x) (h1 : x ≤ 255) (h2 : 0 ≤ y) (h3 : y ≤ 255) : bits .or .u16 (x * 256) y = 256 * x + y := by
  obtain ⟨X, rfl⟩ := Int.eq_ofNat_of_zero_le h0
  obtain ⟨Y, rfl⟩ := Int.eq_ofNat_of_zero_le h2
  rw [show ((X : Int) * 256) = ((X * 256 : Nat) : Int) by omega, u16_or_nat _ _ (by omega) (by omega), nat_join 8 _ _ (by omega) (by omega)]
  omega
theorem word_any (x y : Int) (h0 : 0 ≤ x) (h1 : x ≤ 255) (h2 : 0 ≤ y) (h3 : y ≤ 255) (w : World) : Calls Try.prog 20 #[.int .u8 x, .int .u8 y] w fun e w' => e = .returned (.int .u16 (256 * x + y)) ∧ w = w' := by
  have H := Lib.hid (word_is x y h0 h1 h2 h3)
  go_enter Try.func20, Try.ntmps20
  go_wp2
  go_ret
  exact ⟨ret_int H.out, rfl⟩

theorem below_st {w X : World} (h : Below w.heap.size w X) {n j : Nat} (hn : w.heap.size ≤ n) (v : Value) : Below w.heap.size w (X.setCell ⟨n, j, none⟩ v) := h.setCell (p := ⟨n, j, none⟩) hn v
theorem below_al {w X : World} (h : Below w.heap.size w X) (o : Obj) : Below w.heap.size w (X.alloc o) := h.alloc h.size o
theorem cell_st {X : World} {n m j i : Nat} {v u : Value} (h : n ≠ m) (hc : X.cell? ⟨m, i, none⟩ = some v) : (X.setCell ⟨n, j, none⟩ u).cell? ⟨m, i, none⟩ = some v := by
  have hne : (⟨n, j, none⟩ : Addr) ≠ ⟨m, i, none⟩ := fun e => h (by injection e)
  rw [World.cell?_setCell_other]
  · exact hc
  · exact hne
theorem new_later {W w' : World} {v : Value} {t : TypeId} (h : Below (W.alloc (.cells #[v] t)).drew.heap.size (W.alloc (.cells #[v] t)).drew w') : w'.cell? ⟨W.heap.size, 0, none⟩ = some v ∧ w'.frozen? ⟨W.heap.size, 0, none⟩ = false := by
  have hb : (⟨W.heap.size, 0, none⟩ : Addr).block < (W.alloc (.cells #[v] t)).drew.heap.size := by simp
  rw [h.cell hb, h.frozen hb]
  constructor <;> simp
/-- What stands ready when the lower bytes are summed. -/
def Mid (fv : Value) (a b F : Int) (w : World) (p : Value) (W : World) : Prop :=
  ∃ g : Nat, p = .pointer (some ⟨g, 0, none⟩) ∧ W.cell? ⟨g, 0, none⟩ = some (.int .u8 F) ∧ W.cell? ⟨w.heap.size, 0, none⟩ = some fv ∧ W.cell? ⟨w.heap.size + 1, 0, none⟩ = some (.int .u16 a) ∧ W.cell? ⟨w.heap.size + 1 + 1, 0, none⟩ = some (.int .u16 b) ∧ Below w.heap.size w W

theorem held_add (x y : Int) (c : Bool) (h0 : 0 ≤ x) (h1 : x ≤ 255) (h2 : 0 ≤ y) (h3 : y ≤ 255) (a1 a2 a3 : Addr) (v1 v2 v3 : Value) (w W : World) (hS : W.cell? a1 = some v1 ∧ W.cell? a2 = some v2 ∧ W.cell? a3 = some v3 ∧ Below w.heap.size w W) :
    Calls Try.prog 35 #[.int .u8 x, .int .u8 y, .bool c] W fun e w' => e = .returned (.tuple #[.int .u8 (M.addR x y c), .int .u8 (M.addF x y c)]) ∧ (w'.cell? a1 = some v1 ∧ w'.cell? a2 = some v2 ∧ w'.cell? a3 = some v3 ∧ Below w.heap.size w w') ∧ Below W.heap.size W w' :=
  (sumadd_any x y c h0 h1 h2 h3 W).mono fun _ _ h => ⟨h.1, ⟨cell_later h.2 hS.1, cell_later h.2 hS.2.1, cell_later h.2 hS.2.2.1, bstep hS.2.2.2 h.2⟩, h.2⟩
theorem heldx_add (x y : Int) (c : Bool) (h0 : 0 ≤ x) (h1 : x ≤ 255) (h2 : 0 ≤ y) (h3 : y ≤ 255) (a1 a2 a3 a4 : Addr) (v1 v2 v3 v4 : Value) (w W : World) (hS : W.cell? a1 = some v1 ∧ W.cell? a2 = some v2 ∧ W.cell? a3 = some v3 ∧ W.cell? a4 = some v4 ∧ Below w.heap.size w W) :
    Calls Try.prog 35 #[.int .u8 x, .int .u8 y, .bool c] W fun e w' => e = .returned (.tuple #[.int .u8 (M.addR x y c), .int .u8 (M.addF x y c)]) ∧ (w'.cell? a1 = some v1 ∧ w'.cell? a2 = some v2 ∧ w'.cell? a3 = some v3 ∧ w'.cell? a4 = some v4 ∧ Below w.heap.size w w') :=
  (sumadd_any x y c h0 h1 h2 h3 W).mono fun _ _ h => ⟨h.1, cell_later h.2 hS.1, cell_later h.2 hS.2.1, cell_later h.2 hS.2.2.1, cell_later h.2 hS.2.2.2.1, bstep hS.2.2.2.2 h.2⟩
set_option maxHeartbeats 2000000 in
theorem higher_add (a b F : Int) (h0 : 0 ≤ a) (h1 : a ≤ 65535) (h2 : 0 ≤ b) (h3 : b ≤ 65535) (p1 p2 p3 p4 : Nat) (w : World) (k1 : w.cell? ⟨p1, 0, none⟩ = some (.func (.func 35) #[] #[])) (k2 : w.cell? ⟨p2, 0, none⟩ = some (.int .u16 a)) (k3 : w.cell? ⟨p3, 0, none⟩ = some (.int .u16 b)) (k4 : w.cell? ⟨p4, 0, none⟩ = some (.int .u8 F)) :
    Calls Try.prog 79 #[.pointer (some ⟨p1, 0, none⟩), .pointer (some ⟨p2, 0, none⟩), .pointer (some ⟨p3, 0, none⟩), .pointer (some ⟨p4, 0, none⟩)] w fun e w' =>
      e = .returned (.tuple #[.int .u8 (M.addR (a / 256) (b / 256) (bits .and .u8 F 1 != 0)), .int .u8 (M.addF (a / 256) (b / 256) (bits .and .u8 F 1 != 0))]) ∧ Below w.heap.size w w' := by
  have hB := Below.refl w.heap.size w
  have HA := Lib.hid (fun W => heldx_add (a / 256) (b / 256) (bits .and .u8 F 1 != 0) (by omega) (by omega) (by omega) (by omega) ⟨p1, 0, none⟩ ⟨p2, 0, none⟩ ⟨p3, 0, none⟩ ⟨p4, 0, none⟩ (.func (.func 35) #[] #[]) (.int .u16 a) (.int .u16 b) (.int .u8 F) w W)
  go_enter Try.func79, Try.ntmps79
  go_wp2_with fail
  go_region_held3 (fun W => W.cell? ⟨p1, 0, none⟩ = some (.func (.func 35) #[] #[]) ∧ W.cell? ⟨p2, 0, none⟩ = some (.int .u16 a) ∧ W.cell? ⟨p3, 0, none⟩ = some (.int .u16 b) ∧ W.cell? ⟨p4, 0, none⟩ = some (.int .u8 F) ∧ Below w.heap.size w W) (repeat' first | assumption | (with_reducible apply And.intro) | (with_reducible refine Below.drew ?_) | (with_reducible refine below_al ?_ _) | (with_reducible refine below_st ?_ (by omega) _) | (with_reducible refine cell_st (by omega) ?_) | (go_keep; done))
    (first | (go_at_call 18; refine (hi_any _ (by omega) (by omega) _).mono ?_; rintro e w' ⟨rfl, rfl⟩) | (go_at_call 35; refine (HA.out _ (by assumption)).mono ?_; rintro e w' ⟨rfl, l1, l2, l3, l4, hb1⟩))
  all_goals
    go_wp2_with fail
    go_ret2
    exact ⟨rfl, by assumption⟩
set_option maxHeartbeats 4000000 in
theorem both_add (a b : Int) (c : Bool) (h0 : 0 ≤ a) (h1 : a ≤ 65535) (h2 : 0 ≤ b) (h3 : b ≤ 65535) (w : World) :
    Calls Try.prog 72 #[.agg #[.func (.func 35) #[] #[]], .int .u16 a, .int .u16 b, .bool c] w fun e w' => e = .returned (.tuple #[.int .u16 (M.waddR a b c), .int .u8 (M.waddF a b c)]) ∧ Below w.heap.size w w' := by
  go_enter Try.func72, Try.ntmps72
  go_wp2_with fail
  have c1 : (((w.alloc (.cells #[.func (.func 35) #[] #[]] 64)).alloc (.cells #[.int .u16 a] 22)).alloc (.cells #[.int .u16 b] 22)).cell? ⟨w.heap.size, 0, none⟩ = some (.func (.func 35) #[] #[]) := by go_cell
  have c2 : (((w.alloc (.cells #[.func (.func 35) #[] #[]] 64)).alloc (.cells #[.int .u16 a] 22)).alloc (.cells #[.int .u16 b] 22)).cell? ⟨w.heap.size + 1, 0, none⟩ = some (.int .u16 a) := by go_cell
  have c3 : (((w.alloc (.cells #[.func (.func 35) #[] #[]] 64)).alloc (.cells #[.int .u16 a] 22)).alloc (.cells #[.int .u16 b] 22)).cell? ⟨w.heap.size + 1 + 1, 0, none⟩ = some (.int .u16 b) := by go_cell
  have hB : Below w.heap.size w (((w.alloc (.cells #[.func (.func 35) #[] #[]] 64)).alloc (.cells #[.int .u16 a] 22)).alloc (.cells #[.int .u16 b] 22)) := by go_grown
  have hz2 : w.heap.size + 1 + 1 < (((w.alloc (.cells #[.func (.func 35) #[] #[]] 64)).alloc (.cells #[.int .u16 a] 22)).alloc (.cells #[.int .u16 b] 22)).heap.size := by simp
  generalize (((w.alloc (.cells #[.func (.func 35) #[] #[]] 64)).alloc (.cells #[.int .u16 a] 22)).alloc (.cells #[.int .u16 b] 22)) = w3 at *
  have hz := hB.size
  have HA := Lib.hid (fun W => held_add (a % 256) (b % 256) c (by omega) (by omega) (by omega) (by omega) ⟨w.heap.size, 0, none⟩ ⟨w.heap.size + 1, 0, none⟩ ⟨w.heap.size + 1 + 1, 0, none⟩ (.func (.func 35) #[] #[]) (.int .u16 a) (.int .u16 b) w W)
  go_cut [10, 11] (fun lo p W => lo = .int .u8 (M.addR (a % 256) (b % 256) c) ∧ Mid (.func (.func 35) #[] #[]) a b (M.addF (a % 256) (b % 256) c) w p W)
  case first =>
    go_region_held3 (fun W => W.cell? ⟨w.heap.size, 0, none⟩ = some (.func (.func 35) #[] #[]) ∧ W.cell? ⟨w.heap.size + 1, 0, none⟩ = some (.int .u16 a) ∧ W.cell? ⟨w.heap.size + 1 + 1, 0, none⟩ = some (.int .u16 b) ∧ Below w.heap.size w W) (repeat' first | assumption | (with_reducible apply And.intro) | (with_reducible refine Below.drew ?_) | (with_reducible refine below_al ?_ _) | (with_reducible refine below_st ?_ (by omega) _) | (with_reducible refine cell_st (by omega) ?_) | (go_keep; done))
      (first | (go_at_call 16; refine (lo_any _ (by omega) (by omega) _).mono ?_; rintro e w' ⟨rfl, rfl⟩) | (go_at_call 35; refine (HA.out _ (by assumption)).mono ?_; rintro e w' ⟨rfl, ⟨k1, k2, k3, hb1⟩, hf1⟩; first | (with_reducible refine (fun (hk : _ ∧ _) => ?_) (new_later hf1); obtain ⟨k5, k6⟩ := hk) | skip))
    all_goals
      go_wp2_with fail
      go_meet
      refine ⟨rfl, _, rfl, ?_, by assumption⟩
      first | (simp; done) | exact World.cell?_setCell_same' _ _ _ (by simp [*])
  case rest =>
    obtain ⟨rfl, g, rfl, f1, f2, f3, f4, f5⟩ := hcut
    clear c1 c2 c3 hB hz2 hz HA
    have r1 := M.addR_range (a / 256) (b / 256) (bits .and .u8 (M.addF (a % 256) (b % 256) c) 1 != 0)
    have r2 := M.addR_range (a % 256) (b % 256) c
    go_wp2_with fail
    refine (higher_add a b _ h0 h1 h2 h3 _ _ _ _ _ f2 f3 f4 f1).mono ?_
    rintro e w2 ⟨rfl, hb2⟩
    replace hb2 := bstep f5 hb2
    clear f1 f2 f3 f4 f5
    go_wp2_with fail
    refine (word_any _ _ r1.1 r1.2 r2.1 r2.2 _).mono ?_
    rintro e w3 ⟨rfl, rfl⟩
    go_wp2_with fail
    all_goals
      go_ret2
      refine ⟨ret2 rfl ?_, hb2⟩
      unfold M.waddF M.waddR
      split <;> first | rfl | (exfalso; simp_all; done)
theorem held_sub (x y : Int) (c : Bool) (h0 : 0 ≤ x) (h1 : x ≤ 255) (h2 : 0 ≤ y) (h3 : y ≤ 255) (a1 a2 a3 : Addr) (v1 v2 v3 : Value) (w W : World) (hS : W.cell? a1 = some v1 ∧ W.cell? a2 = some v2 ∧ W.cell? a3 = some v3 ∧ Below w.heap.size w W) :
    Calls Try.prog 37 #[.int .u8 x, .int .u8 y, .bool c] W fun e w' => e = .returned (.tuple #[.int .u8 (M.subR x y c), .int .u8 (M.subF x y c)]) ∧ (w'.cell? a1 = some v1 ∧ w'.cell? a2 = some v2 ∧ w'.cell? a3 = some v3 ∧ Below w.heap.size w w') ∧ Below W.heap.size W w' :=
  (sumsub_any x y c h0 h1 h2 h3 W).mono fun _ _ h => ⟨h.1, ⟨cell_later h.2 hS.1, cell_later h.2 hS.2.1, cell_later h.2 hS.2.2.1, bstep hS.2.2.2 h.2⟩, h.2⟩
theorem heldx_sub (x y : Int) (c : Bool) (h0 : 0 ≤ x) (h1 : x ≤ 255) (h2 : 0 ≤ y) (h3 : y ≤ 255) (a1 a2 a3 a4 : Addr) (v1 v2 v3 v4 : Value) (w W : World) (hS : W.cell? a1 = some v1 ∧ W.cell? a2 = some v2 ∧ W.cell? a3 = some v3 ∧ W.cell? a4 = some v4 ∧ Below w.heap.size w W) :
    Calls Try.prog 37 #[.int .u8 x, .int .u8 y, .bool c] W fun e w' => e = .returned (.tuple #[.int .u8 (M.subR x y c), .int .u8 (M.subF x y c)]) ∧ (w'.cell? a1 = some v1 ∧ w'.cell? a2 = some v2 ∧ w'.cell? a3 = some v3 ∧ w'.cell? a4 = some v4 ∧ Below w.heap.size w w') :=
  (sumsub_any x y c h0 h1 h2 h3 W).mono fun _ _ h => ⟨h.1, cell_later h.2 hS.1, cell_later h.2 hS.2.1, cell_later h.2 hS.2.2.1, cell_later h.2 hS.2.2.2.1, bstep hS.2.2.2.2 h.2⟩
set_option maxHeartbeats 2000000 in
theorem higher_sub (a b F : Int) (h0 : 0 ≤ a) (h1 : a ≤ 65535) (h2 : 0 ≤ b) (h3 : b ≤ 65535) (p1 p2 p3 p4 : Nat) (w : World) (k1 : w.cell? ⟨p1, 0, none⟩ = some (.func (.func 37) #[] #[])) (k2 : w.cell? ⟨p2, 0, none⟩ = some (.int .u16 a)) (k3 : w.cell? ⟨p3, 0, none⟩ = some (.int .u16 b)) (k4 : w.cell? ⟨p4, 0, none⟩ = some (.int .u8 F)) :
    Calls Try.prog 79 #[.pointer (some ⟨p1, 0, none⟩), .pointer (some ⟨p2, 0, none⟩), .pointer (some ⟨p3, 0, none⟩), .pointer (some ⟨p4, 0, none⟩)] w fun e w' =>
      e = .returned (.tuple #[.int .u8 (M.subR (a / 256) (b / 256) (bits .and .u8 F 1 != 0)), .int .u8 (M.subF (a / 256) (b / 256) (bits .and .u8 F 1 != 0))]) ∧ Below w.heap.size w w' := by
  have hB := Below.refl w.heap.size w
  have HA := Lib.hid (fun W => heldx_sub (a / 256) (b / 256) (bits .and .u8 F 1 != 0) (by omega) (by omega) (by omega) (by omega) ⟨p1, 0, none⟩ ⟨p2, 0, none⟩ ⟨p3, 0, none⟩ ⟨p4, 0, none⟩ (.func (.func 37) #[] #[]) (.int .u16 a) (.int .u16 b) (.int .u8 F) w W)
  go_enter Try.func79, Try.ntmps79
  go_wp2_with fail
  go_region_held3 (fun W => W.cell? ⟨p1, 0, none⟩ = some (.func (.func 37) #[] #[]) ∧ W.cell? ⟨p2, 0, none⟩ = some (.int .u16 a) ∧ W.cell? ⟨p3, 0, none⟩ = some (.int .u16 b) ∧ W.cell? ⟨p4, 0, none⟩ = some (.int .u8 F) ∧ Below w.heap.size w W) (repeat' first | assumption | (with_reducible apply And.intro) | (with_reducible refine Below.drew ?_) | (with_reducible refine below_al ?_ _) | (with_reducible refine below_st ?_ (by omega) _) | (with_reducible refine cell_st (by omega) ?_) | (go_keep; done))
    (first | (go_at_call 18; refine (hi_any _ (by omega) (by omega) _).mono ?_; rintro e w' ⟨rfl, rfl⟩) | (go_at_call 37; refine (HA.out _ (by assumption)).mono ?_; rintro e w' ⟨rfl, l1, l2, l3, l4, hb1⟩))
  all_goals
    go_wp2_with fail
    go_ret2
    exact ⟨rfl, by assumption⟩
set_option maxHeartbeats 4000000 in
theorem both_sub (a b : Int) (c : Bool) (h0 : 0 ≤ a) (h1 : a ≤ 65535) (h2 : 0 ≤ b) (h3 : b ≤ 65535) (w : World) :
    Calls Try.prog 72 #[.agg #[.func (.func 37) #[] #[]], .int .u16 a, .int .u16 b, .bool c] w fun e w' => e = .returned (.tuple #[.int .u16 (M.wsubR a b c), .int .u8 (M.wsubF a b c)]) ∧ Below w.heap.size w w' := by
  go_enter Try.func72, Try.ntmps72
  go_wp2_with fail
  have c1 : (((w.alloc (.cells #[.func (.func 37) #[] #[]] 64)).alloc (.cells #[.int .u16 a] 22)).alloc (.cells #[.int .u16 b] 22)).cell? ⟨w.heap.size, 0, none⟩ = some (.func (.func 37) #[] #[]) := by go_cell
  have c2 : (((w.alloc (.cells #[.func (.func 37) #[] #[]] 64)).alloc (.cells #[.int .u16 a] 22)).alloc (.cells #[.int .u16 b] 22)).cell? ⟨w.heap.size + 1, 0, none⟩ = some (.int .u16 a) := by go_cell
  have c3 : (((w.alloc (.cells #[.func (.func 37) #[] #[]] 64)).alloc (.cells #[.int .u16 a] 22)).alloc (.cells #[.int .u16 b] 22)).cell? ⟨w.heap.size + 1 + 1, 0, none⟩ = some (.int .u16 b) := by go_cell
  have hB : Below w.heap.size w (((w.alloc (.cells #[.func (.func 37) #[] #[]] 64)).alloc (.cells #[.int .u16 a] 22)).alloc (.cells #[.int .u16 b] 22)) := by go_grown
  have hz2 : w.heap.size + 1 + 1 < (((w.alloc (.cells #[.func (.func 37) #[] #[]] 64)).alloc (.cells #[.int .u16 a] 22)).alloc (.cells #[.int .u16 b] 22)).heap.size := by simp
  generalize (((w.alloc (.cells #[.func (.func 37) #[] #[]] 64)).alloc (.cells #[.int .u16 a] 22)).alloc (.cells #[.int .u16 b] 22)) = w3 at *
  have hz := hB.size
  have HA := Lib.hid (fun W => held_sub (a % 256) (b % 256) c (by omega) (by omega) (by omega) (by omega) ⟨w.heap.size, 0, none⟩ ⟨w.heap.size + 1, 0, none⟩ ⟨w.heap.size + 1 + 1, 0, none⟩ (.func (.func 37) #[] #[]) (.int .u16 a) (.int .u16 b) w W)
  go_cut [10, 11] (fun lo p W => lo = .int .u8 (M.subR (a % 256) (b % 256) c) ∧ Mid (.func (.func 37) #[] #[]) a b (M.subF (a % 256) (b % 256) c) w p W)
  case first =>
    go_region_held3 (fun W => W.cell? ⟨w.heap.size, 0, none⟩ = some (.func (.func 37) #[] #[]) ∧ W.cell? ⟨w.heap.size + 1, 0, none⟩ = some (.int .u16 a) ∧ W.cell? ⟨w.heap.size + 1 + 1, 0, none⟩ = some (.int .u16 b) ∧ Below w.heap.size w W) (repeat' first | assumption | (with_reducible apply And.intro) | (with_reducible refine Below.drew ?_) | (with_reducible refine below_al ?_ _) | (with_reducible refine below_st ?_ (by omega) _) | (with_reducible refine cell_st (by omega) ?_) | (go_keep; done))
      (first | (go_at_call 16; refine (lo_any _ (by omega) (by omega) _).mono ?_; rintro e w' ⟨rfl, rfl⟩) | (go_at_call 37; refine (HA.out _ (by assumption)).mono ?_; rintro e w' ⟨rfl, ⟨k1, k2, k3, hb1⟩, hf1⟩; first | (with_reducible refine (fun (hk : _ ∧ _) => ?_) (new_later hf1); obtain ⟨k5, k6⟩ := hk) | skip))
    all_goals
      go_wp2_with fail
      go_meet
      refine ⟨rfl, _, rfl, ?_, by assumption⟩
      first | (simp; done) | exact World.cell?_setCell_same' _ _ _ (by simp [*])
  case rest =>
    obtain ⟨rfl, g, rfl, f1, f2, f3, f4, f5⟩ := hcut
    clear c1 c2 c3 hB hz2 hz HA
    have r1 := M.subR_range (a / 256) (b / 256) (bits .and .u8 (M.subF (a % 256) (b % 256) c) 1 != 0)
    have r2 := M.subR_range (a % 256) (b % 256) c
    go_wp2_with fail
    refine (higher_sub a b _ h0 h1 h2 h3 _ _ _ _ _ f2 f3 f4 f1).mono ?_
    rintro e w2 ⟨rfl, hb2⟩
    replace hb2 := bstep f5 hb2
    clear f1 f2 f3 f4 f5
    go_wp2_with fail
    refine (word_any _ _ r1.1 r1.2 r2.1 r2.2 _).mono ?_
    rintro e w3 ⟨rfl, rfl⟩
    go_wp2_with fail
    all_goals
      go_ret2
      refine ⟨ret2 rfl ?_, hb2⟩
      unfold M.wsubF M.wsubR
      split <;> first | rfl | (exfalso; simp_all; done)

theorem keep_any (a b c : Int) (w : World) : Calls Try.prog 71 #[.int .u8 a, .int .u8 b, .int .u8 c] w fun e w' => e = .returned (.int .u8 (bits .or .u8 (bits .andNot .u8 a c) (bits .and .u8 b c))) ∧ w = w' := by
  go_enter Try.func71, Try.ntmps71
  go_wp2
  go_ret
  exact ⟨rfl, rfl⟩
theorem wideadd_any (a b f : Int) (h0 : 0 ≤ a) (h1 : a ≤ 65535) (h2 : 0 ≤ b) (h3 : b ≤ 65535) (_h4 : 0 ≤ f) (_h5 : f ≤ 255) (w : World) :
    Calls Try.prog 48 #[.int .u16 a, .int .u16 b, .int .u8 f] w fun e w' => e = .returned (.tuple #[.int .u16 (M.waddR a b false), .int .u8 (bits .or .u8 (bits .andNot .u8 (M.waddF a b false) 196) (bits .and .u8 f 196))]) ∧ Below w.heap.size w w' := by
  go_enter Try.func48, Try.ntmps48
  go_wp2_with fail
  refine (both_add a b false h0 h1 h2 h3 _).mono ?_
  rintro e w1 ⟨rfl, hb⟩
  go_wp2_with fail
  refine (keep_any _ _ _ _).mono ?_
  rintro e w2 ⟨rfl, rfl⟩
  go_wp2_with fail
  go_ret2
  exact ⟨rfl, hb⟩
theorem wideadc_any (a b f : Int) (h0 : 0 ≤ a) (h1 : a ≤ 65535) (h2 : 0 ≤ b) (h3 : b ≤ 65535) (_h4 : 0 ≤ f) (_h5 : f ≤ 255) (w : World) :
    Calls Try.prog 50 #[.int .u16 a, .int .u16 b, .int .u8 f] w fun e w' => e = .returned (.tuple #[.int .u16 (M.waddR a b (bits .and .u8 f 1 != 0)), .int .u8 (M.waddF a b (bits .and .u8 f 1 != 0))]) ∧ Below w.heap.size w w' := by
  go_enter Try.func50, Try.ntmps50
  go_wp2_with fail
  refine (both_add a b _ h0 h1 h2 h3 _).mono ?_
  rintro e w1 ⟨rfl, hb⟩
  go_wp2_with fail
  go_ret2
  exact ⟨rfl, hb⟩
theorem widesbc_any (a b f : Int) (h0 : 0 ≤ a) (h1 : a ≤ 65535) (h2 : 0 ≤ b) (h3 : b ≤ 65535) (_h4 : 0 ≤ f) (_h5 : f ≤ 255) (w : World) :
    Calls Try.prog 52 #[.int .u16 a, .int .u16 b, .int .u8 f] w fun e w' => e = .returned (.tuple #[.int .u16 (M.wsubR a b (bits .and .u8 f 1 != 0)), .int .u8 (M.wsubF a b (bits .and .u8 f 1 != 0))]) ∧ Below w.heap.size w w' := by
  go_enter Try.func52, Try.ntmps52
  go_wp2_with fail
  refine (both_sub a b _ h0 h1 h2 h3 _).mono ?_
  rintro e w1 ⟨rfl, hb⟩
  go_wp2_with fail
  go_ret2
  exact ⟨rfl, hb⟩
end Go.Proofs.Ythidmlnoiginiaa
