/- The bits' functions and the reference's, by their contracts. -/
import Derived.Handy
import Derived.Lib.Hide
import Derived.Test.YtkkkjdbcckaedaaProg
import Derived.Test.YtkkkjdbcckaedaaZMath
import Derived.RangeFuncNested
import Derived.RangeFuncBound
import Derived.RangeFuncCalls
import Derived.RangeFuncLeaves
import Derived.RangeFuncFrom
import Derived.Shelf.Abstract
import Derived.Shelf.RegionOpen
import Derived.WalkKit
import Derived.OwnWalkIn
import Derived.TacticsInMore
import Derived.LoopNIn
import Derived.LoopIn
namespace Go.Proofs.Ytkkkjdbcckaedaa
open Go.RowKit
set_option linter.unusedVariables false

theorem ret_bool {a b : Bool} (h : a = b) : Ending.returned (.bool a) = .returned (.bool b) := by rw [h]
theorem ret_int {k : IntKind} {a b : Int} (h : a = b) : Ending.returned (.int k a) = .returned (.int k b) := by rw [h]

theorem is_any (b n : Int) (h0 : 0 ≤ b) (h1 : b ≤ 255) (w : World) : Calls Try.prog 77 #[.int .u8 b, .int .i64 n] w fun e w' => e = .returned (.bool (M.is b n)) ∧ w = w' := by
  by_cases hn : 0 ≤ n
  · by_cases h8 : n < 8
    · have hs := M.shr_bit b n.toNat h0 h1
      have hm : M.may n = true := by simp [M.may, hn, h8]
      have H := Lib.hid hs
      have Hm := Lib.hid hm
      clear hs hm
      go_enter Try.func77, Try.ntmps77
      go_wp2
      go_ret
      exact ⟨ret_bool (by rw [M.is, Hm.out, Bool.true_and]; exact H.out), rfl⟩
    · go_enter Try.func77, Try.ntmps77
      go_wp2
      go_ret
      exact ⟨ret_bool (by simp [M.is, M.may]; omega), rfl⟩
  · go_enter Try.func77, Try.ntmps77
    go_wp2
    go_ret
    exact ⟨ret_bool (by simp [M.is, M.may]; omega), rfl⟩
end Go.Proofs.Ytkkkjdbcckaedaa
namespace Go.Proofs.Ytkkkjdbcckaedaa
open Go.RowKit
set_option linter.unusedVariables false

theorem power_any (n : Int) (h0 : 0 ≤ n) (h1 : n ≤ 7) (w : World) : Calls Try.prog 68 #[.int .i64 n] w fun e w' => e = .returned (.int .i64 (2 ^ n.toNat)) ∧ w = w' := by
  have hn : n = 0 ∨ n = 1 ∨ n = 2 ∨ n = 3 ∨ n = 4 ∨ n = 5 ∨ n = 6 ∨ n = 7 := by omega
  rcases hn with rfl | rfl | rfl | rfl | rfl | rfl | rfl | rfl
  all_goals
    go_enter Try.func68, Try.ntmps68
    go_wp2
    go_rounds 9
    go_ret
    exact ⟨rfl, rfl⟩
theorem is_form (b : Int) (k : Nat) (hk : k < 8) : (b / 2 ^ k % 2 == 1) = M.is b k := by
  unfold M.is M.may
  rw [decide_eq_true (show (0 : Int) ≤ k by omega), decide_eq_true (show (k : Int) < 8 by omega)]
  rfl
set_option maxHeartbeats 1000000 in
theorem refis_any (b n : Int) (h0 : 0 ≤ b) (h1 : b ≤ 255) (w : World) : Calls Try.prog 61 #[.int .u8 b, .int .i64 n] w fun e w' => e = .returned (.bool (M.is b n)) ∧ w = w' := by
  by_cases hn : 0 ≤ n
  · by_cases h8 : n < 8
    · have hn : n = 0 ∨ n = 1 ∨ n = 2 ∨ n = 3 ∨ n = 4 ∨ n = 5 ∨ n = 6 ∨ n = 7 := by omega
      clear h8
      rcases hn with rfl | rfl | rfl | rfl | rfl | rfl | rfl | rfl
      all_goals
        go_enter Try.func61, Try.ntmps61
        go_wp2_with (go_at_call 68; refine (power_any _ (by omega) (by omega) _).mono ?_; rintro e w' ⟨rfl, rfl⟩)
        go_ret
      · exact ⟨ret_bool (by have := is_form b 0 (by omega); simpa using this), rfl⟩
      · exact ⟨ret_bool (is_form b 1 (by omega)), rfl⟩
      · exact ⟨ret_bool (is_form b 2 (by omega)), rfl⟩
      · exact ⟨ret_bool (is_form b 3 (by omega)), rfl⟩
      · exact ⟨ret_bool (is_form b 4 (by omega)), rfl⟩
      · exact ⟨ret_bool (is_form b 5 (by omega)), rfl⟩
      · exact ⟨ret_bool (is_form b 6 (by omega)), rfl⟩
      · exact ⟨ret_bool (is_form b 7 (by omega)), rfl⟩
    · have ho := Lib.hid (M.is_out (a := b) (n := n) (by omega))
      go_enter Try.func61, Try.ntmps61
      go_wp2
      go_ret
      exact ⟨ret_bool ho.out.symm, rfl⟩
  · have ho := Lib.hid (M.is_out (a := b) (n := n) (by omega))
    go_enter Try.func61, Try.ntmps61
    go_wp2
    go_ret
    exact ⟨ret_bool ho.out.symm, rfl⟩
set_option maxHeartbeats 2000000 in
theorem refwith_any (b n : Int) (on : Bool) (h0 : 0 ≤ b) (h1 : b ≤ 255) (w : World) : Calls Try.prog 40 #[.int .u8 b, .int .i64 n, .bool on] w fun e w' => e = .returned (.int .u8 (M.withB b n on)) ∧ w = w' := by
  by_cases hn : 0 ≤ n
  · by_cases h8 : n ≤ 7
    · have hC := fun W => refis_any b n h0 h1 W
      cases hb : M.is b n with
      | true =>
        obtain ⟨e1, e2, e3⟩ := M.with_yes b n h0 h1 hn h8 hb
        simp only [hb] at hC
        have HC := Lib.hid hC
        have E1 := Lib.hid e1
        have E2 := Lib.hid e2
        have hp := power_any n hn h8
        obtain ⟨q, hq⟩ : ∃ q : Int, q = 2 ^ n.toNat := ⟨_, rfl⟩
        rw [← hq] at e3
        simp only [← hq] at hp
        have Hp := Lib.hid hp
        have Hq := Lib.hid hq
        have hq0 : 0 ≤ q := by rw [hq]; exact Int.pow_nonneg (by decide)
        clear hb hC e1 e2 hp hq
        cases on
        all_goals
          go_enter Try.func40, Try.ntmps40
          go_wp2_with (first | (go_at_call 61; refine (HC.out _).mono ?_; rintro e w' ⟨rfl, rfl⟩) | (go_at_call 68; refine (Hp.out _).mono ?_; rintro e w' ⟨rfl, rfl⟩))
          go_ret
        · exact ⟨ret_int (by rw [E2.out, ← Hq.out]), rfl⟩
        · exact ⟨ret_int (by rw [E1.out]), rfl⟩
      | false =>
        obtain ⟨e1, e2, e3⟩ := M.with_no b n h0 h1 hn h8 hb
        simp only [hb] at hC
        have HC := Lib.hid hC
        have E1 := Lib.hid e1
        have E2 := Lib.hid e2
        have hp := power_any n hn h8
        obtain ⟨q, hq⟩ : ∃ q : Int, q = 2 ^ n.toNat := ⟨_, rfl⟩
        rw [← hq] at e3
        simp only [← hq] at hp
        have Hp := Lib.hid hp
        have Hq := Lib.hid hq
        have hq0 : 0 ≤ q := by rw [hq]; exact Int.pow_nonneg (by decide)
        clear hb hC e1 e2 hp hq
        cases on
        all_goals
          go_enter Try.func40, Try.ntmps40
          go_wp2_with (first | (go_at_call 61; refine (HC.out _).mono ?_; rintro e w' ⟨rfl, rfl⟩) | (go_at_call 68; refine (Hp.out _).mono ?_; rintro e w' ⟨rfl, rfl⟩))
          go_ret
        · exact ⟨ret_int (by rw [E2.out]), rfl⟩
        · exact ⟨ret_int (by rw [E1.out, ← Hq.out]), rfl⟩
    · have ho := Lib.hid (M.with_out (a := b) (n := n) (by omega) on)
      go_enter Try.func40, Try.ntmps40
      go_wp2
      go_ret
      exact ⟨ret_int ho.out.symm, rfl⟩
  · have ho := Lib.hid (M.with_out (a := b) (n := n) (by omega) on)
    go_enter Try.func40, Try.ntmps40
    go_wp2
    go_ret
    exact ⟨ret_int ho.out.symm, rfl⟩
end Go.Proofs.Ytkkkjdbcckaedaa
namespace Go.Proofs.Ytkkkjdbcckaedaa
open Go.RowKit Go.Shelf

attribute [local go_sem] Oper.semAt_some
set_option linter.unusedVariables false

theorem cell_new_l (W : World) (v : Value) (t : TypeId) : (W.alloc (.cells #[v] t)).cell? ⟨W.heap.size, 0, none⟩ = some v ∧ (W.alloc (.cells #[v] t)).frozen? ⟨W.heap.size, 0, none⟩ = false := by
  constructor <;> simp
theorem cell_alloc_l {W : World} {a : Addr} {v : Value} (o : Obj) (h : W.cell? a = some v) : (W.alloc o).cell? a = some v := cell_kept h (World.grownBy_alloc W o none) (fun r e => by cases e)
theorem frozen_alloc_l {W : World} {a : Addr} {v : Value} (o : Obj) (h : W.cell? a = some v) (hf : W.frozen? a = false) : (W.alloc o).frozen? a = false := (frozen_kept h (World.grownBy_alloc W o none) (fun r e => by cases e)).trans hf

/-- One cell reads as it read. -/
def KeepsCell (B : Nat) (W W' : World) : Prop := ∀ v, W.cell? ⟨B, 0, none⟩ = some v → W'.cell? ⟨B, 0, none⟩ = some v
theorem keepsCell_t {B : Nat} {X Y Z : World} (h : KeepsCell B X Y) (k : KeepsCell B Y Z) : KeepsCell B X Z := fun v hv => k v (h v hv)
theorem keepsCell_b {B : Nat} {w : World} (W : World) (l : Nat) (o o' : Obj) (_ : w.heap.size ≤ l) (h : W.heap[l]? = some o) (ho : o.isCells = false) (_ : o.isWalk = false) : KeepsCell B W (W.putObj l o') :=
  fun v hv => cell_kept hv (grownBy_putObj' W l o') (fun r e => by cases e; exact ⟨o, h, ho⟩)

set_option maxRecDepth 100000 in
set_option maxHeartbeats 2000000 in
theorem set1_in (F : Fence) (n : Nat) (hf : F.fn 78) (hIs : F.fn 77) (hro : F.round = none) (hn : 2 ≤ n) (l Bb : Nat) (b : Int)
    (hC : ∀ (k : Nat) (W' : World), CallsIn F (n - 1) Try.prog 77 #[.int .u8 b, .int .i64 (k : Int)] W' fun e w' => e = .returned (.bool (M.is b k)) ∧ W' = w') (J Jx : List Int → World → Prop)
    (hY : ∀ pre x W, J pre W → pre.length < 8 → YieldAt F (n - 1) Try.prog l #[.int .i64 x] W fun e W' =>
      (e = .returned (.bool true) ∧ J (pre ++ [x]) W' ∧ KeepsCell Bb W W') ∨ (e = .returned (.bool false) ∧ Jx (pre ++ [x]) W'))
    (W : World) (hBb : W.cell? ⟨Bb, 0, none⟩ = some (.int .u8 b)) (h0 : J [] W) :
    CallsIn F n Try.prog 78 #[.func (.yield l) #[] #[], .pointer (some ⟨Bb, 0, none⟩)] W fun e W' => (∃ v, e = .returned v) ∧
      ((∃ ys, ys = M.upto b 8 ∧ J ys W') ∨ (∃ pre, (∃ k, k ≤ 8 ∧ pre = M.upto b k) ∧ Jx pre W')) := by
  have h1 : 1 ≤ n := by omega
  have HC := Lib.hid hC
  clear hC
  refine callsIn_of_wp Try.func78 rfl hf ?_ hro
  simp only [Try.ntmps78, List.size_toArray, List.length_cons, List.length_nil, Nat.reduceAdd, Nat.reduceSub, Array.replicate_succ, Array.replicate_zero, List.push_toArray, List.append_toArray, List.nil_append, List.cons_append]
  gi_wp2
  gi_loopw [4] (fun i wr => ∃ k : Nat, k ≤ 8 ∧ i = .int .i64 k ∧ J (M.upto b k) wr ∧ wr.cell? ⟨Bb, 0, none⟩ = some (.int .u8 b))
    (fun i _ => 8 - (intOf i).toNat)
  case atStart => exact ⟨0, Nat.zero_le _, rfl, h0, hBb⟩
  case round =>
    obtain ⟨k, hk, rfl, hJs, hcx⟩ := hrel
    by_cases hlt : k < 8
    · have hc := HC.out k
      have hm : M.is b k = M.bit b k := by simp [M.is, M.may]; omega
      cases hbit : M.bit b k with
      | true =>
        obtain ⟨fn, tmps, assign, body, hy, hR⟩ := hY _ (k : Int) wr hJs (by have := M.upto_len b k; omega)
        rw [hbit] at hm
        simp only [hm] at hc
        have hup := Lib.hid (M.upto_yes hbit)
        have Hc := Lib.hid hc
        clear hm hbit hc
        gi_wp2_with (gi_at_call 77; refine (Hc.out _).mono ?_; rintro e w' ⟨rfl, rfl⟩)
        refine hR.mono ?_
        rintro e W3 (⟨rfl, hJ3, hk3⟩ | ⟨rfl, hJx3⟩)
        · have hcx3 := hk3 _ hcx
          gi_wp2
          go_roundw
          case rel => exact ⟨k + 1, by omega, by simp, by rw [hup.out]; exact hJ3, hcx3⟩
          case measure => simp [intOf]; omega
        · gi_wp2
          refine bodyPost_ret (results_none rfl _ _ _) rfl ?_
          exact ⟨⟨_, rfl⟩, .inr ⟨_, ⟨k + 1, by omega, hup.out.symm⟩, hJx3⟩⟩
      | false =>
        rw [hbit] at hm
        simp only [hm] at hc
        have hup := Lib.hid (M.upto_no hbit)
        have Hc := Lib.hid hc
        clear hm hbit hc
        gi_wp2_with (gi_at_call 77; refine (Hc.out _).mono ?_; rintro e w' ⟨rfl, rfl⟩)
        refine ⟨fun _ h => (by cases h), ?_⟩
        gi_wp2
        go_roundw
        case rel => exact ⟨k + 1, by omega, by simp, by rw [hup.out]; exact hJs, hcx⟩
        case measure => simp [intOf]; omega
    · obtain rfl : k = 8 := by omega
      gi_wp2
      go_end0
      exact ⟨⟨_, rfl⟩, .inl ⟨_, rfl, hJs⟩⟩

/-- THE ITERATOR's CONTRACT, AT THE WIDE FENCE. -/
theorem set_stops (Bb : Nat) (b : Int) (hb0 : 0 ≤ b) (hb1 : b ≤ 255) (w : World) (hB : Bb < w.heap.size) (hBb : w.cell? ⟨Bb, 0, none⟩ = some (.int .u8 b)) :
    SeqStopsK Fence.wide 2 Try.prog 78 #[.pointer (some ⟨Bb, 0, none⟩)] (fun x : Int => #[Value.int .i64 x]) (KeepsCell Bb) (fun xs => xs = M.upto b 8) (fun pre => ∃ k, k ≤ 8 ∧ pre = M.upto b k) 8 w := by
  intro l J Jx W hW _ _ hY h0
  exact set1_in Fence.wide 2 trivial trivial rfl (by omega) l Bb b (fun k W' => callsIn_wide.2 (is_any b k hb0 hb1 W')) J Jx hY W ((hW.cell (p := ⟨Bb, 0, none⟩) hB).trans hBb) h0

theorem set_any (b : Int) (w : World) : Calls Try.prog 66 #[.int .u8 b] w fun e w' => e = .returned (.func (.func 78) #[] #[.pointer (some ⟨w.heap.size, 0, none⟩)]) ∧ w.alloc (.cells #[.int .u8 b] 5) = w' := by
  go_enter Try.func66, Try.ntmps66
  go_wp2
  go_ret
  exact ⟨rfl, rfl⟩

set_option maxRecDepth 100000 in
set_option maxHeartbeats 2000000 in
theorem first_in (F : Fence) (n : Nat) (hf : F.fn 35) (hs : F.fn 66) (hs1 : F.fn 78) (hro : F.round = none) (hn : 3 ≤ n) (b : Int)
    (hC : ∀ W', CallsIn F (n - 1) Try.prog 66 #[.int .u8 b] W' fun e w' => e = .returned (.func (.func 78) #[] #[.pointer (some ⟨W'.heap.size, 0, none⟩)]) ∧ W'.alloc (.cells #[.int .u8 b] 5) = w')
    (hS : ∀ (Bb : Nat) (w : World), Bb < w.heap.size → w.cell? ⟨Bb, 0, none⟩ = some (.int .u8 b) → SeqStopsK F (n - 1) Try.prog 78 #[.pointer (some ⟨Bb, 0, none⟩)] (fun x : Int => #[Value.int .i64 x]) (KeepsCell Bb) (fun xs => xs = M.upto b 8) (fun pre => ∃ k, k ≤ 8 ∧ pre = M.upto b k) 8 w)
    (w : World) :
    CallsIn F n Try.prog 35 #[.int .u8 b] w fun e W' => e = .returned (.int .i64 (M.firstB b)) ∧ Below w.heap.size w W' := by
  have h1 : 1 ≤ n := by omega
  have HC := Lib.hid hC
  have HS := Lib.hid hS
  clear hC hS
  refine callsIn_of_wp_marks Try.func35 rfl hf ?_ hro
  simp only [Try.ntmps35, List.size_toArray, List.length_cons, List.length_nil, Nat.reduceAdd, Nat.reduceSub, Array.replicate_succ, Array.replicate_zero, List.push_toArray, List.append_toArray, List.nil_append, List.cons_append]
  gi_wp2_with (gi_at_call 66; refine (HC.out _).mono ?_; rintro e w' ⟨rfl, rfl⟩)
  have hs := cell_new_l w (.int .i64 0) 3
  have hb := cell_new_l (w.alloc (.cells #[.int .i64 0] 3)) (.int .u8 b) 5
  rw [World.size_alloc] at hb
  have hB0 : Below w.heap.size w ((w.alloc (.cells #[.int .i64 0] 3)).alloc (.cells #[.int .u8 b] 5)) := ((Below.refl _ w).alloc (Nat.le_refl _) _).alloc (by simp) _
  refine wpIn_rangeFunc_ownF hro h1 (gf := 78) (lb := #[.pointer (some ⟨w.heap.size + 1, 0, none⟩)]) rfl hs1 (enters_of Try.func78 (by kernel_rfl) rfl)
    (HS.out (w.heap.size + 1) _ (by simp) hb.1) keepsCell_t keepsCell_b (Below.refl _ _) (fun _ => rfl)
    (fun pre W => (pre = [] ∧ W.cell? ⟨w.heap.size, 0, none⟩ = some (.int .i64 0) ∧ W.frozen? ⟨w.heap.size, 0, none⟩ = false) ∧ Below w.heap.size w W)
    (fun c pre W => (c = .ret ∧ ∃ x : Int, pre = [x] ∧ W.cell? ⟨w.heap.size, 0, none⟩ = some (.int .i64 x)) ∧ Below w.heap.size w W)
    (OwnFrom.and (Own.from (fun s A B row hs hg hr => ⟨hs.1, cell_kept hs.2.1 hg hr, (frozen_kept hs.2.1 hg hr).trans hs.2.2⟩) _) (ownFrom_below (Nat.le_refl _) (by simp; omega)))
    (fun c => OwnFrom.and (Own.from (fun s A B row hs hg hr => by obtain ⟨hc, x, hx, hcell⟩ := hs; exact ⟨hc, x, hx, cell_kept hcell hg hr⟩) _) (ownFrom_below (Nat.le_refl _) (by simp; omega)))
    ⟨⟨rfl, cell_alloc_l _ hs.1, frozen_alloc_l _ hs.1 hs.2⟩, hB0⟩
    (fun x => { tmps := #[.int .u8 b, undef, .pointer (some ⟨w.heap.size, 0, none⟩), .int .i64 x, .int .u8 b, .func (.func 78) #[] #[.pointer (some ⟨w.heap.size + 1, 0, none⟩)], .int .i64 x, undef], defers := [] }) ?assign ?body ?done ?stop
  case assign =>
    intro l x W K hK
    gi_wp2
    exact hK
  case body =>
    rintro l pre x W ⟨⟨rfl, hc, hf⟩, hB⟩ _
    gi_wp2
    exact ⟨KeepsOthers.setCell _ _ _, ⟨rfl, x, rfl, World.cell?_setCell_same' _ _ _ (by rw [hc]; rfl)⟩, hB.setCell (p := ⟨w.heap.size, 0, none⟩) (Nat.le_refl _) _⟩
  case done =>
    rintro D ys W hD hys ⟨⟨rfl, hcr, hfr⟩, hB⟩ hK
    gi_wp2
    have hK' := (KeepsOthers.setCell W ⟨w.heap.size, 0, none⟩ (.int .i64 (-1))).same D _ hK rfl
    refine ⟨by simp, .inl ⟨_, _, rfl, run_takeDeferred hK', ?_⟩⟩
    have hc5 := cell_kept (World.cell?_setCell_same' W ⟨w.heap.size, 0, none⟩ (.int .i64 (-1)) (by rw [hcr]; rfl)) (grownBy_putObj' _ D (.deferred none)) (fun r e => by cases e; exact ⟨_, hK', rfl⟩)
    refine ⟨.int .i64 (-1), ?_, ret_int (by unfold M.firstB; rw [← hys]), (hB.setCell (p := ⟨w.heap.size, 0, none⟩) (by simp) _).trans (belowK_b (w := w) (Nat.le_refl _) _ D _ _ (by simp at hD; omega) hK' rfl rfl)⟩
    simp [results, Try.f35, go_sem, hc5]
  case stop =>
    rintro D c pre W hD ⟨k, hk, hpre⟩ ⟨⟨rfl, x, rfl, hcr⟩, hB⟩ hK
    gi_wp2
    refine ⟨by simp, .inl ⟨_, _, rfl, run_takeDeferred hK, ?_⟩⟩
    have hc5 := cell_kept hcr (grownBy_putObj' _ D (.deferred none)) (fun r e => by cases e; exact ⟨_, hK, rfl⟩)
    refine ⟨.int .i64 x, ?_, ret_int (M.first_of hk hpre).symm, hB.trans (belowK_b (w := w) (Nat.le_refl _) W D _ _ (by simp at hD; omega) hK rfl rfl)⟩
    simp [results, Try.f35, go_sem, hc5]

theorem first_any (b : Int) (hb0 : 0 ≤ b) (hb1 : b ≤ 255) (w : World) : Calls Try.prog 35 #[.int .u8 b] w fun e W' => e = .returned (.int .i64 (M.firstB b)) ∧ Below w.heap.size w W' :=
  (callsIn_wide (n := 3)).1 (first_in Fence.wide 3 trivial trivial trivial rfl (by omega) b (fun W' => callsIn_wide.2 (set_any b W')) (fun Bb w hB hBb => set_stops Bb b hb0 hb1 w hB hBb) w)
end Go.Proofs.Ytkkkjdbcckaedaa
namespace Go.Proofs.Ytkkkjdbcckaedaa
open Go.RowKit
set_option linter.unusedVariables false
set_option linter.unusedSimpArgs false
set_option maxRecDepth 100000
theorem M.with_lits : ∀ n : Fin 256, ∀ k : Fin 8, bits .or .u8 (n.val : Int) (2 ^ k.val) = M.withB (n.val : Int) (k.val : Int) true ∧ bits .andNot .u8 (n.val : Int) (2 ^ k.val) = M.withB (n.val : Int) (k.val : Int) false := by decide +kernel
set_option maxHeartbeats 4000000 in
theorem with_any (b n : Int) (on : Bool) (h0 : 0 ≤ b) (h1 : b ≤ 255) (w : World) : Calls Try.prog 36 #[.int .u8 b, .int .i64 n, .bool on] w fun e w' => e = .returned (.int .u8 (M.withB b n on)) ∧ w = w' := by
  by_cases hn : 0 ≤ n ∧ n ≤ 7
  · obtain ⟨x, hx⟩ := M.fin_of h0 h1
    have t := fun k => M.with_lits x k
    rw [← hx] at t
    have hn8 : n = 0 ∨ n = 1 ∨ n = 2 ∨ n = 3 ∨ n = 4 ∨ n = 5 ∨ n = 6 ∨ n = 7 := by omega
    clear hx hn
    rcases hn8 with rfl | rfl | rfl | rfl | rfl | rfl | rfl | rfl
    · have T := Lib.hid (t 0)
      clear t
      cases on <;> (go_enter Try.func36, Try.ntmps36; go_wp2; go_ret)
      · exact ⟨ret_int T.out.2, rfl⟩
      · exact ⟨ret_int T.out.1, rfl⟩
    · have T := Lib.hid (t 1)
      clear t
      cases on <;> (go_enter Try.func36, Try.ntmps36; go_wp2; go_ret)
      · exact ⟨ret_int T.out.2, rfl⟩
      · exact ⟨ret_int T.out.1, rfl⟩
    · have T := Lib.hid (t 2)
      clear t
      cases on <;> (go_enter Try.func36, Try.ntmps36; go_wp2; go_ret)
      · exact ⟨ret_int T.out.2, rfl⟩
      · exact ⟨ret_int T.out.1, rfl⟩
    · have T := Lib.hid (t 3)
      clear t
      cases on <;> (go_enter Try.func36, Try.ntmps36; go_wp2; go_ret)
      · exact ⟨ret_int T.out.2, rfl⟩
      · exact ⟨ret_int T.out.1, rfl⟩
    · have T := Lib.hid (t 4)
      clear t
      cases on <;> (go_enter Try.func36, Try.ntmps36; go_wp2; go_ret)
      · exact ⟨ret_int T.out.2, rfl⟩
      · exact ⟨ret_int T.out.1, rfl⟩
    · have T := Lib.hid (t 5)
      clear t
      cases on <;> (go_enter Try.func36, Try.ntmps36; go_wp2; go_ret)
      · exact ⟨ret_int T.out.2, rfl⟩
      · exact ⟨ret_int T.out.1, rfl⟩
    · have T := Lib.hid (t 6)
      clear t
      cases on <;> (go_enter Try.func36, Try.ntmps36; go_wp2; go_ret)
      · exact ⟨ret_int T.out.2, rfl⟩
      · exact ⟨ret_int T.out.1, rfl⟩
    · have T := Lib.hid (t 7)
      clear t
      cases on <;> (go_enter Try.func36, Try.ntmps36; go_wp2; go_ret)
      · exact ⟨ret_int T.out.2, rfl⟩
      · exact ⟨ret_int T.out.1, rfl⟩
  · have ho := Lib.hid (M.with_out (a := b) (n := n) (by omega) on)
    by_cases hn0 : 0 ≤ n
    · have h8 : ¬ n < 8 := by omega
      clear hn
      go_enter Try.func36, Try.ntmps36
      go_wp2
      go_ret
      exact ⟨ret_int ho.out.symm, rfl⟩
    · go_enter Try.func36, Try.ntmps36
      go_wp2
      go_ret
      exact ⟨ret_int ho.out.symm, rfl⟩
theorem M.first_at {b : Int} {k : Nat} (hk : k < 8) (hx : M.upto b k = []) (hj : M.bit b k = true) : M.firstB b = (k : Int) := by
  refine M.first_of (k := k + 1) (by omega) ?_
  rw [M.upto_yes hj, hx]
  rfl
theorem M.first_none {b : Int} (hx : M.upto b 8 = []) : M.firstB b = -1 := by
  unfold M.firstB
  rw [hx]
theorem rfirst_any (b : Int) (h0 : 0 ≤ b) (h1 : b ≤ 255) (w : World) : Calls Try.prog 39 #[.int .u8 b] w fun e w' => e = .returned (.int .i64 (M.firstB b)) ∧ w = w' := by
  go_enter Try.func39, Try.ntmps39
  go_wp2
  go_loop [3] (fun i => ∃ k : Nat, k ≤ 8 ∧ M.upto b k = [] ∧ i = .int .i64 k) (fun i => 8 - (intOf i).toNat)
  case atStart => exact ⟨0, Nat.zero_le _, rfl, rfl⟩
  case round =>
    obtain ⟨k, hk, hu, rfl⟩ := hrel
    by_cases hlt : k < 8
    · have hc := fun W => refis_any b (k : Int) h0 h1 W
      rw [show M.is b (k : Int) = M.bit b k from by (have h8 : ((k : Int) < 8) := by omega); simp [M.is, M.may, h8]] at hc
      cases hb : M.bit b k with
      | true =>
        have hs := Lib.hid (M.first_at hlt hu hb)
        rw [hb] at hc
        have Hc := Lib.hid hc
        clear hc hb hu
        go_wp2_with (go_at_call 61; refine (Hc.out _).mono ?_; rintro e w' ⟨rfl, rfl⟩)
        go_ret
        exact ⟨ret_int hs.out.symm, rfl⟩
      | false =>
        have hs := Lib.hid ((M.upto_no hb).trans hu)
        rw [hb] at hc
        have Hc := Lib.hid hc
        clear hc hb hu
        go_wp2_with (go_at_call 61; refine (Hc.out _).mono ?_; rintro e w' ⟨rfl, rfl⟩)
        go_round
        case rel => exact ⟨k + 1, by omega, hs.out, by simp⟩
        case measure => simp [intOf]; omega
    · obtain rfl : k = 8 := by omega
      have hs := Lib.hid (M.first_none hu)
      clear hu
      go_wp2
      go_ret
      exact ⟨ret_int hs.out.symm, rfl⟩
end Go.Proofs.Ytkkkjdbcckaedaa
