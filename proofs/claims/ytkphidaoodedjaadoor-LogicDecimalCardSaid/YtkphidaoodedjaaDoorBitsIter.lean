/- The range over the bits of a byte (bits.set), and what ranges over it: bits.Even, bits.First: each answers what the plain numbers say. Nothing that lay before is turned. -/
import Derived.RangeFuncNested
import Derived.RangeFuncBound
import Derived.RangeFuncCalls
import Derived.RangeFuncLeaves
import Derived.RangeFuncFrom
import Derived.Shelf.Abstract
import Derived.Shelf.RegionOpen
import Derived.WalkKit
import Derived.OwnWalkIn
import Derived.TacticsInMore
import Derived.LoopNIn
import Derived.LoopIn
import Derived.Test.YtkphidaoodedjaaDoorBits
namespace Go.Proofs.YtkphidaoodedjaaDoor
open Go.RowKit Go.Shelf

attribute [local go_sem] Oper.semAt_some
set_option linter.unusedVariables false

theorem cell_new_l (W : World) (v : Value) (t : TypeId) : (W.alloc (.cells #[v] t)).cell? ⟨W.heap.size, 0, none⟩ = some v ∧ (W.alloc (.cells #[v] t)).frozen? ⟨W.heap.size, 0, none⟩ = false := by
  constructor <;> simp
theorem cell_alloc_l {W : World} {a : Addr} {v : Value} (o : Obj) (h : W.cell? a = some v) : (W.alloc o).cell? a = some v := cell_kept h (World.grownBy_alloc W o none) (fun r e => by cases e)
theorem frozen_alloc_l {W : World} {a : Addr} {v : Value} (o : Obj) (h : W.cell? a = some v) (hf : W.frozen? a = false) : (W.alloc o).frozen? a = false := (frozen_kept h (World.grownBy_alloc W o none) (fun r e => by cases e)).trans hf

/-- One cell reads as it read. -/
def KeepsCell (B : Nat) (W W' : World) : Prop := ∀ v, W.cell? ⟨B, 0, none⟩ = some v → W'.cell? ⟨B, 0, none⟩ = some v
theorem keepsCell_t {B : Nat} {X Y Z : World} (h : KeepsCell B X Y) (k : KeepsCell B Y Z) : KeepsCell B X Z := fun v hv => k v (h v hv)
theorem keepsCell_b {B : Nat} {w : World} (W : World) (l : Nat) (o o' : Obj) (_ : w.heap.size ≤ l) (h : W.heap[l]? = some o) (ho : o.isCells = false) (_ : o.isWalk = false) : KeepsCell B W (W.putObj l o') :=
  fun v hv => cell_kept hv (grownBy_putObj' W l o') (fun r e => by cases e; exact ⟨o, h, ho⟩)

set_option maxRecDepth 100000 in
set_option maxHeartbeats 2000000 in
theorem set1_in (F : Fence) (n : Nat) (hf : F.fn 47) (hIs : F.fn 48) (hro : F.round = none) (hn : 2 ≤ n) (l Bb : Nat) (b : Int)
    (hC : ∀ (k : Nat) (W' : World), CallsIn F (n - 1) Tryd.prog 48 #[.int .u8 b, .int .i64 (k : Int)] W' fun e w' => e = .returned (.bool (M.is b k)) ∧ W' = w') (J Jx : List Int → World → Prop)
    (hY : ∀ pre x W, J pre W → pre.length < 8 → YieldAt F (n - 1) Tryd.prog l #[.int .i64 x] W fun e W' =>
      (e = .returned (.bool true) ∧ J (pre ++ [x]) W' ∧ KeepsCell Bb W W') ∨ (e = .returned (.bool false) ∧ Jx (pre ++ [x]) W'))
    (W : World) (hBb : W.cell? ⟨Bb, 0, none⟩ = some (.int .u8 b)) (h0 : J [] W) :
    CallsIn F n Tryd.prog 47 #[.func (.yield l) #[] #[], .pointer (some ⟨Bb, 0, none⟩)] W fun e W' => (∃ v, e = .returned v) ∧
      ((∃ ys, ys = M.upto b 8 ∧ J ys W') ∨ (∃ pre, (∃ k, k ≤ 8 ∧ pre = M.upto b k) ∧ Jx pre W')) := by
  have h1 : 1 ≤ n := by omega
  have HC := Lib.hid hC
  clear hC
  refine callsIn_of_wp Tryd.func47 rfl hf ?_ hro
  simp only [Tryd.ntmps47, List.size_toArray, List.length_cons, List.length_nil, Nat.reduceAdd, Nat.reduceSub, Array.replicate_succ, Array.replicate_zero, List.push_toArray, List.append_toArray, List.nil_append, List.cons_append]
  gi_wp2
  gi_loopw [4] (fun i wr => ∃ k : Nat, k ≤ 8 ∧ i = .int .i64 k ∧ J (M.upto b k) wr ∧ wr.cell? ⟨Bb, 0, none⟩ = some (.int .u8 b))
    (fun i _ => 8 - (intOf i).toNat)
  case atStart => exact ⟨0, Nat.zero_le _, rfl, h0, hBb⟩
  case round =>
    obtain ⟨k, hk, rfl, hJs, hcx⟩ := hrel
    by_cases hlt : k < 8
    · have hc := HC.out k
      have hm : M.is b k = M.bit b k := by simp [M.is, M.may]; omega
      cases hbit : M.bit b k with
      | true =>
        obtain ⟨fn, tmps, assign, body, hy, hR⟩ := hY _ (k : Int) wr hJs (by have := M.upto_len b k; omega)
        rw [hbit] at hm
        simp only [hm] at hc
        have hup := Lib.hid (M.upto_yes hbit)
        have Hc := Lib.hid hc
        clear hm hbit hc
        gi_wp2_with (gi_at_call 48; refine (Hc.out _).mono ?_; rintro e w' ⟨rfl, rfl⟩)
        refine hR.mono ?_
        rintro e W3 (⟨rfl, hJ3, hk3⟩ | ⟨rfl, hJx3⟩)
        · have hcx3 := hk3 _ hcx
          gi_wp2
          go_roundw
          case rel => exact ⟨k + 1, by omega, by simp, by rw [hup.out]; exact hJ3, hcx3⟩
          case measure => simp [intOf]; omega
        · gi_wp2
          refine bodyPost_ret (results_none rfl _ _ _) rfl ?_
          exact ⟨⟨_, rfl⟩, .inr ⟨_, ⟨k + 1, by omega, hup.out.symm⟩, hJx3⟩⟩
      | false =>
        rw [hbit] at hm
        simp only [hm] at hc
        have hup := Lib.hid (M.upto_no hbit)
        have Hc := Lib.hid hc
        clear hm hbit hc
        gi_wp2_with (gi_at_call 48; refine (Hc.out _).mono ?_; rintro e w' ⟨rfl, rfl⟩)
        refine ⟨fun _ h => (by cases h), ?_⟩
        gi_wp2
        go_roundw
        case rel => exact ⟨k + 1, by omega, by simp, by rw [hup.out]; exact hJs, hcx⟩
        case measure => simp [intOf]; omega
    · obtain rfl : k = 8 := by omega
      gi_wp2
      go_end0
      exact ⟨⟨_, rfl⟩, .inl ⟨_, rfl, hJs⟩⟩

/-- THE ITERATOR's CONTRACT, AT THE WIDE FENCE. -/
theorem set_stops (Bb : Nat) (b : Int) (hb0 : 0 ≤ b) (hb1 : b ≤ 255) (w : World) (hB : Bb < w.heap.size) (hBb : w.cell? ⟨Bb, 0, none⟩ = some (.int .u8 b)) :
    SeqStopsK Fence.wide 2 Tryd.prog 47 #[.pointer (some ⟨Bb, 0, none⟩)] (fun x : Int => #[Value.int .i64 x]) (KeepsCell Bb) (fun xs => xs = M.upto b 8) (fun pre => ∃ k, k ≤ 8 ∧ pre = M.upto b k) 8 w := by
  intro l J Jx W hW _ _ hY h0
  exact set1_in Fence.wide 2 trivial trivial rfl (by omega) l Bb b (fun k W' => callsIn_wide.2 (is_any b k hb0 hb1 W')) J Jx hY W ((hW.cell (p := ⟨Bb, 0, none⟩) hB).trans hBb) h0

theorem set_any (b : Int) (w : World) : Calls Tryd.prog 46 #[.int .u8 b] w fun e w' => e = .returned (.func (.func 47) #[] #[.pointer (some ⟨w.heap.size, 0, none⟩)]) ∧ w.alloc (.cells #[.int .u8 b] 5) = w' := by
  go_enter Tryd.func46, Tryd.ntmps46
  go_wp2
  go_ret
  exact ⟨rfl, rfl⟩

set_option maxRecDepth 100000 in
set_option maxHeartbeats 2000000 in
theorem even_in (F : Fence) (n : Nat) (hf : F.fn 44) (hs : F.fn 46) (hs1 : F.fn 47) (hro : F.round = none) (hn : 3 ≤ n) (b : Int)
    (hC : ∀ W', CallsIn F (n - 1) Tryd.prog 46 #[.int .u8 b] W' fun e w' => e = .returned (.func (.func 47) #[] #[.pointer (some ⟨W'.heap.size, 0, none⟩)]) ∧ W'.alloc (.cells #[.int .u8 b] 5) = w')
    (hS : ∀ (Bb : Nat) (w : World), Bb < w.heap.size → w.cell? ⟨Bb, 0, none⟩ = some (.int .u8 b) → SeqStopsK F (n - 1) Tryd.prog 47 #[.pointer (some ⟨Bb, 0, none⟩)] (fun x : Int => #[Value.int .i64 x]) (KeepsCell Bb) (fun xs => xs = M.upto b 8) (fun pre => ∃ k, k ≤ 8 ∧ pre = M.upto b k) 8 w)
    (w : World) :
    CallsIn F n Tryd.prog 44 #[.int .u8 b] w fun e W' => e = .returned (.bool (M.evenB b)) ∧ Below w.heap.size w W' := by
  have h1 : 1 ≤ n := by omega
  have HC := Lib.hid hC
  have HS := Lib.hid hS
  clear hC hS
  refine callsIn_of_wp_marks Tryd.func44 rfl hf ?_ hro
  simp only [Tryd.ntmps44, List.size_toArray, List.length_cons, List.length_nil, Nat.reduceAdd, Nat.reduceSub, Array.replicate_succ, Array.replicate_zero, List.push_toArray, List.append_toArray, List.nil_append, List.cons_append]
  gi_wp2_with (gi_at_call 46; refine (HC.out _).mono ?_; rintro e w' ⟨rfl, rfl⟩)
  have hs := cell_new_l w (.bool true) 4
  have hb := cell_new_l (w.alloc (.cells #[.bool true] 4)) (.int .u8 b) 5
  rw [World.size_alloc] at hb
  have hB0 : Below w.heap.size w ((w.alloc (.cells #[.bool true] 4)).alloc (.cells #[.int .u8 b] 5)) := ((Below.refl _ w).alloc (Nat.le_refl _) _).alloc (by simp) _
  refine wpIn_rangeFunc_ownF hro h1 (gf := 47) (lb := #[.pointer (some ⟨w.heap.size + 1, 0, none⟩)]) rfl hs1 (enters_of Tryd.func47 (by kernel_rfl) rfl)
    (HS.out (w.heap.size + 1) _ (by simp) hb.1) keepsCell_t keepsCell_b (Below.refl _ _) (fun _ => rfl)
    (fun pre W => (W.cell? ⟨w.heap.size, 0, none⟩ = some (.bool (pre.length % 2 == 0)) ∧ W.frozen? ⟨w.heap.size, 0, none⟩ = false) ∧ Below w.heap.size w W)
    (fun _ _ _ => False)
    (OwnFrom.and (Own.from (fun s A B row hs hg hr => ⟨cell_kept hs.1 hg hr, (frozen_kept hs.1 hg hr).trans hs.2⟩) _) (ownFrom_below (Nat.le_refl _) (by simp; omega)))
    (fun _ _ _ _ _ hs _ _ => hs)
    ⟨⟨cell_alloc_l _ hs.1, frozen_alloc_l _ hs.1 hs.2⟩, hB0⟩
    (fun x => { tmps := #[.int .u8 b, undef, .bool false, .pointer (some ⟨w.heap.size, 0, none⟩), .int .u8 b, .func (.func 47) #[] #[.pointer (some ⟨w.heap.size + 1, 0, none⟩)], .int .i64 x, undef, undef, undef], defers := [] }) ?assign ?body ?done ?stop
  case assign =>
    intro l x W K hK
    gi_wp2
    simpa using hK
  case body =>
    rintro l pre x W ⟨⟨hc, hf⟩, hB⟩ _
    gi_wp2
    refine ⟨KeepsOthers.setCell _ _ _, ?_, ⟨?_, by rw [World.frozen?_setCell]; exact hf⟩, hB.setCell (p := ⟨w.heap.size, 0, none⟩) (Nat.le_refl _) _⟩
    · intro v hv
      rw [World.cell?_setCell_other]
      · exact hv
      · simp
    · rw [World.cell?_setCell_same' _ _ _ (by rw [hc]; rfl), List.length_append, List.length_singleton, M.par_succ]
  case done =>
    rintro D ys W hD rfl ⟨⟨hc, _⟩, hB⟩ hK
    gi_wp2
    refine ⟨by simp, .inl ⟨_, _, rfl, run_takeDeferred hK, ?_⟩⟩
    exact ⟨_, results_tmp rfl _ _ _, rfl, hB.trans (belowK_b (w := w) (Nat.le_refl _) W D _ _ (by simp at hD; omega) hK rfl rfl)⟩
  case stop =>
    rintro D c pre W _ _ h _
    exact h.elim

theorem even_any (b : Int) (hb0 : 0 ≤ b) (hb1 : b ≤ 255) (w : World) : Calls Tryd.prog 44 #[.int .u8 b] w fun e W' => e = .returned (.bool (M.evenB b)) ∧ Below w.heap.size w W' :=
  (callsIn_wide (n := 3)).1 (even_in Fence.wide 3 trivial trivial trivial rfl (by omega) b (fun W' => callsIn_wide.2 (set_any b W')) (fun Bb w hB hBb => set_stops Bb b hb0 hb1 w hB hBb) w)
end Go.Proofs.YtkphidaoodedjaaDoor
