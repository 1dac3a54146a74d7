/- The program's shifts by a map of closures (shift.moved), by its contract: nothing that lay before is turned. -/
import Derived.Handy
import Derived.Deep.RegionHeld3
import Derived.WalkSpells
import Derived.Deep.DeepCutAuto
import Derived.Deep.QuietTactic
import Derived.Tactics2
import Derived.KernelRfl
import Derived.Test.YtkphidaoodedjaaMaps
import Derived.Test.YtkphidaoodedjaaMathShift
import Derived.Test.YtkphidaoodedjaaRef06Acc
namespace Go.Proofs.Ytkphidaoodedjaa
open Go.RowKit
set_option linter.unusedVariables false

theorem umap : Try.prog.underlying 67 = some (.map 3 65) := by kernel_rfl
theorem uint : Try.prog.underlying 3 = some (.int .i64) := by kernel_rfl
theorem in1 (b : Int) (h0 : 0 ≤ b) (h1 : b ≤ 255) (p : Nat) (w : World) (hc : w.cell? ⟨p, 0, none⟩ = some (.int .u8 b)) : Calls Try.prog 60 #[.pointer (some ⟨p, 0, none⟩)] w fun e w' => e = .returned (.int .u8 (b / 128)) ∧ w = w' := by
  go_enter Try.func60, Try.ntmps60
  go_wp2
  go_ret
  exact ⟨rfl, rfl⟩
theorem in2 (b : Int) (h0 : 0 ≤ b) (h1 : b ≤ 255) (p : Nat) (w : World) (hc : w.cell? ⟨p, 0, none⟩ = some (.int .u8 b)) : Calls Try.prog 61 #[.pointer (some ⟨p, 0, none⟩)] w fun e w' => e = .returned (.int .u8 (b * 128 % 256)) ∧ w = w' := by
  go_enter Try.func61, Try.ntmps61
  go_wp2
  go_ret
  exact ⟨rfl, rfl⟩
theorem in6 (b : Int) (h0 : 0 ≤ b) (h1 : b ≤ 255) (p : Nat) (w : World) (hc : w.cell? ⟨p, 0, none⟩ = some (.int .u8 b)) : Calls Try.prog 65 #[.pointer (some ⟨p, 0, none⟩)] w fun e w' => e = .returned (.int .u8 (bits .and .u8 b 128)) ∧ w = w' := by
  go_enter Try.func65, Try.ntmps65
  go_wp2
  go_ret
  exact ⟨rfl, rfl⟩
theorem in3 (b : Int) (h0 : 0 ≤ b) (h1 : b ≤ 255) (p : Nat) (w : World) (hc : w.cell? ⟨p, 0, none⟩ = some (.int .u8 b)) : Calls Try.prog 62 #[.pointer (some ⟨p, 0, none⟩)] w fun e w' => e = .returned (.int .u8 b) ∧ w = w' := by
  go_enter Try.func62, Try.ntmps62
  go_wp2
  go_ret
  exact ⟨rfl, rfl⟩
theorem in4 (b : Int) (h0 : 0 ≤ b) (h1 : b ≤ 255) (p : Nat) (w : World) (hc : w.cell? ⟨p, 0, none⟩ = some (.int .u8 b)) : Calls Try.prog 63 #[.pointer (some ⟨p, 0, none⟩)] w fun e w' => e = .returned (.int .u8 (b * 128 % 256)) ∧ w = w' := by
  go_enter Try.func63, Try.ntmps63
  go_wp2
  go_ret
  exact ⟨rfl, rfl⟩
theorem in5 (w : World) : Calls Try.prog 64 #[] w fun e w' => e = .returned (.int .u8 0) ∧ w = w' := by
  go_enter Try.func64, Try.ntmps64
  go_wp2
  go_ret
  exact ⟨rfl, rfl⟩
theorem in7 (w : World) : Calls Try.prog 66 #[] w fun e w' => e = .returned (.int .u8 1) ∧ w = w' := by
  go_enter Try.func66, Try.ntmps66
  go_wp2
  go_ret
  exact ⟨rfl, rfl⟩
theorem in8 (w : World) : Calls Try.prog 67 #[] w fun e w' => e = .returned (.int .u8 0) ∧ w = w' := by
  go_enter Try.func67, Try.ntmps67
  go_wp2
  go_ret
  exact ⟨rfl, rfl⟩
/-- The boxes and the map of a shift. -/
def MS (w : World) (b c : Int) (es : Array MapEntry) (clock : Nat) (W : World) : Prop :=
  W.cell? ⟨w.heap.size, 0, none⟩ = some (.int .u8 b) ∧ W.cell? ⟨w.heap.size + 1, 0, none⟩ = some (.int .u8 c) ∧ W.heap[w.heap.size + 1 + 1]? = some (.map es clock) ∧ w.heap.size + 1 + 1 < W.heap.size ∧ Below w.heap.size w W
theorem MS.step {w W W' : World} {b c : Int} {es es' : Array MapEntry} {clock clock' : Nat} (h : MS w b c es clock W) (hm : W'.heap[w.heap.size + 1 + 1]? = some (.map es' clock')) (g : W.grownBy W' (some (w.heap.size + 1 + 1))) : MS w b c es' clock' W' := by
  obtain ⟨k1, k2, k3, k4, k5⟩ := h
  exact ⟨g.cell k1 (by simp; omega), g.cell k2 (by simp), hm, Nat.lt_of_lt_of_le k4 g.size, k5.grown g (by omega) (fun i hi => by cases hi; omega)⟩
theorem ms_start (w : World) (b c : Int) (t1 t2 : TypeId) : MS w b c #[] 0 (((w.alloc (.cells #[.int .u8 b] t1)).alloc (.cells #[.int .u8 c] t2)).alloc (.map #[] 0)) := by
  refine ⟨by go_cell, by go_cell, ?_, by simp, by go_grown⟩
  have h := (MapKept.heap_alloc ((w.alloc (.cells #[.int .u8 b] t1)).alloc (.cells #[.int .u8 c] t2)) (.map #[] 0)).1
  simpa using h
theorem zfn (w : World) : (zeroValue 65).run Try.prog w = .ok .nilFunc w := by kernel_rfl
theorem ret_iib {k : IntKind} {a b c d : Int} {p q : Bool} (h : a = b) (g : c = d) (j : p = q) : Ending.returned (.tuple #[.int k a, .int k c, .bool p]) = .returned (.tuple #[.int k b, .int k d, .bool q]) := by rw [h, g, j]
set_option maxHeartbeats 4000000 in
theorem moved0 (b f : Int) (h0 : 0 ≤ b) (h1 : b ≤ 255) (h2 : 0 ≤ f) (h3 : f ≤ 255) (w : World) : Calls Try.prog 40 #[.int .i64 0, .int .u8 b, .int .u8 f] w fun e w' => e = .returned (.tuple #[.int .u8 (M.turnedR 0 b f), .int .u8 (M.b01 (M.turnedO 0 b)), .bool (M.kindB 0)]) ∧ Below w.heap.size w w' := by
  have hc : 0 ≤ bits .and .u8 f 1 ∧ bits .and .u8 f 1 ≤ 255 := by rw [M.f01 f h2 h3]; have := M.b01_range (M.is f 0); omega
  have H := Lib.hid (M.sh0 b f h0 h1)
  have HO := Lib.hid (M.so_even 0 b h0 h1 (by decide))
  have hmm := @run_makeMap Try.prog
  go_enter Try.func40, Try.ntmps40
  go_wp2_with (first
      | (refine is_insert ?_; refine wpList_insert _ rfl _ _ _ _ rfl _ _ _ umap uint _ _ _ rfl hS.2.2.1 _ _ rfl rfl rfl ?_; intro W1 hm1 hg1; replace hS := hS.step hm1 hg1; clear hm1 hg1)
      | (refine is_insert ?_; refine wpList_insert _ rfl _ _ _ _ rfl _ _ _ umap uint _ _ _ rfl (ms_start w b _ _ _).2.2.1 _ _ rfl rfl rfl ?_; intro W1 hm1 hg1; have hS := (ms_start w b _ _ _).step hm1 hg1; clear hm1 hg1)
      | (refine is_lookup ?_; refine wpList_look _ rfl _ _ _ rfl _ _ _ umap uint _ _ _ rfl hS.2.2.1 _ rfl _ _ rfl ?_))
  obtain ⟨c1, c2, _, _, c5⟩ := hS
  go_region_held3 (fun W => W.cell? ⟨w.heap.size, 0, none⟩ = some (.int .u8 b) ∧ W.cell? ⟨w.heap.size + 1, 0, none⟩ = some (.int .u8 (bits .and .u8 f 1)) ∧ Below w.heap.size w W) (repeat' first | assumption | (with_reducible apply And.intro) | (with_reducible refine Below.drew ?_) | (go_keep; done))
    ((go_at_call 60; refine (in1 b h0 h1 _ _ (by assumption)).mono ?_; rintro e w' ⟨rfl, rfl⟩))
  all_goals
    go_wp2_with fail
    go_returns
    exact ⟨ret_iib H.out HO.out rfl, c5.drew⟩
set_option maxHeartbeats 4000000 in
theorem moved1 (b f : Int) (h0 : 0 ≤ b) (h1 : b ≤ 255) (h2 : 0 ≤ f) (h3 : f ≤ 255) (w : World) : Calls Try.prog 40 #[.int .i64 1, .int .u8 b, .int .u8 f] w fun e w' => e = .returned (.tuple #[.int .u8 (M.turnedR 1 b f), .int .u8 (M.b01 (M.turnedO 1 b)), .bool (M.kindB 1)]) ∧ Below w.heap.size w w' := by
  have hc : 0 ≤ bits .and .u8 f 1 ∧ bits .and .u8 f 1 ≤ 255 := by rw [M.f01 f h2 h3]; have := M.b01_range (M.is f 0); omega
  have H := Lib.hid (M.sh1 b f h0 h1)
  have HO := Lib.hid (M.so_odd 1 b h0 h1 (by decide))
  have hmm := @run_makeMap Try.prog
  go_enter Try.func40, Try.ntmps40
  go_wp2_with (first
      | (refine is_insert ?_; refine wpList_insert _ rfl _ _ _ _ rfl _ _ _ umap uint _ _ _ rfl hS.2.2.1 _ _ rfl rfl rfl ?_; intro W1 hm1 hg1; replace hS := hS.step hm1 hg1; clear hm1 hg1)
      | (refine is_insert ?_; refine wpList_insert _ rfl _ _ _ _ rfl _ _ _ umap uint _ _ _ rfl (ms_start w b _ _ _).2.2.1 _ _ rfl rfl rfl ?_; intro W1 hm1 hg1; have hS := (ms_start w b _ _ _).step hm1 hg1; clear hm1 hg1)
      | (refine is_lookup ?_; refine wpList_look _ rfl _ _ _ rfl _ _ _ umap uint _ _ _ rfl hS.2.2.1 _ rfl _ _ rfl ?_))
  obtain ⟨c1, c2, _, _, c5⟩ := hS
  go_region_held3 (fun W => W.cell? ⟨w.heap.size, 0, none⟩ = some (.int .u8 b) ∧ W.cell? ⟨w.heap.size + 1, 0, none⟩ = some (.int .u8 (bits .and .u8 f 1)) ∧ Below w.heap.size w W) (repeat' first | assumption | (with_reducible apply And.intro) | (with_reducible refine Below.drew ?_) | (go_keep; done))
    ((go_at_call 61; refine (in2 b h0 h1 _ _ (by assumption)).mono ?_; rintro e w' ⟨rfl, rfl⟩))
  all_goals
    go_wp2_with fail
    go_returns
    exact ⟨ret_iib H.out HO.out rfl, c5.drew⟩
set_option maxHeartbeats 4000000 in
theorem moved2 (b f : Int) (h0 : 0 ≤ b) (h1 : b ≤ 255) (h2 : 0 ≤ f) (h3 : f ≤ 255) (w : World) : Calls Try.prog 40 #[.int .i64 2, .int .u8 b, .int .u8 f] w fun e w' => e = .returned (.tuple #[.int .u8 (M.turnedR 2 b f), .int .u8 (M.b01 (M.turnedO 2 b)), .bool (M.kindB 2)]) ∧ Below w.heap.size w w' := by
  have hc : 0 ≤ bits .and .u8 f 1 ∧ bits .and .u8 f 1 ≤ 255 := by rw [M.f01 f h2 h3]; have := M.b01_range (M.is f 0); omega
  have H := Lib.hid (M.sh2 b f h0 h1 h2 h3)
  have HO := Lib.hid (M.so_even 2 b h0 h1 (by decide))
  have hmm := @run_makeMap Try.prog
  go_enter Try.func40, Try.ntmps40
  go_wp2_with (first
      | (refine is_insert ?_; refine wpList_insert _ rfl _ _ _ _ rfl _ _ _ umap uint _ _ _ rfl hS.2.2.1 _ _ rfl rfl rfl ?_; intro W1 hm1 hg1; replace hS := hS.step hm1 hg1; clear hm1 hg1)
      | (refine is_insert ?_; refine wpList_insert _ rfl _ _ _ _ rfl _ _ _ umap uint _ _ _ rfl (ms_start w b _ _ _).2.2.1 _ _ rfl rfl rfl ?_; intro W1 hm1 hg1; have hS := (ms_start w b _ _ _).step hm1 hg1; clear hm1 hg1)
      | (refine is_lookup ?_; refine wpList_look _ rfl _ _ _ rfl _ _ _ umap uint _ _ _ rfl hS.2.2.1 _ rfl _ _ rfl ?_))
  obtain ⟨c1, c2, _, _, c5⟩ := hS
  go_region_held3 (fun W => W.cell? ⟨w.heap.size, 0, none⟩ = some (.int .u8 b) ∧ W.cell? ⟨w.heap.size + 1, 0, none⟩ = some (.int .u8 (bits .and .u8 f 1)) ∧ Below w.heap.size w W) (repeat' first | assumption | (with_reducible apply And.intro) | (with_reducible refine Below.drew ?_) | (go_keep; done))
    ((go_at_call 62; refine (in3 (bits .and .u8 f 1) hc.1 hc.2 _ _ (by assumption)).mono ?_; rintro e w' ⟨rfl, rfl⟩))
  all_goals
    go_wp2_with fail
    go_returns
    exact ⟨ret_iib H.out HO.out rfl, c5.drew⟩
set_option maxHeartbeats 4000000 in
theorem moved3 (b f : Int) (h0 : 0 ≤ b) (h1 : b ≤ 255) (h2 : 0 ≤ f) (h3 : f ≤ 255) (w : World) : Calls Try.prog 40 #[.int .i64 3, .int .u8 b, .int .u8 f] w fun e w' => e = .returned (.tuple #[.int .u8 (M.turnedR 3 b f), .int .u8 (M.b01 (M.turnedO 3 b)), .bool (M.kindB 3)]) ∧ Below w.heap.size w w' := by
  have hc : 0 ≤ bits .and .u8 f 1 ∧ bits .and .u8 f 1 ≤ 255 := by rw [M.f01 f h2 h3]; have := M.b01_range (M.is f 0); omega
  have H := Lib.hid (M.sh3 b f h0 h1 h2 h3)
  have HO := Lib.hid (M.so_odd 3 b h0 h1 (by decide))
  have hmm := @run_makeMap Try.prog
  go_enter Try.func40, Try.ntmps40
  go_wp2_with (first
      | (refine is_insert ?_; refine wpList_insert _ rfl _ _ _ _ rfl _ _ _ umap uint _ _ _ rfl hS.2.2.1 _ _ rfl rfl rfl ?_; intro W1 hm1 hg1; replace hS := hS.step hm1 hg1; clear hm1 hg1)
      | (refine is_insert ?_; refine wpList_insert _ rfl _ _ _ _ rfl _ _ _ umap uint _ _ _ rfl (ms_start w b _ _ _).2.2.1 _ _ rfl rfl rfl ?_; intro W1 hm1 hg1; have hS := (ms_start w b _ _ _).step hm1 hg1; clear hm1 hg1)
      | (refine is_lookup ?_; refine wpList_look _ rfl _ _ _ rfl _ _ _ umap uint _ _ _ rfl hS.2.2.1 _ rfl _ _ rfl ?_))
  obtain ⟨c1, c2, _, _, c5⟩ := hS
  go_region_held3 (fun W => W.cell? ⟨w.heap.size, 0, none⟩ = some (.int .u8 b) ∧ W.cell? ⟨w.heap.size + 1, 0, none⟩ = some (.int .u8 (bits .and .u8 f 1)) ∧ Below w.heap.size w W) (repeat' first | assumption | (with_reducible apply And.intro) | (with_reducible refine Below.drew ?_) | (go_keep; done))
    ((go_at_call 63; refine (in4 (bits .and .u8 f 1) hc.1 hc.2 _ _ (by assumption)).mono ?_; rintro e w' ⟨rfl, rfl⟩))
  all_goals
    go_wp2_with fail
    go_returns
    exact ⟨ret_iib H.out HO.out rfl, c5.drew⟩
set_option maxHeartbeats 4000000 in
theorem moved4 (b f : Int) (h0 : 0 ≤ b) (h1 : b ≤ 255) (h2 : 0 ≤ f) (h3 : f ≤ 255) (w : World) : Calls Try.prog 40 #[.int .i64 4, .int .u8 b, .int .u8 f] w fun e w' => e = .returned (.tuple #[.int .u8 (M.turnedR 4 b f), .int .u8 (M.b01 (M.turnedO 4 b)), .bool (M.kindB 4)]) ∧ Below w.heap.size w w' := by
  have hc : 0 ≤ bits .and .u8 f 1 ∧ bits .and .u8 f 1 ≤ 255 := by rw [M.f01 f h2 h3]; have := M.b01_range (M.is f 0); omega
  have H := Lib.hid (M.sh4 b f h0 h1)
  have HO := Lib.hid (M.so_even 4 b h0 h1 (by decide))
  have hmm := @run_makeMap Try.prog
  go_enter Try.func40, Try.ntmps40
  go_wp2_with (first
      | (refine is_insert ?_; refine wpList_insert _ rfl _ _ _ _ rfl _ _ _ umap uint _ _ _ rfl hS.2.2.1 _ _ rfl rfl rfl ?_; intro W1 hm1 hg1; replace hS := hS.step hm1 hg1; clear hm1 hg1)
      | (refine is_insert ?_; refine wpList_insert _ rfl _ _ _ _ rfl _ _ _ umap uint _ _ _ rfl (ms_start w b _ _ _).2.2.1 _ _ rfl rfl rfl ?_; intro W1 hm1 hg1; have hS := (ms_start w b _ _ _).step hm1 hg1; clear hm1 hg1)
      | (refine is_lookup ?_; refine wpList_look _ rfl _ _ _ rfl _ _ _ umap uint _ _ _ rfl hS.2.2.1 _ rfl _ _ rfl ?_))
  obtain ⟨c1, c2, _, _, c5⟩ := hS
  go_region_held3 (fun W => W.cell? ⟨w.heap.size, 0, none⟩ = some (.int .u8 b) ∧ W.cell? ⟨w.heap.size + 1, 0, none⟩ = some (.int .u8 (bits .and .u8 f 1)) ∧ Below w.heap.size w W) (repeat' first | assumption | (with_reducible apply And.intro) | (with_reducible refine Below.drew ?_) | (go_keep; done))
    ((go_at_call 64; refine (in5 _).mono ?_; rintro e w' ⟨rfl, rfl⟩))
  all_goals
    go_wp2_with fail
    go_returns
    exact ⟨ret_iib H.out HO.out rfl, c5.drew⟩
set_option maxHeartbeats 4000000 in
theorem moved5 (b f : Int) (h0 : 0 ≤ b) (h1 : b ≤ 255) (h2 : 0 ≤ f) (h3 : f ≤ 255) (w : World) : Calls Try.prog 40 #[.int .i64 5, .int .u8 b, .int .u8 f] w fun e w' => e = .returned (.tuple #[.int .u8 (M.turnedR 5 b f), .int .u8 (M.b01 (M.turnedO 5 b)), .bool (M.kindB 5)]) ∧ Below w.heap.size w w' := by
  have hc : 0 ≤ bits .and .u8 f 1 ∧ bits .and .u8 f 1 ≤ 255 := by rw [M.f01 f h2 h3]; have := M.b01_range (M.is f 0); omega
  have H := Lib.hid (M.sh5 b f h0 h1)
  have HO := Lib.hid (M.so_odd 5 b h0 h1 (by decide))
  have hmm := @run_makeMap Try.prog
  go_enter Try.func40, Try.ntmps40
  go_wp2_with (first
      | (refine is_insert ?_; refine wpList_insert _ rfl _ _ _ _ rfl _ _ _ umap uint _ _ _ rfl hS.2.2.1 _ _ rfl rfl rfl ?_; intro W1 hm1 hg1; replace hS := hS.step hm1 hg1; clear hm1 hg1)
      | (refine is_insert ?_; refine wpList_insert _ rfl _ _ _ _ rfl _ _ _ umap uint _ _ _ rfl (ms_start w b _ _ _).2.2.1 _ _ rfl rfl rfl ?_; intro W1 hm1 hg1; have hS := (ms_start w b _ _ _).step hm1 hg1; clear hm1 hg1)
      | (refine is_lookup ?_; refine wpList_look _ rfl _ _ _ rfl _ _ _ umap uint _ _ _ rfl hS.2.2.1 _ rfl _ _ rfl ?_))
  obtain ⟨c1, c2, _, _, c5⟩ := hS
  go_region_held3 (fun W => W.cell? ⟨w.heap.size, 0, none⟩ = some (.int .u8 b) ∧ W.cell? ⟨w.heap.size + 1, 0, none⟩ = some (.int .u8 (bits .and .u8 f 1)) ∧ Below w.heap.size w W) (repeat' first | assumption | (with_reducible apply And.intro) | (with_reducible refine Below.drew ?_) | (go_keep; done))
    ((go_at_call 65; refine (in6 b h0 h1 _ _ (by assumption)).mono ?_; rintro e w' ⟨rfl, rfl⟩))
  all_goals
    go_wp2_with fail
    go_returns
    exact ⟨ret_iib H.out HO.out rfl, c5.drew⟩
set_option maxHeartbeats 4000000 in
theorem moved6 (b f : Int) (h0 : 0 ≤ b) (h1 : b ≤ 255) (h2 : 0 ≤ f) (h3 : f ≤ 255) (w : World) : Calls Try.prog 40 #[.int .i64 6, .int .u8 b, .int .u8 f] w fun e w' => e = .returned (.tuple #[.int .u8 (M.turnedR 6 b f), .int .u8 (M.b01 (M.turnedO 6 b)), .bool (M.kindB 6)]) ∧ Below w.heap.size w w' := by
  have hc : 0 ≤ bits .and .u8 f 1 ∧ bits .and .u8 f 1 ≤ 255 := by rw [M.f01 f h2 h3]; have := M.b01_range (M.is f 0); omega
  have H := Lib.hid (M.sh6 b f h0 h1)
  have HO := Lib.hid (M.so_even 6 b h0 h1 (by decide))
  have hmm := @run_makeMap Try.prog
  go_enter Try.func40, Try.ntmps40
  go_wp2_with (first
      | (refine is_insert ?_; refine wpList_insert _ rfl _ _ _ _ rfl _ _ _ umap uint _ _ _ rfl hS.2.2.1 _ _ rfl rfl rfl ?_; intro W1 hm1 hg1; replace hS := hS.step hm1 hg1; clear hm1 hg1)
      | (refine is_insert ?_; refine wpList_insert _ rfl _ _ _ _ rfl _ _ _ umap uint _ _ _ rfl (ms_start w b _ _ _).2.2.1 _ _ rfl rfl rfl ?_; intro W1 hm1 hg1; have hS := (ms_start w b _ _ _).step hm1 hg1; clear hm1 hg1)
      | (refine is_lookup ?_; refine wpList_look _ rfl _ _ _ rfl _ _ _ umap uint _ _ _ rfl hS.2.2.1 _ rfl _ _ rfl ?_))
  obtain ⟨c1, c2, _, _, c5⟩ := hS
  go_region_held3 (fun W => W.cell? ⟨w.heap.size, 0, none⟩ = some (.int .u8 b) ∧ W.cell? ⟨w.heap.size + 1, 0, none⟩ = some (.int .u8 (bits .and .u8 f 1)) ∧ Below w.heap.size w W) (repeat' first | assumption | (with_reducible apply And.intro) | (with_reducible refine Below.drew ?_) | (go_keep; done))
    ((go_at_call 66; refine (in7 _).mono ?_; rintro e w' ⟨rfl, rfl⟩))
  all_goals
    go_wp2_with fail
    go_returns
    exact ⟨ret_iib H.out HO.out rfl, c5.drew⟩
set_option maxHeartbeats 4000000 in
theorem moved7 (b f : Int) (h0 : 0 ≤ b) (h1 : b ≤ 255) (h2 : 0 ≤ f) (h3 : f ≤ 255) (w : World) : Calls Try.prog 40 #[.int .i64 7, .int .u8 b, .int .u8 f] w fun e w' => e = .returned (.tuple #[.int .u8 (M.turnedR 7 b f), .int .u8 (M.b01 (M.turnedO 7 b)), .bool (M.kindB 7)]) ∧ Below w.heap.size w w' := by
  have hc : 0 ≤ bits .and .u8 f 1 ∧ bits .and .u8 f 1 ≤ 255 := by rw [M.f01 f h2 h3]; have := M.b01_range (M.is f 0); omega
  have H := Lib.hid (M.sh7 b f h0 h1)
  have HO := Lib.hid (M.so_odd 7 b h0 h1 (by decide))
  have hmm := @run_makeMap Try.prog
  go_enter Try.func40, Try.ntmps40
  go_wp2_with (first
      | (refine is_insert ?_; refine wpList_insert _ rfl _ _ _ _ rfl _ _ _ umap uint _ _ _ rfl hS.2.2.1 _ _ rfl rfl rfl ?_; intro W1 hm1 hg1; replace hS := hS.step hm1 hg1; clear hm1 hg1)
      | (refine is_insert ?_; refine wpList_insert _ rfl _ _ _ _ rfl _ _ _ umap uint _ _ _ rfl (ms_start w b _ _ _).2.2.1 _ _ rfl rfl rfl ?_; intro W1 hm1 hg1; have hS := (ms_start w b _ _ _).step hm1 hg1; clear hm1 hg1)
      | (refine is_lookup ?_; refine wpList_look _ rfl _ _ _ rfl _ _ _ umap uint _ _ _ rfl hS.2.2.1 _ rfl _ _ rfl ?_))
  obtain ⟨c1, c2, _, _, c5⟩ := hS
  go_region_held3 (fun W => W.cell? ⟨w.heap.size, 0, none⟩ = some (.int .u8 b) ∧ W.cell? ⟨w.heap.size + 1, 0, none⟩ = some (.int .u8 (bits .and .u8 f 1)) ∧ Below w.heap.size w W) (repeat' first | assumption | (with_reducible apply And.intro) | (with_reducible refine Below.drew ?_) | (go_keep; done))
    ((go_at_call 67; refine (in8 _).mono ?_; rintro e w' ⟨rfl, rfl⟩))
  all_goals
    go_wp2_with fail
    go_returns
    exact ⟨ret_iib H.out HO.out rfl, c5.drew⟩
set_option maxHeartbeats 4000000 in
theorem movedx (kind b f : Int) (k0 : kind ≠ 0) (k1 : kind ≠ 1) (k2 : kind ≠ 2) (k3 : kind ≠ 3) (k4 : kind ≠ 4) (k5 : kind ≠ 5) (k6 : kind ≠ 6) (k7 : kind ≠ 7) (h0 : 0 ≤ b) (h1 : b ≤ 255) (h2 : 0 ≤ f) (h3 : f ≤ 255) (w : World) : Calls Try.prog 40 #[.int .i64 kind, .int .u8 b, .int .u8 f] w fun e w' => e = .returned (.tuple #[.int .u8 (M.turnedR kind b f), .int .u8 (M.b01 (M.turnedO kind b)), .bool (M.kindB kind)]) ∧ Below w.heap.size w w' := by
  have hk := M.other kind k0 k1 k2 k3 k4 k5 k6 k7
  have H : Hid (b = M.turnedR kind b f) := by unfold M.turnedR; rw [hk]; exact rfl
  have HO : Hid (0 = M.b01 (M.turnedO kind b)) := by unfold M.turnedO; rw [hk]; exact rfl
  have HK : Hid (false = M.kindB kind) := hk.symm
  have e0 : (kind == 0) = false := by simpa using k0
  have e1 : (kind == 1) = false := by simpa using k1
  have e2 : (kind == 2) = false := by simpa using k2
  have e3 : (kind == 3) = false := by simpa using k3
  have e4 : (kind == 4) = false := by simpa using k4
  have e5 : (kind == 5) = false := by simpa using k5
  have e6 : (kind == 6) = false := by simpa using k6
  have e7 : (kind == 7) = false := by simpa using k7
  clear hk k0 k1 k2 k3 k4 k5 k6 k7
  have hmm := @run_makeMap Try.prog
  go_enter Try.func40, Try.ntmps40
  go_wp2_with (first
      | (refine is_insert ?_; refine wpList_insert _ rfl _ _ _ _ rfl _ _ _ umap uint _ _ _ rfl hS.2.2.1 _ _ rfl rfl rfl ?_; intro W1 hm1 hg1; replace hS := hS.step hm1 hg1; clear hm1 hg1)
      | (refine is_insert ?_; refine wpList_insert _ rfl _ _ _ _ rfl _ _ _ umap uint _ _ _ rfl (ms_start w b _ _ _).2.2.1 _ _ rfl rfl rfl ?_; intro W1 hm1 hg1; have hS := (ms_start w b _ _ _).step hm1 hg1; clear hm1 hg1)
      | (refine is_lookup ?_; refine wpList_miss _ rfl _ _ _ rfl _ _ _ umap uint _ _ _ rfl hS.2.2.1 _ rfl _ (by simp [Instr.findNow, Instr.sameNow, e0, e1, e2, e3, e4, e5, e6, e7]) (zfn _) ?_; obtain ⟨c1, c2, _, _, c5⟩ := hS))
  go_returns
  exact ⟨ret_iib H.out HO.out HK.out, c5⟩
theorem moved_any (kind b f : Int) (h0 : 0 ≤ b) (h1 : b ≤ 255) (h2 : 0 ≤ f) (h3 : f ≤ 255) (w : World) : Calls Try.prog 40 #[.int .i64 kind, .int .u8 b, .int .u8 f] w fun e w' => e = .returned (.tuple #[.int .u8 (M.turnedR kind b f), .int .u8 (M.b01 (M.turnedO kind b)), .bool (M.kindB kind)]) ∧ Below w.heap.size w w' := by
  by_cases k0 : kind = 0
  · subst k0; exact moved0 b f h0 h1 h2 h3 w
  by_cases k1 : kind = 1
  · subst k1; exact moved1 b f h0 h1 h2 h3 w
  by_cases k2 : kind = 2
  · subst k2; exact moved2 b f h0 h1 h2 h3 w
  by_cases k3 : kind = 3
  · subst k3; exact moved3 b f h0 h1 h2 h3 w
  by_cases k4 : kind = 4
  · subst k4; exact moved4 b f h0 h1 h2 h3 w
  by_cases k5 : kind = 5
  · subst k5; exact moved5 b f h0 h1 h2 h3 w
  by_cases k6 : kind = 6
  · subst k6; exact moved6 b f h0 h1 h2 h3 w
  by_cases k7 : kind = 7
  · subst k7; exact moved7 b f h0 h1 h2 h3 w
  exact movedx kind b f k0 k1 k2 k3 k4 k5 k6 k7 h0 h1 h2 h3 w
end Go.Proofs.Ytkphidaoodedjaa
