/- charabanclaw23.CtcWrites is true at whatever counters, channel and byte. -/
import Derived.Test.YtmoafjgogbcoeaaCtcAwake
import Derived.Test.YtmoafjgogbcoeaaCtcPlain
import Derived.Test.YtmoafjgogbcoeaaCtcRefY
import Derived.Test.YtmoafjgogbcoeaaCtcEq
import Derived.Deep.RegionHeld3
namespace Go.Proofs.Ytmoafjgogbcoeaa
open Go.RowKit
set_option linter.unusedVariables false
set_option linter.unusedSimpArgs false
set_option maxRecDepth 100000

set_option maxHeartbeats 4000000 in
theorem writes_true (c : M.Ct) (hc : c.ok) (k b : Int) (h0 : 0 ≤ b) (h1 : b ≤ 255) (w : World) : Calls Try.prog 6 #[.agg c.a, .int .i64 k, .int .u8 b] w fun e w' => e = .returned (.bool true) ∧ Below w.heap.size w w' := by
  have hw := fun W => cwrite_any c hc k b h0 h1 W
  have hr := fun W => rwrite_any c hc k b h0 h1 W
  have hrd := fun W => cread_any c hc k W
  have hrr := fun W => rread_any c hc k W
  have hpc := fun W => plain_any c W
  have hpd := fun W => plain_any (M.write c k b) W
  have hq := fun W => eql51 (M.write c k b) W
  generalize M.write c k b = D at hw hr hpd hq
  generalize M.read c k = R at hrd hrr
  have Hw := Lib.hid hw
  have Hr := Lib.hid hr
  have Hrd := Lib.hid hrd
  have Hrr := Lib.hid hrr
  have Hpc := Lib.hid hpc
  have Hpd := Lib.hid hpd
  clear hw hr hrd hrr hpc hpd
  have hsz := ct_size c
  go_enter Try.func6, Try.ntmps6
  go_wp2_with fail
  refine (awake_any _).mono ?_
  rintro e w1 ⟨rfl, hb1⟩
  have hS0 : CtAt w1 w.heap.size c ∧ Below w.heap.size w w1 := ⟨(ct_new w c _).belowX hb1, Below.trans (by go_grown) (hb1.mono (by simp))⟩
  have hS1 := Lib.hid hS0
  clear hS0 hb1
  go_wp2_with fail
  refine wp_region_held_drew (S := fun W => CtAt W w.heap.size c ∧ Below w.heap.size w W) (by kernel_rfl) ⟨hS1.out.1.drew, hS1.out.2.drew⟩ ?_
  intro hS
  clear hS1
  refine wpAnyH_take (i := 0) rfl (by kernel_rfl) (by kernel_rfl) (by kernel_rfl) (fun _ _ _ h => h) (yieldsIf_load_mid (by rfl) _ _ rfl _ _ rfl _ _ (fun W hW => hW.1.1) Try.underlying47 rfl (info47c _)) hS ?_
  try simp only [Act.put, List.setIfInBounds_toArray, List.set_cons_zero, List.set_cons_succ, List.getElem_toArray, List.getElem_cons_succ, List.getElem_cons_zero, Array.toArray_toList]
  refine wpAnyH_take (i := 1) (v := ?_) rfl (by kernel_rfl) (by kernel_rfl) (by kernel_rfl) (fun _ _ _ h => h) (Or.inl ⟨by rfl, ?_⟩) hS ?_
  rotate_left 1
  · intro W hW
    clear hW
    go_simp
    all_goals with_reducible rfl
  try simp only [Act.put, List.setIfInBounds_toArray, List.set_cons_zero, List.set_cons_succ, List.getElem_toArray, List.getElem_cons_succ, List.getElem_cons_zero, Array.toArray_toList]
  refine wpAnyH_take (i := 2) (v := ?_) rfl (by kernel_rfl) (by kernel_rfl) (by kernel_rfl) (fun _ _ _ h => h) (Or.inl ⟨by rfl, ?_⟩) hS ?_
  rotate_left 1
  · intro W hW
    clear hW
    go_simp
    all_goals with_reducible rfl
  try simp only [Act.put, List.setIfInBounds_toArray, List.set_cons_zero, List.set_cons_succ, List.getElem_toArray, List.getElem_cons_succ, List.getElem_cons_zero, Array.toArray_toList]
  refine wpAnyH_take (i := 5) rfl (by kernel_rfl) (by kernel_rfl) (by kernel_rfl) (fun _ _ _ h => h) (yieldsIf_load_mid (by rfl) _ _ rfl _ _ rfl _ _ (fun W hW => hW.1.1) Try.underlying47 rfl (info47c _)) hS ?_
  try simp only [Act.put, List.setIfInBounds_toArray, List.set_cons_zero, List.set_cons_succ, List.getElem_toArray, List.getElem_cons_succ, List.getElem_cons_zero, Array.toArray_toList]
  refine wpAnyH_take (i := 7) (v := ?_) rfl (by kernel_rfl) (by kernel_rfl) (by kernel_rfl) (fun _ _ _ h => h) (Or.inl ⟨by rfl, ?_⟩) hS ?_
  rotate_left 1
  · intro W hW
    clear hW
    go_simp
    all_goals with_reducible rfl
  try simp only [Act.put, List.setIfInBounds_toArray, List.set_cons_zero, List.set_cons_succ, List.getElem_toArray, List.getElem_cons_succ, List.getElem_cons_zero, Array.toArray_toList]
  refine wpAnyH_take (i := 8) (v := ?_) rfl (by kernel_rfl) (by kernel_rfl) (by kernel_rfl) (fun _ _ _ h => h) (Or.inl ⟨by rfl, ?_⟩) hS ?_
  rotate_left 1
  · intro W hW
    clear hW
    go_simp
    all_goals with_reducible rfl
  try simp only [Act.put, List.setIfInBounds_toArray, List.set_cons_zero, List.set_cons_succ, List.getElem_toArray, List.getElem_cons_succ, List.getElem_cons_zero, Array.toArray_toList]
  refine wpAnyH_ready (rs := [3]) (by kernel_rfl) (by simp) (AllReadyH.cons rfl ?_ AllReadyH.nil)
  intro K1 hK1
  rw [if_pos (by rfl)]
  try simp only [Act.put, List.setIfInBounds_toArray, List.set_cons_zero, List.set_cons_succ, List.getElem_toArray, List.getElem_cons_succ, List.getElem_cons_zero, Array.toArray_toList]
  go_simp
  refine (Hw.out _).mono ?_
  rintro e1 w2 ⟨rfl, hb2⟩
  refine hK1.out _ _ ⟨hS.1.belowX hb2, hS.2.trans (hb2.mono hS.2.size)⟩ (fun hS2 => ?_)
  clear hK1 hS hb2
  have hS := hS2
  clear hS2
  try simp only [Act.put, List.setIfInBounds_toArray, List.set_cons_zero, List.set_cons_succ, List.getElem_toArray, List.getElem_cons_succ, List.getElem_cons_zero, Array.toArray_toList]
  refine wpAnyH_ready (rs := [4]) (by kernel_rfl) (by simp) (AllReadyH.cons rfl ?_ AllReadyH.nil)
  intro K1 hK1
  rw [if_pos (by rfl)]
  try simp only [Act.put, List.setIfInBounds_toArray, List.set_cons_zero, List.set_cons_succ, List.getElem_toArray, List.getElem_cons_succ, List.getElem_cons_zero, Array.toArray_toList]
  go_simp
  refine (Hpd.out _).mono ?_
  rintro e1 w2 ⟨rfl, hb2⟩
  refine hK1.out _ _ ⟨hS.1.belowX hb2, hS.2.trans (hb2.mono hS.2.size)⟩ (fun hS2 => ?_)
  clear hK1 hS hb2
  have hS := hS2
  clear hS2
  try simp only [Act.put, List.setIfInBounds_toArray, List.set_cons_zero, List.set_cons_succ, List.getElem_toArray, List.getElem_cons_succ, List.getElem_cons_zero, Array.toArray_toList]
  refine wpAnyH_ready (rs := [6]) (by kernel_rfl) (by simp) (AllReadyH.cons rfl ?_ AllReadyH.nil)
  intro K1 hK1
  rw [if_pos (by rfl)]
  try simp only [Act.put, List.setIfInBounds_toArray, List.set_cons_zero, List.set_cons_succ, List.getElem_toArray, List.getElem_cons_succ, List.getElem_cons_zero, Array.toArray_toList]
  go_simp
  refine (Hpc.out _).mono ?_
  rintro e1 w2 ⟨rfl, hb2⟩
  refine hK1.out _ _ ⟨hS.1.belowX hb2, hS.2.trans (hb2.mono hS.2.size)⟩ (fun hS2 => ?_)
  clear hK1 hS hb2
  have hS := hS2
  clear hS2
  try simp only [Act.put, List.setIfInBounds_toArray, List.set_cons_zero, List.set_cons_succ, List.getElem_toArray, List.getElem_cons_succ, List.getElem_cons_zero, Array.toArray_toList]
  refine wpAnyH_ready (rs := [9]) (by kernel_rfl) (by simp) (AllReadyH.cons rfl ?_ AllReadyH.nil)
  intro K1 hK1
  rw [if_pos (by rfl)]
  try simp only [Act.put, List.setIfInBounds_toArray, List.set_cons_zero, List.set_cons_succ, List.getElem_toArray, List.getElem_cons_succ, List.getElem_cons_zero, Array.toArray_toList]
  go_simp
  refine (Hr.out _).mono ?_
  rintro e1 w2 ⟨rfl, hb2⟩
  refine hK1.out _ _ ⟨hS.1.belowX hb2, hS.2.trans (hb2.mono hS.2.size)⟩ (fun hS2 => ?_)
  clear hK1 hS hb2
  have hS := hS2
  clear hS2
  try simp only [Act.put, List.setIfInBounds_toArray, List.set_cons_zero, List.set_cons_succ, List.getElem_toArray, List.getElem_cons_succ, List.getElem_cons_zero, Array.toArray_toList]
  refine wpAnyH_take (i := 10) (v := ?_) rfl (by kernel_rfl) (by kernel_rfl) (by kernel_rfl) (fun _ _ _ h => h) (Or.inl ⟨by rfl, ?_⟩) hS ?_
  rotate_left 1
  · intro W hW
    clear hW
    go_simp
    all_goals with_reducible rfl
  try simp only [Act.put, List.setIfInBounds_toArray, List.set_cons_zero, List.set_cons_succ, List.getElem_toArray, List.getElem_cons_succ, List.getElem_cons_zero, Array.toArray_toList]
  refine wpAnyH_take (i := 11) (v := ?_) rfl (by kernel_rfl) (by kernel_rfl) (by kernel_rfl) (fun _ _ _ h => h) (Or.inl ⟨by rfl, ?_⟩) hS ?_
  rotate_left 1
  · intro W hW
    clear hW
    go_simp
    all_goals with_reducible rfl
  try simp only [Act.put, List.setIfInBounds_toArray, List.set_cons_zero, List.set_cons_succ, List.getElem_toArray, List.getElem_cons_succ, List.getElem_cons_zero, Array.toArray_toList]
  refine wpAnyH_take (i := 12) rfl (by kernel_rfl) (by kernel_rfl) (by kernel_rfl) (fun _ _ _ h => h) (yieldsIf_load_mid (by rfl) _ _ rfl _ _ rfl _ _ (fun W hW => hW.1.1) Try.underlying47 rfl (info47c _)) hS ?_
  try simp only [Act.put, List.setIfInBounds_toArray, List.set_cons_zero, List.set_cons_succ, List.getElem_toArray, List.getElem_cons_succ, List.getElem_cons_zero, Array.toArray_toList]
  refine wpAnyH_take (i := 13) (v := ?_) rfl (by kernel_rfl) (by kernel_rfl) (by kernel_rfl) (fun _ _ _ h => h) (Or.inl ⟨by rfl, ?_⟩) hS ?_
  rotate_left 1
  · intro W hW
    clear hW
    go_simp
    all_goals with_reducible rfl
  try simp only [Act.put, List.setIfInBounds_toArray, List.set_cons_zero, List.set_cons_succ, List.getElem_toArray, List.getElem_cons_succ, List.getElem_cons_zero, Array.toArray_toList]
  refine wpAnyH_take (i := 15) rfl (by kernel_rfl) (by kernel_rfl) (by kernel_rfl) (fun _ _ _ h => h) (yieldsIf_load_mid (by rfl) _ _ rfl _ _ rfl _ _ (fun W hW => hW.1.1) Try.underlying47 rfl (info47c _)) hS ?_
  try simp only [Act.put, List.setIfInBounds_toArray, List.set_cons_zero, List.set_cons_succ, List.getElem_toArray, List.getElem_cons_succ, List.getElem_cons_zero, Array.toArray_toList]
  refine wpAnyH_take (i := 17) (v := ?_) rfl (by kernel_rfl) (by kernel_rfl) (by kernel_rfl) (fun _ _ _ h => h) (Or.inl ⟨by rfl, ?_⟩) hS ?_
  rotate_left 1
  · intro W hW
    clear hW
    go_simp
    all_goals with_reducible rfl
  try simp only [Act.put, List.setIfInBounds_toArray, List.set_cons_zero, List.set_cons_succ, List.getElem_toArray, List.getElem_cons_succ, List.getElem_cons_zero, Array.toArray_toList]
  refine wpAnyH_ready (rs := [14]) (by kernel_rfl) (by simp) (AllReadyH.cons rfl ?_ AllReadyH.nil)
  intro K1 hK1
  rw [if_pos (by rfl)]
  try simp only [Act.put, List.setIfInBounds_toArray, List.set_cons_zero, List.set_cons_succ, List.getElem_toArray, List.getElem_cons_succ, List.getElem_cons_zero, Array.toArray_toList]
  go_simp
  refine (Hrd.out _).mono ?_
  rintro e1 w2 ⟨rfl, hb2⟩
  refine hK1.out _ _ ⟨hS.1.belowX hb2, hS.2.trans (hb2.mono hS.2.size)⟩ (fun hS2 => ?_)
  clear hK1 hS hb2
  have hS := hS2
  clear hS2
  try simp only [Act.put, List.setIfInBounds_toArray, List.set_cons_zero, List.set_cons_succ, List.getElem_toArray, List.getElem_cons_succ, List.getElem_cons_zero, Array.toArray_toList]
  refine wpAnyH_ready (rs := [16]) (by kernel_rfl) (by simp) (AllReadyH.cons rfl ?_ AllReadyH.nil)
  intro K1 hK1
  rw [if_pos (by rfl)]
  try simp only [Act.put, List.setIfInBounds_toArray, List.set_cons_zero, List.set_cons_succ, List.getElem_toArray, List.getElem_cons_succ, List.getElem_cons_zero, Array.toArray_toList]
  go_simp
  refine (Hpc.out _).mono ?_
  rintro e1 w2 ⟨rfl, hb2⟩
  refine hK1.out _ _ ⟨hS.1.belowX hb2, hS.2.trans (hb2.mono hS.2.size)⟩ (fun hS2 => ?_)
  clear hK1 hS hb2
  have hS := hS2
  clear hS2
  try simp only [Act.put, List.setIfInBounds_toArray, List.set_cons_zero, List.set_cons_succ, List.getElem_toArray, List.getElem_cons_succ, List.getElem_cons_zero, Array.toArray_toList]
  refine wpAnyH_ready (rs := [18]) (by kernel_rfl) (by simp) (AllReadyH.cons rfl ?_ AllReadyH.nil)
  intro K1 hK1
  rw [if_pos (by rfl)]
  try simp only [Act.put, List.setIfInBounds_toArray, List.set_cons_zero, List.set_cons_succ, List.getElem_toArray, List.getElem_cons_succ, List.getElem_cons_zero, Array.toArray_toList]
  go_simp
  refine (Hrr.out _).mono ?_
  rintro e1 w2 ⟨rfl, hb2⟩
  refine hK1.out _ _ ⟨hS.1.belowX hb2, hS.2.trans (hb2.mono hS.2.size)⟩ (fun hS2 => ?_)
  clear hK1 hS hb2
  have hS := hS2
  clear hS2
  try simp only [Act.put, List.setIfInBounds_toArray, List.set_cons_zero, List.set_cons_succ, List.getElem_toArray, List.getElem_cons_succ, List.getElem_cons_zero, Array.toArray_toList]
  refine wpAnyH_take (i := 19) (v := ?_) rfl (by kernel_rfl) (by kernel_rfl) (by kernel_rfl) (fun _ _ _ h => h) (Or.inl ⟨by rfl, ?_⟩) hS ?_
  rotate_left 1
  · intro W hW
    clear hW
    go_simp
    all_goals with_reducible rfl
  try simp only [Act.put, List.setIfInBounds_toArray, List.set_cons_zero, List.set_cons_succ, List.getElem_toArray, List.getElem_cons_succ, List.getElem_cons_zero, Array.toArray_toList]
  refine wpAnyH_take (i := 20) (v := ?_) rfl (by kernel_rfl) (by kernel_rfl) (by kernel_rfl) (fun _ _ _ h => h) (Or.inl ⟨by rfl, ?_⟩) hS ?_
  rotate_left 1
  · intro W hW
    clear hW
    go_simp
    all_goals with_reducible rfl
  try simp only [Act.put, List.setIfInBounds_toArray, List.set_cons_zero, List.set_cons_succ, List.getElem_toArray, List.getElem_cons_succ, List.getElem_cons_zero, Array.toArray_toList]
  refine wpAnyH_take (i := 21) (v := ?_) rfl (by kernel_rfl) (by kernel_rfl) (by kernel_rfl) (fun _ _ _ h => h) (Or.inl ⟨by rfl, ?_⟩) hS ?_
  rotate_left 1
  · intro W hW
    clear hW
    go_simp
    all_goals with_reducible rfl
  try simp only [Act.put, List.setIfInBounds_toArray, List.set_cons_zero, List.set_cons_succ, List.getElem_toArray, List.getElem_cons_succ, List.getElem_cons_zero, Array.toArray_toList]
  refine wpAnyH_done (by kernel_rfl) ?_ _
  have hbl := hS.2
  clear hS
  go_wp2_with fail
  go_returns
  exact ⟨rfl, hbl⟩
end Go.Proofs.Ytmoafjgogbcoeaa
