/- The arbiter's Play: an iterator that writes its own captured variable, by its contract. -/
import Derived.RangeFuncNested
import Derived.RangeFuncBound
import Derived.RangeFuncCalls
import Derived.RangeFuncLeaves
import Derived.Shelf.Abstract
import Derived.Shelf.RegionOpen
import Derived.WalkKit
import Derived.OwnWalkIn
import Derived.TacticsInMore
import Derived.LoopNIn
import Derived.LoopIn
import Derived.Maps.AppendAt
import Derived.Test.YtmoafjgogbcoeaaArW
namespace Go.Proofs.Ytmoafjgogbcoeaa
open Go.RowKit Go.Shelf
attribute [local go_sem] Oper.semAt_some
set_option linter.unusedVariables false
set_option linter.unusedSimpArgs false
set_option maxRecDepth 100000
/-- Whose it is ahead of the k-th state. -/
def M.arO (m o : Int) (LL : List (List Bool)) (B : List Bool) : Nat → Int
  | 0 => o
  | k + 1 => M.arTick m (M.arO m o LL B k) (LL.getD k []) (B.getD k false)
def M.arOs (m o : Int) (LL : List (List Bool)) (B : List Bool) (k : Nat) : List Int := (List.range k).map fun j : Nat => M.arO m o LL B (j + 1)
theorem M.arOs_len (m o : Int) (LL : List (List Bool)) (B : List Bool) (k : Nat) : (M.arOs m o LL B k).length = k := by simp [M.arOs]
theorem M.arOs_succ (m o : Int) (LL : List (List Bool)) (B : List Bool) (k : Nat) : M.arOs m o LL B (k + 1) = M.arOs m o LL B k ++ [M.arO m o LL B (k + 1)] := by simp [M.arOs, List.range_succ]
set_option maxHeartbeats 4000000 in
theorem states_any (m o : Int) (s1 s2 : Value) (A1 : Option Addr) (n1 c1 : Nat) (A2 : Option Addr) (n2 c2 : Nat) (w : World) : Calls Try.prog 61 #[.agg #[.int .i64 m, .int .i64 o], .slice A1 n1 c1, .slice A2 n2 c2] w fun e w' =>
    e = .returned (.func (.func 78) #[] #[.pointer (some ⟨w.heap.size + 2, 0, none⟩), .pointer (some ⟨w.heap.size, 0, none⟩), .pointer (some ⟨w.heap.size + 1, 0, none⟩)]) ∧ ((w.alloc (.cells #[.int .i64 m, .int .i64 o] 23)).alloc (.cells #[.slice A1 n1 c1] 36)).alloc (.cells #[.slice A2 n2 c2] 24) = w' := by
  go_enter Try.func61, Try.ntmps61
  go_wp2_with fail
  go_ret
  exact ⟨rfl, rfl⟩
theorem arLen {W : World} {A : Option Addr} {c : Nat} {L : List Bool} (hl : Ls 0 W (.slice A L.length c) (bls L)) : L.length ≤ maxLen := by
  obtain ⟨_, _, _, h1, h2, _⟩ := hl.shp
  rw [bls_length] at h1
  omega
theorem scN : Scalar Try.prog 36 := ⟨⟨_, Try.underlying36, rfl⟩, by kernel_rfl⟩
set_option maxHeartbeats 4000000 in
theorem states1_in (n l bs ba bm : Nat) (m o : Int) (hn : 2 ≤ n) (LL : List (List Bool)) (B : List Bool) (A1 : Option Addr) (n1 c1 : Nat) (A2 : Option Addr) (c2 : Nat) (hB : B.length ≤ maxLen) (hm : -9223372036854775808 ≤ m ∧ m ≤ 9223372036854775807)
    (Jg : Nat → Nat → World → Prop)
    (hJ : ∀ i j W, Jg i j W → W.rangeAt bs 0 [.int .i64 m, .int .i64 (M.arO m o LL B i)] ∧ W.there bs 0 2 ∧ bs < W.heap.size ∧ W.cell? ⟨ba, 0, none⟩ = some (.slice A1 n1 c1) ∧ W.cell? ⟨bm, 0, none⟩ = some (.slice A2 B.length c2) ∧ N2 W A1 n1 c1 LL ∧ Ls 0 W (.slice A2 B.length c2) (bls B))
    (hJB : ∀ i j W W', Jg i j W → Below W.heap.size W W' → Jg i j W')
    (hJS : ∀ i j W, Jg i j W → Jg (i + 1) j (W.setCells bs 0 [.int .i64 m, .int .i64 (M.arO m o LL B (i + 1))]))
    (hY : ∀ k W, k < B.length → Jg (k + 1) k W → YieldAt Fence.wide (n - 1) Try.prog l #[.agg #[.int .i64 m, .int .i64 (M.arO m o LL B (k + 1))]] W fun e W' => e = .returned (.bool true) ∧ Jg (k + 1) (k + 1) W')
    (W : World) (h0 : Jg 0 0 W) :
    CallsIn Fence.wide n Try.prog 78 #[.func (.yield l) #[] #[], .pointer (some ⟨bm, 0, none⟩), .pointer (some ⟨bs, 0, none⟩), .pointer (some ⟨ba, 0, none⟩)] W fun e W' => (∃ v, e = .returned v) ∧ Jg B.length B.length W' := by
  have h1 : 1 ≤ n := by omega
  simp only [maxLen] at hB
  have HJ := Lib.hid hJ
  have HJB := Lib.hid hJB
  have HJS := Lib.hid hJS
  have HY := Lib.hid hY
  clear hJ hJB hJS hY
  have hcm := (HJ.out 0 0 W h0).2.2.2.2.1
  refine callsIn_of_wp Try.func78 rfl trivial ?_ rfl
  simp only [Try.ntmps78, List.size_toArray, List.length_cons, List.length_nil, Nat.reduceAdd, Nat.reduceSub, Array.replicate_succ, Array.replicate_zero, List.push_toArray, List.append_toArray, List.nil_append, List.cons_append]
  gi_wp2
  gi_loopw [9] (fun i wr => ∃ k : Nat, i = .int .i64 k ∧ k ≤ B.length ∧ Jg k k wr) (fun i _ => B.length - (intOf i).toNat)
  case atStart => exact ⟨0, rfl, Nat.zero_le _, h0⟩
  case round =>
    obtain ⟨k, rfl, hk, hj⟩ := hrel
    have hs1 := (HJ.out k k wr hj).1
    by_cases k1 : k < B.length
    · have k1' : (k : Int) < (B.length : Int) := by omega
      have k0' : (0 : Int) ≤ (k : Int) := by omega
      obtain ⟨x1, q1, rfl, hkc, hcell⟩ := arBx (HJ.out k k wr hj).2.2.2.2.2.2 k1
      have hT : ∀ W A' c', Ls 0 W (.slice A' (LL.getD k []).length c') (bls (LL.getD k [])) → Calls Try.prog 21 #[.agg #[.int .i64 m, .int .i64 (M.arO m o LL B k)], .slice A' (LL.getD k []).length c', .bool (B.getD k false)] W fun e w' => e = .returned (.agg #[.int .i64 m, .int .i64 (M.arO m o LL B (k + 1))]) ∧ Below W.heap.size W w' :=
        fun W A' c' hl => arTick_any m (M.arO m o LL B k) hm (LL.getD k []) (arLen hl) A' c' _ W hl
      have hA : ∀ W, Jg k k W → Calls Try.prog 62 #[.slice A1 n1 c1, .int .i64 (k : Int)] W fun e w' => (∃ A' c', e = .returned (.slice A' (LL.getD k []).length c') ∧ Ls 0 W (.slice A' (LL.getD k []).length c') (bls (LL.getD k []))) ∧ W = w' :=
        fun W h => arat_any A1 n1 c1 LL k W (HJ.out _ _ _ h).2.2.2.2.2.1
      have hR0 : ∀ W, Jg k k W → W.rangeAt bs 0 [.int .i64 m, .int .i64 (M.arO m o LL B k)] ∧ W.there bs 0 2 := fun W h => ⟨(HJ.out _ _ _ h).1, (HJ.out _ _ _ h).2.1⟩
      have hR1 : ∀ W, Jg (k + 1) k W → W.rangeAt bs 0 [.int .i64 m, .int .i64 (M.arO m o LL B (k + 1))] := fun W h => (HJ.out _ _ _ h).1
      have hS1 : ∀ W, Jg k k W → Jg (k + 1) k (W.setCells bs 0 [.int .i64 m, .int .i64 (M.arO m o LL B (k + 1))]) := fun W h => HJS.out _ _ _ h
      have hY1 := fun W h => HY.out k W k1 h
      have hC1 : ∀ W, Jg k k W ∨ Jg (k + 1) k W → W.cell? ⟨ba, 0, none⟩ = some (.slice A1 n1 c1) := fun W h => by rcases h with h | h <;> exact (HJ.out _ _ _ h).2.2.2.1
      generalize B.getD k false = bv at hT hcell
      generalize M.arO m o LL B k = s0 at hT hR0 hs1
      generalize M.arO m o LL B (k + 1) = s1 at hT hR1 hS1 hY1
      generalize LL.getD k [] = ak at hT hA
      have HT := Lib.hid hT
      have HA := Lib.hid hA
      have HR0 := Lib.hid hR0
      have HR1 := Lib.hid hR1
      have HS1 := Lib.hid hS1
      have HY1 := Lib.hid hY1
      have HC1 := Lib.hid hC1
      clear hT hA hR0 hR1 hS1 hY1 hC1 hs1
      gi_wp2
      refine wpIn_wide.2 ?_
      refine wp_region_held_drew (S := fun W => Jg k k W ∨ Jg (k + 1) k W) (by kernel_rfl) (.inl (HJB.out _ _ _ _ hj (Below.refl _ _).drew)) ?_
      intro _
      replace hj := HJB.out _ _ _ _ hj (Below.refl _ _).drew
      generalize World.drew _ = wX at hj ⊢
      refine wpAnyH_take (i := 1) rfl (by kernel_rfl) (by kernel_rfl) (by kernel_rfl) (fun _ _ _ h => h) (yields_one (by rfl) _ _ rfl _ _ rfl scN _ (fun W hW => HC1.out W hW)) (.inl hj) ?_
      try simp only [Act.put, List.setIfInBounds_toArray, List.set_cons_zero, List.set_cons_succ, List.getElem_toArray, List.getElem_cons_succ, List.getElem_cons_zero]
      refine wpAnyH_take (i := 2) (v := ?_) rfl (by kernel_rfl) (by kernel_rfl) (by kernel_rfl) (fun _ _ _ h => h) (Or.inl ⟨by rfl, ?_⟩) (.inl hj) ?_
      rotate_left 1
      · intro W hW
        clear hW
        go_simp
        all_goals with_reducible rfl
      try simp only [Act.put, List.setIfInBounds_toArray, List.set_cons_zero, List.set_cons_succ, List.getElem_toArray, List.getElem_cons_succ, List.getElem_cons_zero]
      refine wpAnyH_take (i := 4) (v := ?_) rfl (by kernel_rfl) (by kernel_rfl) (by kernel_rfl) (fun _ _ _ h => h) (Or.inl ⟨by rfl, ?_⟩) (.inl hj) ?_
      rotate_left 1
      · intro W hW
        clear hW
        go_simp
        all_goals with_reducible rfl
      try simp only [Act.put, List.setIfInBounds_toArray, List.set_cons_zero, List.set_cons_succ, List.getElem_toArray, List.getElem_cons_succ, List.getElem_cons_zero]
      refine wpAnyH_ready (rs := [0, 3]) (by kernel_rfl) (by simp) (AllReadyH.cons rfl ?_ (AllReadyH.cons rfl ?_ AllReadyH.nil))
      · intro K1 hK1
        rw [if_pos (by rfl)]
        try simp only [Act.put, List.setIfInBounds_toArray, List.set_cons_zero, List.set_cons_succ, List.getElem_toArray, List.getElem_cons_succ, List.getElem_cons_zero]
        refine wp_load_mid _ _ rfl _ _ rfl _ _ (HR0.out _ hj).1 Try.underlying23 rfl (arI.trans rfl) ?_
        refine hK1.out _ _ (.inl hj) (fun _ => ?_)
        clear hK1
        try simp only [Act.put, List.setIfInBounds_toArray, List.set_cons_zero, List.set_cons_succ, List.getElem_toArray, List.getElem_cons_succ, List.getElem_cons_zero]
        refine wpAnyH_ready (rs := [3]) (by kernel_rfl) (by simp) (AllReadyH.cons rfl ?_ AllReadyH.nil)
        intro K1 hK1
        rw [if_pos (by rfl)]
        try simp only [Act.put, List.setIfInBounds_toArray, List.set_cons_zero, List.set_cons_succ, List.getElem_toArray, List.getElem_cons_succ, List.getElem_cons_zero]
        go_simp
        refine (HA.out _ hj).mono ?_
        rintro e1 v2 ⟨⟨A', c', rfl, hl⟩, rfl⟩
        replace hl := Lib.hid hl
        refine hK1.out _ _ (.inl hj) (fun _ => ?_)
        clear hK1
        try simp only [Act.put, List.setIfInBounds_toArray, List.set_cons_zero, List.set_cons_succ, List.getElem_toArray, List.getElem_cons_succ, List.getElem_cons_zero]
        refine wpAnyH_ready (rs := [5]) (by kernel_rfl) (by simp) (AllReadyH.cons rfl ?_ AllReadyH.nil)
        intro K1 hK1
        rw [if_pos (by rfl)]
        try simp only [Act.put, List.setIfInBounds_toArray, List.set_cons_zero, List.set_cons_succ, List.getElem_toArray, List.getElem_cons_succ, List.getElem_cons_zero]
        go_simp
        refine (HT.out _ _ _ hl.out).mono ?_
        rintro e1 v2 ⟨rfl, hb⟩
        replace hj := HJB.out _ _ _ _ hj hb
        clear hb
        refine hK1.out _ _ (.inl hj) (fun _ => ?_)
        clear hK1
        try simp only [Act.put, List.setIfInBounds_toArray, List.set_cons_zero, List.set_cons_succ, List.getElem_toArray, List.getElem_cons_succ, List.getElem_cons_zero]
        refine wpAnyH_ready (rs := [6]) (by kernel_rfl) (by simp) (AllReadyH.cons rfl ?_ AllReadyH.nil)
        intro K1 hK1
        rw [if_pos (by rfl)]
        try simp only [Act.put, List.setIfInBounds_toArray, List.set_cons_zero, List.set_cons_succ, List.getElem_toArray, List.getElem_cons_succ, List.getElem_cons_zero]
        refine wp_store_mid _ _ _ rfl _ _ _ rfl rfl (HR0.out _ hj).2 (arI.trans rfl) (st_one _ _) ?_
        replace hj := HS1.out _ hj
        generalize World.setCells _ _ _ _ = wY at hj ⊢
        refine hK1.out _ _ (.inr hj) (fun _ => ?_)
        clear hK1
        try simp only [Act.put, List.setIfInBounds_toArray, List.set_cons_zero, List.set_cons_succ, List.getElem_toArray, List.getElem_cons_succ, List.getElem_cons_zero]
        refine wpAnyH_done (by kernel_rfl) ?_ _
        have g0 := HR1.out _ hj 0 _ rfl
        have g1 := HR1.out _ hj 1 _ rfl
        simp only [Nat.add_zero, Nat.zero_add] at g0 g1
        obtain ⟨fn, tmps, assign, body, hy, hR⟩ := HY1.out _ hj
        gi_wp2
        refine hR.mono ?_
        rintro e W3 ⟨rfl, hj3⟩
        gi_wp2
        go_roundw
        case rel => exact ⟨k + 1, by simp, by omega, hj3⟩
        case measure => simp [intOf]; omega
      · intro K1 hK1
        rw [if_pos (by rfl)]
        try simp only [Act.put, List.setIfInBounds_toArray, List.set_cons_zero, List.set_cons_succ, List.getElem_toArray, List.getElem_cons_succ, List.getElem_cons_zero]
        go_simp
        refine (HA.out _ hj).mono ?_
        rintro e1 v2 ⟨⟨A', c', rfl, hl⟩, rfl⟩
        replace hl := Lib.hid hl
        refine hK1.out _ _ (.inl hj) (fun _ => ?_)
        clear hK1
        try simp only [Act.put, List.setIfInBounds_toArray, List.set_cons_zero, List.set_cons_succ, List.getElem_toArray, List.getElem_cons_succ, List.getElem_cons_zero]
        refine wpAnyH_ready (rs := [0]) (by kernel_rfl) (by simp) (AllReadyH.cons rfl ?_ AllReadyH.nil)
        intro K1 hK1
        rw [if_pos (by rfl)]
        try simp only [Act.put, List.setIfInBounds_toArray, List.set_cons_zero, List.set_cons_succ, List.getElem_toArray, List.getElem_cons_succ, List.getElem_cons_zero]
        refine wp_load_mid _ _ rfl _ _ rfl _ _ (HR0.out _ hj).1 Try.underlying23 rfl (arI.trans rfl) ?_
        refine hK1.out _ _ (.inl hj) (fun _ => ?_)
        clear hK1
        try simp only [Act.put, List.setIfInBounds_toArray, List.set_cons_zero, List.set_cons_succ, List.getElem_toArray, List.getElem_cons_succ, List.getElem_cons_zero]
        refine wpAnyH_ready (rs := [5]) (by kernel_rfl) (by simp) (AllReadyH.cons rfl ?_ AllReadyH.nil)
        intro K1 hK1
        rw [if_pos (by rfl)]
        try simp only [Act.put, List.setIfInBounds_toArray, List.set_cons_zero, List.set_cons_succ, List.getElem_toArray, List.getElem_cons_succ, List.getElem_cons_zero]
        go_simp
        refine (HT.out _ _ _ hl.out).mono ?_
        rintro e1 v2 ⟨rfl, hb⟩
        replace hj := HJB.out _ _ _ _ hj hb
        clear hb
        refine hK1.out _ _ (.inl hj) (fun _ => ?_)
        clear hK1
        try simp only [Act.put, List.setIfInBounds_toArray, List.set_cons_zero, List.set_cons_succ, List.getElem_toArray, List.getElem_cons_succ, List.getElem_cons_zero]
        refine wpAnyH_ready (rs := [6]) (by kernel_rfl) (by simp) (AllReadyH.cons rfl ?_ AllReadyH.nil)
        intro K1 hK1
        rw [if_pos (by rfl)]
        try simp only [Act.put, List.setIfInBounds_toArray, List.set_cons_zero, List.set_cons_succ, List.getElem_toArray, List.getElem_cons_succ, List.getElem_cons_zero]
        refine wp_store_mid _ _ _ rfl _ _ _ rfl rfl (HR0.out _ hj).2 (arI.trans rfl) (st_one _ _) ?_
        replace hj := HS1.out _ hj
        generalize World.setCells _ _ _ _ = wY at hj ⊢
        refine hK1.out _ _ (.inr hj) (fun _ => ?_)
        clear hK1
        try simp only [Act.put, List.setIfInBounds_toArray, List.set_cons_zero, List.set_cons_succ, List.getElem_toArray, List.getElem_cons_succ, List.getElem_cons_zero]
        refine wpAnyH_done (by kernel_rfl) ?_ _
        have g0 := HR1.out _ hj 0 _ rfl
        have g1 := HR1.out _ hj 1 _ rfl
        simp only [Nat.add_zero, Nat.zero_add] at g0 g1
        obtain ⟨fn, tmps, assign, body, hy, hR⟩ := HY1.out _ hj
        gi_wp2
        refine hR.mono ?_
        rintro e W3 ⟨rfl, hj3⟩
        gi_wp2
        go_roundw
        case rel => exact ⟨k + 1, by simp, by omega, hj3⟩
        case measure => simp [intOf]; omega
    · have k1' : ¬ ((k : Int) < (B.length : Int)) := by omega
      obtain rfl : k = B.length := by omega
      gi_wp2
      go_end0
      exact ⟨⟨_, rfl⟩, hj⟩
end Go.Proofs.Ytmoafjgogbcoeaa
