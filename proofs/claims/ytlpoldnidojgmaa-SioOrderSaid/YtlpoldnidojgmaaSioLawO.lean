/- charabanclaw25.SioOrder is true at whatever bytes and channel. -/
import Derived.Test.YtlpoldnidojgmaaSioAwake
import Derived.Test.YtlpoldnidojgmaaSioOrd
import Derived.Test.YtlpoldnidojgmaaSlRow
namespace Go.Proofs.Ytlpoldnidojgmaa
open Go.RowKit
set_option linter.unusedVariables false
set_option linter.unusedSimpArgs false
set_option maxRecDepth 100000
def M.ordT (g : Nat → Int) (n : Nat) : Nat → M.Cn
  | 0 => M.ordC g n
  | 1 => M.ordX (if 1 < n then g 1 else 0) (if 2 < n then g (n - 1) else 0) 0 ((if 2 < n then 3 else (n : Int)) - 1) (decide (3 < n)) 0
  | 2 => M.ordX (if 2 < n then g (n - 1) else 0) 0 0 ((if 2 < n then 3 else (n : Int)) - 1 - 1) (decide (3 < n)) 0
  | _ => M.ordX 0 0 0 ((if 2 < n then 3 else (n : Int)) - 1 - 1 - 1) (decide (3 < n)) 0
theorem M.ordT_ok {g : Nat → Int} {n k : Nat} (h : ∀ i, i < n → 0 ≤ g i ∧ g i ≤ 255) (hk : k ≤ n) (h3 : k ≤ 3) : (M.ordT g n k).ok := by
  have z : 0 ≤ (0 : Int) ∧ (0 : Int) ≤ 255 := by decide
  have i1 : 0 ≤ (if 1 < n then g 1 else 0) ∧ (if 1 < n then g 1 else 0) ≤ 255 := by split; exact h 1 (by omega); exact z
  have i2 : 0 ≤ (if 2 < n then g (n - 1) else 0) ∧ (if 2 < n then g (n - 1) else 0) ≤ 255 := by split; exact h (n - 1) (by omega); exact z
  rcases (show k = 0 ∨ k = 1 ∨ k = 2 ∨ k = 3 by omega) with rfl | rfl | rfl | rfl
  · exact M.ordC_ok h
  · exact M.ordX_ok i1 i2 z (by split <;> omega) (by decide)
  · exact M.ordX_ok i2 z z (by split <;> omega) (by decide)
  · exact M.ordX_ok z z z (by split <;> omega) (by decide)
theorem M.ordT_step (g : Nat → Int) (n k c : Nat) (hc : c < 2) (hk : k < n) (h3 : k < 3) : M.sReadP (M.ordS c (M.ordT g n k)) (2 * c) = M.ordS c (M.ordT g n (k + 1)) ∧ M.sReadV (M.ordS c (M.ordT g n k)) (2 * c) = if k = 2 then g (n - 1) else g k := by
  rcases (show k = 0 ∨ k = 1 ∨ k = 2 by omega) with rfl | rfl | rfl
  · have := M.ord_take (if 0 < n then g 0 else 0) (if 1 < n then g 1 else 0) (if 2 < n then g (n - 1) else 0) (if 2 < n then 3 else n) (decide (3 < n)) (by split <;> omega) c hc
    refine ⟨this.1, this.2.trans ?_⟩
    rw [if_pos (by omega), if_neg (by decide)]
  · have := M.ord_take (if 1 < n then g 1 else 0) (if 2 < n then g (n - 1) else 0) 0 ((if 2 < n then 3 else (n : Int)) - 1) (decide (3 < n)) (by split <;> omega) c hc
    refine ⟨this.1, this.2.trans ?_⟩
    rw [if_pos (by omega), if_neg (by decide)]
  · have := M.ord_take (if 2 < n then g (n - 1) else 0) 0 0 ((if 2 < n then 3 else (n : Int)) - 1 - 1) (decide (3 < n)) (by split <;> omega) c hc
    refine ⟨this.1, this.2.trans ?_⟩
    rw [if_pos (by omega), if_pos rfl]
theorem M.ordT_end (g : Nat → Int) (n k c : Nat) (hc : c < 2) (hk : k ≤ n) (h3 : k ≤ 3) (h : ¬ (k < n ∧ k < 3)) : bits .and .u8 (M.sReadV (M.ordS c (M.ordT g n k)) (2 * c + 1)) 1 = 0 := by
  rcases (show k = 0 ∨ k = 1 ∨ k = 2 ∨ k = 3 by omega) with rfl | rfl | rfl | rfl
  · obtain rfl : n = 0 := by omega
    exact M.ord_left _ _ _ _ c hc
  · obtain rfl : n = 1 := by omega
    exact M.ord_left _ _ _ _ c hc
  · obtain rfl : n = 2 := by omega
    exact M.ord_left _ _ _ _ c hc
  · have e : ((if 2 < n then 3 else (n : Int)) - 1 - 1 - 1 : Int) = 0 := by rw [if_pos (by omega)]; rfl
    show bits .and .u8 (M.sReadV (M.ordS c (M.ordX 0 0 0 ((if 2 < n then 3 else (n : Int)) - 1 - 1 - 1) (decide (3 < n)) 0)) (2 * c + 1)) 1 = 0
    rw [e]
    exact M.ord_left _ _ _ _ c hc
theorem M.ordT_ask (g : Nat → Int) (n c : Nat) (hc : c < 2) : ∃ x : M.Cn, M.sWrite (M.ordS c (M.ordC g n)) (2 * c + 1) 1 = M.ordS c x ∧ M.sReadP (M.ordS c x) (2 * c + 1) = M.ordS c (M.ordT g n 0) ∧ (bits .and .u8 (M.sReadV (M.ordS c x) (2 * c + 1)) 32 != 0) = decide (3 < n) ∧ ((∀ i, i < n → 0 ≤ g i ∧ g i ≤ 255) → x.ok) := by
  have hn : (if 2 < n then 3 else (n : Int)) = 0 ∨ (if 2 < n then 3 else (n : Int)) = 1 ∨ (if 2 < n then 3 else (n : Int)) = 2 ∨ (if 2 < n then 3 else (n : Int)) = 3 := by split <;> omega
  have h2 := M.ord_told (if 0 < n then g 0 else 0) (if 1 < n then g 1 else 0) (if 2 < n then g (n - 1) else 0) _ (decide (3 < n)) hn c hc
  refine ⟨_, M.ord_ask _ _ _ _ _ hn c hc, h2.1, ?_, fun h => ?_⟩
  · rw [h2.2]
    exact M.ord_bit _
  · have z : 0 ≤ (0 : Int) ∧ (0 : Int) ≤ 255 := by decide
    refine M.ordX_ok ?_ ?_ ?_ ?_ (by decide)
    · split
      · exact h 0 (by omega)
      · exact z
    · split
      · exact h 1 (by omega)
      · exact z
    · split
      · exact h (n - 1) (by omega)
      · exact z
    · split
      · decide
      · omega
set_option maxHeartbeats 16000000 in
theorem sorder_true (A1 : Option Addr) (n1 p1 : Nat) (L : List Int) (a : Int) (w : World) (hl : L.length = n1) (hm : n1 ≤ maxLen) (r1 : Ls 0 w (.slice A1 n1 p1) (ints .u8 L)) (hw : ∀ n ∈ L, 0 ≤ n ∧ n ≤ 255) :
    Calls Try.prog 6 #[.slice A1 n1 p1, .int .i64 a] w fun e' w' => e' = .returned (.bool true) ∧ Below w.heap.size w w' := by
  simp only [maxLen] at hm
  obtain ⟨c, hc, e1⟩ := M.andOne a
  obtain ⟨g, hgd⟩ : ∃ g : Nat → Int, g = fun i => L.getD i 0 := ⟨_, rfl⟩
  have hg : ∀ i, i < n1 → 0 ≤ g i ∧ g i ≤ 255 := fun i hi => by rw [hgd]; exact hw _ (getD_mem (by omega))
  have hat : ∀ i, i < n1 → ∃ b q, A1 = some ⟨b, q, none⟩ ∧ w.cell? ⟨b, q + i, none⟩ = some (.int .u8 (g i)) := fun i hi => by
    obtain ⟨b, q, cp, hs, _, _, hcell⟩ := r1.at_ (i := i) (by omega)
    simp only [Value.slice.injEq] at hs
    exact ⟨b, q, hs.1, by rw [hgd]; exact hcell⟩
  have HG := Lib.hid hg
  have HW := Lib.hid hw
  have HA := Lib.hid hat
  obtain ⟨x, x1, x2, x3, x4⟩ := M.ordT_ask g n1 c hc
  have xok := x4 hg
  have X1 := Lib.hid x1
  have X2 := Lib.hid x2
  have X3 := Lib.hid x3
  clear hg hw hgd r1 hl hat x1 x2 x3 x4
  have hS := St.start w.heap.size 0 0 w
  go_enter Try.func6, Try.ntmps6
  go_wp2_with fail
  refine (sawake_any _).mono ?_
  rintro e w1 ⟨rfl, hb⟩
  replace hS := hS.call hb
  clear hb
  by_cases g1 : 20 < n1
  · go_wp2_with fail
    go_returns
    exact ⟨rfl, hS.below⟩
  · go_wp2_with fail
    refine (swrite_any M.si0 _ _ (by decide) (by decide) _).mono ?_
    rintro e w1 ⟨rfl, hb⟩
    replace hS := hS.call hb
    clear hb
    go_wp2_with fail
    refine (swrite_any _ _ _ (by decide) (by decide) _).mono ?_
    rintro e w1 ⟨rfl, hb⟩
    replace hS := hS.call hb
    clear hb
    rw [M.ord_start g c hc]
    go_wp2_with (first
  | ((with_reducible refine to_alloc 28 rfl ?_); refine Wl_alloc hS (fun _ => by rfl) _ siZ ?_; clear hS; intro b7 wW hS; simp only [Act.put, List.setIfInBounds_toArray, List.set_cons_zero, List.set_cons_succ])
  | ((with_reducible refine to_load 28 rfl ?_); refine Wl_load hS (fun _ => by rfl) _ _ rfl _ Try.underlying28 rfl ?_; (repeat (first | (refine Row.here ⟨siI.trans rfl, ?_⟩) | refine Row.next ?_)); (with_reducible show wpList _ _ _ _ _ _); simp only [Act.put, List.setIfInBounds_toArray, List.set_cons_zero, List.set_cons_succ])
  | ((with_reducible refine to_store 28 rfl ?_); refine Wl_store hS (fun _ => by rfl) _ _ _ rfl rfl (siI.trans rfl) (si_one _) ?_; (repeat (first | refine Turn.here rfl ?_ | refine Turn.next ?_)); clear hS; intro wW hS; try simp only [Act.put, List.setIfInBounds_toArray, List.set_cons_zero, List.set_cons_succ]))
    have HS0 := Lib.hid hS
    clear hS
    go_loopw [8] (fun i wr => ∃ m : Nat, i = .int .i64 m ∧ m ≤ n1 ∧ St w.heap.size 0 0 w [⟨b7, 0, true, (M.ordS c (M.ordC g m)).a⟩] wr) (fun i _ => n1 - (intOf i).toNat)
    case atStart => exact ⟨0, rfl, Nat.zero_le _, HS0.out⟩
    case round =>
      clear HS0
      obtain ⟨m, rfl, hmb, hS⟩ := hrel
      by_cases k1 : m < n1
      · obtain ⟨b, q, rfl, hcell⟩ := HA.out m k1
        replace hS := hS.one hcell
        have k1' : (m : Int) < (n1 : Int) := by omega
        have k0' : (0 : Int) ≤ (m : Int) := by omega
        have hok := M.ordS_ok (c := c) (M.ordC_ok (g := g) (m := m) (fun i hi => HG.out i (by omega)))
        have h1 := fun W => srecv_any (M.ordS c (M.ordC g m)) hok c (g m) W
        simp only [M.ord_step g c hc m] at h1
        have H1 := Lib.hid h1
        clear h1 hok
        go_wp2_with fail
        refine wp_region_held_drew (S := fun W => St w.heap.size 0 0 w [⟨b, q + m, false, #[.int .u8 (g m)]⟩] W) (by kernel_rfl) (hS.drew.sub (by repeat (first | exact List.Sublist.slnil | apply List.Sublist.cons_cons | apply List.Sublist.cons))) ?_
        intro _
        replace hS := hS.drew
        generalize World.drew _ = wX at hS ⊢
        refine wpAnyH_take (i := 1) (v := ?_) rfl (by kernel_rfl) (by kernel_rfl) (by kernel_rfl) (fun _ _ _ h => h) (Or.inl ⟨by rfl, ?_⟩) (hS.sub (by repeat (first | exact List.Sublist.slnil | apply List.Sublist.cons_cons | apply List.Sublist.cons))) ?_
        rotate_left 1
        · intro W hW
          clear hW
          go_simp
          all_goals with_reducible rfl
        try simp only [Act.put, List.setIfInBounds_toArray, List.set_cons_zero, List.set_cons_succ, List.getElem_toArray, List.getElem_cons_succ, List.getElem_cons_zero]
        refine wpAnyH_take (i := 2) (v := ?_) rfl (by kernel_rfl) (by kernel_rfl) (by kernel_rfl) (fun _ _ _ h => h) (Or.inl ⟨by rfl, ?_⟩) (hS.sub (by repeat (first | exact List.Sublist.slnil | apply List.Sublist.cons_cons | apply List.Sublist.cons))) ?_
        rotate_left 1
        · intro W hW
          clear hW
          go_simp
          all_goals with_reducible rfl
        try simp only [Act.put, List.setIfInBounds_toArray, List.set_cons_zero, List.set_cons_succ, List.getElem_toArray, List.getElem_cons_succ, List.getElem_cons_zero]
        refine wpAnyH_take (i := 3) (v := ?_) rfl (by kernel_rfl) (by kernel_rfl) (by kernel_rfl) (fun _ _ _ h => h) (Or.inl ⟨by rfl, ?_⟩) (hS.sub (by repeat (first | exact List.Sublist.slnil | apply List.Sublist.cons_cons | apply List.Sublist.cons))) ?_
        rotate_left 1
        · intro W hW
          clear hW
          go_simp
          all_goals with_reducible rfl
        try simp only [Act.put, List.setIfInBounds_toArray, List.set_cons_zero, List.set_cons_succ, List.getElem_toArray, List.getElem_cons_succ, List.getElem_cons_zero]
        refine wpAnyH_take (i := 4) (v := ?_) rfl (by kernel_rfl) (by kernel_rfl) (by kernel_rfl) (fun _ _ _ h => h) (Or.inl ⟨by rfl, ?_⟩) (hS.sub (by repeat (first | exact List.Sublist.slnil | apply List.Sublist.cons_cons | apply List.Sublist.cons))) ?_
        rotate_left 1
        · intro W hW
          clear hW
          go_simp
          all_goals with_reducible rfl
        try simp only [Act.put, List.setIfInBounds_toArray, List.set_cons_zero, List.set_cons_succ, List.getElem_toArray, List.getElem_cons_succ, List.getElem_cons_zero]
        refine wpAnyH_take (i := 5) rfl (by kernel_rfl) (by kernel_rfl) (by kernel_rfl) (fun _ _ _ h => h) (yields_one (by rfl) _ _ rfl _ _ rfl sc5 _ (fun W hW => hW.cell (j := 0) (.head _) rfl)) (hS.sub (by repeat (first | exact List.Sublist.slnil | apply List.Sublist.cons_cons | apply List.Sublist.cons))) ?_
        try simp only [Act.put, List.setIfInBounds_toArray, List.set_cons_zero, List.set_cons_succ, List.getElem_toArray, List.getElem_cons_succ, List.getElem_cons_zero]
        refine wpAnyH_ready (rs := [0]) (by kernel_rfl) (by simp) (AllReadyH.cons rfl ?_ AllReadyH.nil)
        intro K1 hK1
        rw [if_pos (by rfl)]
        try simp only [Act.put, List.setIfInBounds_toArray, List.set_cons_zero, List.set_cons_succ, List.getElem_toArray, List.getElem_cons_succ, List.getElem_cons_zero]
        refine wp_load_st hS _ _ rfl _ _ rfl _ Try.underlying28 rfl ?_
        repeat (first | (refine Row.here ⟨siI.trans rfl, ?_⟩) | refine Row.next ?_)
        refine hK1.out _ _ (hS.sub (by repeat (first | exact List.Sublist.slnil | apply List.Sublist.cons_cons | apply List.Sublist.cons))) (fun _ => ?_)
        clear hK1
        try simp only [Act.put, List.setIfInBounds_toArray, List.set_cons_zero, List.set_cons_succ, List.getElem_toArray, List.getElem_cons_succ, List.getElem_cons_zero]
        refine wpAnyH_ready (rs := [6]) (by kernel_rfl) (by simp) (AllReadyH.cons rfl ?_ AllReadyH.nil)
        intro K1 hK1
        rw [if_pos (by rfl)]
        try simp only [Act.put, List.setIfInBounds_toArray, List.set_cons_zero, List.set_cons_succ, List.getElem_toArray, List.getElem_cons_succ, List.getElem_cons_zero]
        go_simp
        refine (H1.out _).mono ?_
        rintro e1 v2 ⟨rfl, hb⟩
        replace hS := hS.call hb
        clear hb
        refine hK1.out _ _ (hS.sub (by repeat (first | exact List.Sublist.slnil | apply List.Sublist.cons_cons | apply List.Sublist.cons))) (fun _ => ?_)
        clear hK1
        try simp only [Act.put, List.setIfInBounds_toArray, List.set_cons_zero, List.set_cons_succ, List.getElem_toArray, List.getElem_cons_succ, List.getElem_cons_zero]
        refine wpAnyH_ready (rs := [7]) (by kernel_rfl) (by simp) (AllReadyH.cons rfl ?_ AllReadyH.nil)
        intro K1 hK1
        rw [if_pos (by rfl)]
        try simp only [Act.put, List.setIfInBounds_toArray, List.set_cons_zero, List.set_cons_succ, List.getElem_toArray, List.getElem_cons_succ, List.getElem_cons_zero]
        refine wp_store_st hS _ _ _ rfl _ _ _ rfl rfl (siI.trans rfl) (si_one _) ?_
        repeat (first | refine Turn.here rfl ?_ | refine Turn.next ?_)
        clear hS
        intro wW hS
        refine hK1.out _ _ (hS.sub (by repeat (first | exact List.Sublist.slnil | apply List.Sublist.cons_cons | apply List.Sublist.cons))) (fun _ => ?_)
        clear hK1
        try simp only [Act.put, List.setIfInBounds_toArray, List.set_cons_zero, List.set_cons_succ, List.getElem_toArray, List.getElem_cons_succ, List.getElem_cons_zero]
        refine wpAnyH_done (by kernel_rfl) ?_ _
        go_wp2_with fail
        go_round
        case rel => exact ⟨m + 1, by simp, by omega, (hS.sub (by repeat (first | exact List.Sublist.slnil | apply List.Sublist.cons_cons | apply List.Sublist.cons)))⟩
        case measure => simp [intOf]; omega
      · have k1' : ¬ ((m : Int) < (n1 : Int)) := by omega
        obtain rfl : m = n1 := by omega
        go_wp2_with (first
  | ((with_reducible refine to_alloc 28 rfl ?_); refine Wl_alloc hS (fun _ => by rfl) _ siZ ?_; clear hS; intro b7 wW hS; simp only [Act.put, List.setIfInBounds_toArray, List.set_cons_zero, List.set_cons_succ])
  | ((with_reducible refine to_load 28 rfl ?_); refine Wl_load hS (fun _ => by rfl) _ _ rfl _ Try.underlying28 rfl ?_; (repeat (first | (refine Row.here ⟨siI.trans rfl, ?_⟩) | refine Row.next ?_)); (with_reducible show wpList _ _ _ _ _ _); simp only [Act.put, List.setIfInBounds_toArray, List.set_cons_zero, List.set_cons_succ])
  | ((with_reducible refine to_store 28 rfl ?_); refine Wl_store hS (fun _ => by rfl) _ _ _ rfl rfl (siI.trans rfl) (si_one _) ?_; (repeat (first | refine Turn.here rfl ?_ | refine Turn.next ?_)); clear hS; intro wW hS; try simp only [Act.put, List.setIfInBounds_toArray, List.set_cons_zero, List.set_cons_succ]))
        refine (swrite_any _ _ _ (by decide) (by decide) _).mono ?_
        rintro e w1 ⟨rfl, hb⟩
        replace hS := hS.call hb
        clear hb
        rw [X1.out]
        go_wp2_with (first
  | ((with_reducible refine to_alloc 28 rfl ?_); refine Wl_alloc hS (fun _ => by rfl) _ siZ ?_; clear hS; intro b7 wW hS; simp only [Act.put, List.setIfInBounds_toArray, List.set_cons_zero, List.set_cons_succ])
  | ((with_reducible refine to_load 28 rfl ?_); refine Wl_load hS (fun _ => by rfl) _ _ rfl _ Try.underlying28 rfl ?_; (repeat (first | (refine Row.here ⟨siI.trans rfl, ?_⟩) | refine Row.next ?_)); (with_reducible show wpList _ _ _ _ _ _); simp only [Act.put, List.setIfInBounds_toArray, List.set_cons_zero, List.set_cons_succ])
  | ((with_reducible refine to_store 28 rfl ?_); refine Wl_store hS (fun _ => by rfl) _ _ _ rfl rfl (siI.trans rfl) (si_one _) ?_; (repeat (first | refine Turn.here rfl ?_ | refine Turn.next ?_)); clear hS; intro wW hS; try simp only [Act.put, List.setIfInBounds_toArray, List.set_cons_zero, List.set_cons_succ]))
        have hok := M.ordS_ok (c := c) xok
        refine (sread_any _ hok _ _).mono ?_
        rintro e w1 ⟨rfl, hb⟩
        replace hS := hS.call hb
        clear hb
        rw [X2.out]
        have h3 : (bits .and .u8 (M.sReadV (M.ordS c x) (2 * c + 1)) 32 != 0) = decide ((3 : Int) < (m : Int)) := by rw [X3.out]; exact decide_eq_decide.2 (by omega)
        generalize M.sReadV (M.ordS c x) (2 * c + 1) = lost at h3 hS ⊢
        clear X1 X2 X3 xok hok
        go_wp2_with (first
  | ((with_reducible refine to_alloc 28 rfl ?_); refine Wl_alloc hS (fun _ => by rfl) _ siZ ?_; clear hS; intro b7 wW hS; simp only [Act.put, List.setIfInBounds_toArray, List.set_cons_zero, List.set_cons_succ])
  | ((with_reducible refine to_load 28 rfl ?_); refine Wl_load hS (fun _ => by rfl) _ _ rfl _ Try.underlying28 rfl ?_; (repeat (first | (refine Row.here ⟨siI.trans rfl, ?_⟩) | refine Row.next ?_)); (with_reducible show wpList _ _ _ _ _ _); simp only [Act.put, List.setIfInBounds_toArray, List.set_cons_zero, List.set_cons_succ])
  | ((with_reducible refine to_store 28 rfl ?_); refine Wl_store hS (fun _ => by rfl) _ _ _ rfl rfl (siI.trans rfl) (si_one _) ?_; (repeat (first | refine Turn.here rfl ?_ | refine Turn.next ?_)); clear hS; intro wW hS; try simp only [Act.put, List.setIfInBounds_toArray, List.set_cons_zero, List.set_cons_succ]))
        clear h3
        have HS0 := Lib.hid hS
        clear hS
        go_loopw [10] (fun i wr => ∃ k : Nat, i = .int .i64 k ∧ k ≤ m ∧ k ≤ 3 ∧ St w.heap.size 0 0 w [⟨b7, 0, true, (M.ordS c (M.ordT g m k)).a⟩] wr) (fun i _ => 3 - (intOf i).toNat)
        case atStart => exact ⟨0, rfl, Nat.zero_le _, Nat.zero_le _, HS0.out⟩
        case round =>
          clear HS0
          obtain ⟨k, rfl, hkb, hk3, hS⟩ := hrel
          have hok := M.ordS_ok (c := c) (M.ordT_ok (k := k) HG.out hkb hk3)
          by_cases k1 : k < m ∧ k < 3
          · obtain ⟨b, q, rfl, hcell⟩ := HA.out k k1.1
            have hv := hS.below.cell (p := ⟨b, q + k, none⟩) (World.block_lt_of_cell? w _ hcell)
            rw [hcell] at hv
            obtain ⟨b', q', hA', hcell'⟩ := HA.out (m - 1) (by omega)
            simp only [Option.some.injEq, Addr.mk.injEq] at hA'
            obtain ⟨rfl, rfl, -⟩ := hA'
            have hv' := hS.below.cell (p := ⟨b, q + (m - 1), none⟩) (World.block_lt_of_cell? w _ hcell')
            rw [hcell'] at hv'
            clear hcell hcell'
            have k1' : (k : Int) < (m : Int) := by omega
            have k2' : (k : Int) < 3 := by omega
            have k0' : (0 : Int) ≤ (k : Int) := by omega
            have hr := M.ordT_step g m k c hc k1.1 k1.2
            have h1 := fun W => sread_any _ hok (2 * c) W
            rw [hr.1, hr.2] at h1
            have H1 := Lib.hid h1
            clear h1 hok hr
            by_cases k2 : k = 2
            · subst k2
              rw [if_pos rfl] at H1
              go_wp2_with (first
  | ((with_reducible refine to_alloc 28 rfl ?_); refine Wl_alloc hS (fun _ => by rfl) _ siZ ?_; clear hS; intro b9 wW hS; simp only [Act.put, List.setIfInBounds_toArray, List.set_cons_zero, List.set_cons_succ])
  | ((with_reducible refine to_load 28 rfl ?_); refine Wl_load hS (fun _ => by rfl) _ _ rfl _ Try.underlying28 rfl ?_; (repeat (first | (refine Row.here ⟨siI.trans rfl, ?_⟩) | refine Row.next ?_)); (with_reducible show wpList _ _ _ _ _ _); simp only [Act.put, List.setIfInBounds_toArray, List.set_cons_zero, List.set_cons_succ])
  | ((with_reducible refine to_store 28 rfl ?_); refine Wl_store hS (fun _ => by rfl) _ _ _ rfl rfl (siI.trans rfl) (si_one _) ?_; (repeat (first | refine Turn.here rfl ?_ | refine Turn.next ?_)); clear hS; intro wW hS; try simp only [Act.put, List.setIfInBounds_toArray, List.set_cons_zero, List.set_cons_succ]))
              refine (H1.out _).mono ?_
              rintro e w1 ⟨rfl, hb⟩
              replace hS := hS.call hb
              clear hb
              go_wp2_with (first
  | ((with_reducible refine to_alloc 28 rfl ?_); refine Wl_alloc hS (fun _ => by rfl) _ siZ ?_; clear hS; intro b9 wW hS; simp only [Act.put, List.setIfInBounds_toArray, List.set_cons_zero, List.set_cons_succ])
  | ((with_reducible refine to_load 28 rfl ?_); refine Wl_load hS (fun _ => by rfl) _ _ rfl _ Try.underlying28 rfl ?_; (repeat (first | (refine Row.here ⟨siI.trans rfl, ?_⟩) | refine Row.next ?_)); (with_reducible show wpList _ _ _ _ _ _); simp only [Act.put, List.setIfInBounds_toArray, List.set_cons_zero, List.set_cons_succ])
  | ((with_reducible refine to_store 28 rfl ?_); refine Wl_store hS (fun _ => by rfl) _ _ _ rfl rfl (siI.trans rfl) (si_one _) ?_; (repeat (first | refine Turn.here rfl ?_ | refine Turn.next ?_)); clear hS; intro wW hS; try simp only [Act.put, List.setIfInBounds_toArray, List.set_cons_zero, List.set_cons_succ]))
              go_round
              case rel => exact ⟨3, by simp, by omega, by omega, (hS.sub (by repeat (first | exact List.Sublist.slnil | apply List.Sublist.cons_cons | apply List.Sublist.cons)))⟩
              case measure => simp [intOf]
            · have k3' : ¬ (k : Int) = 2 := by omega
              rw [if_neg k2] at H1
              go_wp2_with (first
  | ((with_reducible refine to_alloc 28 rfl ?_); refine Wl_alloc hS (fun _ => by rfl) _ siZ ?_; clear hS; intro b9 wW hS; simp only [Act.put, List.setIfInBounds_toArray, List.set_cons_zero, List.set_cons_succ])
  | ((with_reducible refine to_load 28 rfl ?_); refine Wl_load hS (fun _ => by rfl) _ _ rfl _ Try.underlying28 rfl ?_; (repeat (first | (refine Row.here ⟨siI.trans rfl, ?_⟩) | refine Row.next ?_)); (with_reducible show wpList _ _ _ _ _ _); simp only [Act.put, List.setIfInBounds_toArray, List.set_cons_zero, List.set_cons_succ])
  | ((with_reducible refine to_store 28 rfl ?_); refine Wl_store hS (fun _ => by rfl) _ _ _ rfl rfl (siI.trans rfl) (si_one _) ?_; (repeat (first | refine Turn.here rfl ?_ | refine Turn.next ?_)); clear hS; intro wW hS; try simp only [Act.put, List.setIfInBounds_toArray, List.set_cons_zero, List.set_cons_succ]))
              refine (H1.out _).mono ?_
              rintro e w1 ⟨rfl, hb⟩
              replace hS := hS.call hb
              clear hb
              go_wp2_with (first
  | ((with_reducible refine to_alloc 28 rfl ?_); refine Wl_alloc hS (fun _ => by rfl) _ siZ ?_; clear hS; intro b9 wW hS; simp only [Act.put, List.setIfInBounds_toArray, List.set_cons_zero, List.set_cons_succ])
  | ((with_reducible refine to_load 28 rfl ?_); refine Wl_load hS (fun _ => by rfl) _ _ rfl _ Try.underlying28 rfl ?_; (repeat (first | (refine Row.here ⟨siI.trans rfl, ?_⟩) | refine Row.next ?_)); (with_reducible show wpList _ _ _ _ _ _); simp only [Act.put, List.setIfInBounds_toArray, List.set_cons_zero, List.set_cons_succ])
  | ((with_reducible refine to_store 28 rfl ?_); refine Wl_store hS (fun _ => by rfl) _ _ _ rfl rfl (siI.trans rfl) (si_one _) ?_; (repeat (first | refine Turn.here rfl ?_ | refine Turn.next ?_)); clear hS; intro wW hS; try simp only [Act.put, List.setIfInBounds_toArray, List.set_cons_zero, List.set_cons_succ]))
              go_round
              case rel => exact ⟨k + 1, by simp, by omega, by omega, (hS.sub (by repeat (first | exact List.Sublist.slnil | apply List.Sublist.cons_cons | apply List.Sublist.cons)))⟩
              case measure => simp [intOf]; omega
          · have hend := M.ordT_end g m k c hc hkb hk3 k1
            have h1 := fun W => sread_any _ hok (2 * c + 1) W
            generalize M.sReadV (M.ordS c (M.ordT g m k)) (2 * c + 1) = V at h1 hend
            generalize M.sReadP (M.ordS c (M.ordT g m k)) (2 * c + 1) = P at h1
            have H1 := Lib.hid h1
            clear h1 hok
            by_cases k3 : k < m
            · have k3' : (k : Int) < (m : Int) := by omega
              have k4' : ¬ (k : Int) < 3 := by omega
              go_wp2_with (first
  | ((with_reducible refine to_alloc 28 rfl ?_); refine Wl_alloc hS (fun _ => by rfl) _ siZ ?_; clear hS; intro b9 wW hS; simp only [Act.put, List.setIfInBounds_toArray, List.set_cons_zero, List.set_cons_succ])
  | ((with_reducible refine to_load 28 rfl ?_); refine Wl_load hS (fun _ => by rfl) _ _ rfl _ Try.underlying28 rfl ?_; (repeat (first | (refine Row.here ⟨siI.trans rfl, ?_⟩) | refine Row.next ?_)); (with_reducible show wpList _ _ _ _ _ _); simp only [Act.put, List.setIfInBounds_toArray, List.set_cons_zero, List.set_cons_succ])
  | ((with_reducible refine to_store 28 rfl ?_); refine Wl_store hS (fun _ => by rfl) _ _ _ rfl rfl (siI.trans rfl) (si_one _) ?_; (repeat (first | refine Turn.here rfl ?_ | refine Turn.next ?_)); clear hS; intro wW hS; try simp only [Act.put, List.setIfInBounds_toArray, List.set_cons_zero, List.set_cons_succ]))
              refine (H1.out _).mono ?_
              rintro e w1 ⟨rfl, hb⟩
              replace hS := hS.call hb
              clear hb
              go_wp2_with (first
  | ((with_reducible refine to_alloc 28 rfl ?_); refine Wl_alloc hS (fun _ => by rfl) _ siZ ?_; clear hS; intro b9 wW hS; simp only [Act.put, List.setIfInBounds_toArray, List.set_cons_zero, List.set_cons_succ])
  | ((with_reducible refine to_load 28 rfl ?_); refine Wl_load hS (fun _ => by rfl) _ _ rfl _ Try.underlying28 rfl ?_; (repeat (first | (refine Row.here ⟨siI.trans rfl, ?_⟩) | refine Row.next ?_)); (with_reducible show wpList _ _ _ _ _ _); simp only [Act.put, List.setIfInBounds_toArray, List.set_cons_zero, List.set_cons_succ])
  | ((with_reducible refine to_store 28 rfl ?_); refine Wl_store hS (fun _ => by rfl) _ _ _ rfl rfl (siI.trans rfl) (si_one _) ?_; (repeat (first | refine Turn.here rfl ?_ | refine Turn.next ?_)); clear hS; intro wW hS; try simp only [Act.put, List.setIfInBounds_toArray, List.set_cons_zero, List.set_cons_succ]))
              go_returns
              exact ⟨rfl, hS.below⟩
            · have k3' : ¬ (k : Int) < (m : Int) := by omega
              go_wp2_with (first
  | ((with_reducible refine to_alloc 28 rfl ?_); refine Wl_alloc hS (fun _ => by rfl) _ siZ ?_; clear hS; intro b9 wW hS; simp only [Act.put, List.setIfInBounds_toArray, List.set_cons_zero, List.set_cons_succ])
  | ((with_reducible refine to_load 28 rfl ?_); refine Wl_load hS (fun _ => by rfl) _ _ rfl _ Try.underlying28 rfl ?_; (repeat (first | (refine Row.here ⟨siI.trans rfl, ?_⟩) | refine Row.next ?_)); (with_reducible show wpList _ _ _ _ _ _); simp only [Act.put, List.setIfInBounds_toArray, List.set_cons_zero, List.set_cons_succ])
  | ((with_reducible refine to_store 28 rfl ?_); refine Wl_store hS (fun _ => by rfl) _ _ _ rfl rfl (siI.trans rfl) (si_one _) ?_; (repeat (first | refine Turn.here rfl ?_ | refine Turn.next ?_)); clear hS; intro wW hS; try simp only [Act.put, List.setIfInBounds_toArray, List.set_cons_zero, List.set_cons_succ]))
              refine (H1.out _).mono ?_
              rintro e w1 ⟨rfl, hb⟩
              replace hS := hS.call hb
              clear hb
              go_wp2_with (first
  | ((with_reducible refine to_alloc 28 rfl ?_); refine Wl_alloc hS (fun _ => by rfl) _ siZ ?_; clear hS; intro b9 wW hS; simp only [Act.put, List.setIfInBounds_toArray, List.set_cons_zero, List.set_cons_succ])
  | ((with_reducible refine to_load 28 rfl ?_); refine Wl_load hS (fun _ => by rfl) _ _ rfl _ Try.underlying28 rfl ?_; (repeat (first | (refine Row.here ⟨siI.trans rfl, ?_⟩) | refine Row.next ?_)); (with_reducible show wpList _ _ _ _ _ _); simp only [Act.put, List.setIfInBounds_toArray, List.set_cons_zero, List.set_cons_succ])
  | ((with_reducible refine to_store 28 rfl ?_); refine Wl_store hS (fun _ => by rfl) _ _ _ rfl rfl (siI.trans rfl) (si_one _) ?_; (repeat (first | refine Turn.here rfl ?_ | refine Turn.next ?_)); clear hS; intro wW hS; try simp only [Act.put, List.setIfInBounds_toArray, List.set_cons_zero, List.set_cons_succ]))
              go_returns
              exact ⟨rfl, hS.below⟩
end Go.Proofs.Ytlpoldnidojgmaa
