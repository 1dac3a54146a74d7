/- charabanclaw24.PioPlays is true at whatever acts and bytes. -/
import Derived.Test.YtmoafjgogbcoeaaPioLawO
import Derived.Test.YtmoafjgogbcoeaaPioPlain
import Derived.Test.YtmoafjgogbcoeaaPioRead2
import Derived.Test.YtmoafjgogbcoeaaPioRef4
import Derived.Test.YtmoafjgogbcoeaaPioRef6
namespace Go.Proofs.Ytmoafjgogbcoeaa
open Go.RowKit
set_option linter.unusedVariables false
set_option linter.unusedSimpArgs false
set_option maxRecDepth 100000
/-- A slice of bytes that came in. -/
def RowU8P (w : World) (a : Option Addr) (len cap : Nat) (zs : List Int) : Prop :=
  (a = none ∧ len = 0 ∧ cap = 0 ∧ zs = []) ∨
  ∃ x, a = some x ∧ len ≤ cap ∧ cap ≤ maxLen ∧ zs.length = cap ∧ (∀ i, i < zs.length → w.cell? (x.add i) = some (.int .u8 (zs.getD i 0))) ∧ ∀ n ∈ zs, (Lit.int .u8 n).wf = true
theorem RowU8P.at_ {w : World} {a : Option Addr} {len cap : Nat} {zs : List Int} (h : RowU8P w a len cap zs) (i : Nat) (hi : i < len) : ∃ x v, a = some x ∧ 0 ≤ v ∧ v ≤ 255 ∧ ∀ W, Below w.heap.size w W → W.cell? (x.add i) = some (.int .u8 v) := by
  rcases h with ⟨_, rfl, _⟩ | ⟨x, hx, hl, hm, hz, hc, hw⟩
  · omega
  · have hi' : i < zs.length := by omega
    have hv := hc i hi'
    have hmem : zs.getD i 0 ∈ zs := by
      rw [List.getD_eq_getElem?_getD, List.getElem?_eq_getElem hi']
      exact List.getElem_mem hi'
    have hb := hw _ hmem
    simp [Lit.wf, IntKind.min, IntKind.max, IntKind.bits, IntKind.signed] at hb
    refine ⟨x, zs.getD i 0, hx, by simpa using hb.1, ?_, fun W hW => ?_⟩
    · have := hb.2; simp at this ⊢; omega
    · rw [hW.cell (p := x.add i) (World.block_lt_of_cell? w _ hv)]
      exact hv
theorem RowU8P.len_le {w : World} {a : Option Addr} {len cap : Nat} {zs : List Int} (h : RowU8P w a len cap zs) : len ≤ maxLen := by
  rcases h with ⟨_, rfl, _⟩ | ⟨x, hx, hl, hm, _⟩
  · exact Nat.zero_le _
  · omega
theorem M.set_ok {p : M.Pi2} (hp : p.ok) (x : M.Po) (n : Nat) (hx : x.ok) : (p.set x n).ok := by
  unfold M.Pi2.set
  split
  · exact ⟨hx, hp.2⟩
  · exact ⟨hp.1, hx⟩
theorem M.pStrobe_ok {p : M.Pi2} {k b : Int} (hp : p.ok) (h0 : 0 ≤ b) (h1 : b ≤ 255) : (M.pStrobe p k b).ok := by
  have hx := pi_at_ok hp k.toNat
  unfold M.pStrobe
  split
  · split
    · exact M.set_ok hp _ _ hx
    · split
      · exact M.set_ok hp _ _ ⟨hx.1, hx.2.1, ⟨h0, h1⟩, hx.2.2.2⟩
      · exact hp
  · exact hp
theorem M.pReadP_ok {p : M.Pi2} {k : Int} (hp : p.ok) : (M.pReadP p k).ok := by
  have hx := pi_at_ok hp k.toNat
  unfold M.pReadP
  split
  · split
    · exact M.set_ok hp _ _ hx
    · exact hp
  · exact hp
set_option maxHeartbeats 16000000 in
theorem pplays_true (A1 : Option Addr) (n1 p1 : Nat) (z1 : List Int) (A2 : Option Addr) (n2 p2 : Nat) (z2 : List Int) (w : World) (r1 : RowU8P w A1 n1 p1 z1) (r2 : RowU8P w A2 n2 p2 z2) :
    Calls Try.prog 13 #[.slice A1 n1 p1, .slice A2 n2 p2] w fun e' w' => e' = .returned (.bool true) ∧ Below w.heap.size w w' := by
  have hm1 := r1.len_le
  have hm2 := r2.len_le
  simp only [maxLen] at hm1 hm2
  have hS := St.start w.heap.size 0 0 w
  go_enter Try.func13, Try.ntmps13
  go_wp2_with fail
  refine (pawake_any _).mono ?_
  rintro e w1 ⟨rfl, hb⟩
  replace hS := hS.call hb
  clear hb
  by_cases g1 : 100 < n1
  · go_wp2_with fail
    go_returns
    exact ⟨rfl, hS.below⟩
  · by_cases g2 : 100 < n2
    · go_wp2_with fail
      go_returns
      exact ⟨rfl, hS.below⟩
    · go_wp2_with fail
      refine (pnew_any _).mono ?_
      rintro e w1 ⟨rfl, hb⟩
      replace hS := hS.call hb
      clear hb
      go_wp2_with (first | ((with_reducible refine to_alloc 80 rfl ?_); refine Wl_alloc hS (fun _ => by rfl) _ zero80r ?_; clear hS; intro b6 wW hS; simp only [Act.put, List.setIfInBounds_toArray, List.set_cons_zero, List.set_cons_succ]) | first
  | ((with_reducible refine to_alloc 80 rfl ?_); refine Wl_alloc hS (fun _ => by rfl) _ zero80r ?_; clear hS; intro bB wW hS; simp only [Act.put, List.setIfInBounds_toArray, List.set_cons_zero, List.set_cons_succ])
  | ((with_reducible refine to_alloc 86 rfl ?_); refine Wl_alloc hS (fun _ => by rfl) _ zero86r ?_; clear hS; intro bB wW hS; simp only [Act.put, List.setIfInBounds_toArray, List.set_cons_zero, List.set_cons_succ])
  | ((with_reducible refine to_load 80 rfl ?_); refine Wl_load hS (fun _ => by rfl) _ _ rfl _ Try.underlying80 rfl ?_; (repeat (first | (refine Row.here ⟨info80c _, ?_⟩) | refine Row.next ?_)); (with_reducible show wpList _ _ _ _ _ _); simp only [Act.put, List.setIfInBounds_toArray, List.set_cons_zero, List.set_cons_succ])
  | ((with_reducible refine to_load 86 rfl ?_); refine Wl_load hS (fun _ => by rfl) _ _ rfl _ Try.underlying86 rfl ?_; (repeat (first | (refine Row.here ⟨info86c _, ?_⟩) | refine Row.next ?_)); (with_reducible show wpList _ _ _ _ _ _); simp only [Act.put, List.setIfInBounds_toArray, List.set_cons_zero, List.set_cons_succ])
  | ((with_reducible refine to_store 80 rfl ?_); refine Wl_store hS (fun _ => by rfl) _ _ _ rfl rfl (info80c _) (pi_one _) ?_; (repeat (first | refine Turn.here rfl ?_ | refine Turn.next ?_)); clear hS; intro wW hS; try simp only [Act.put, List.setIfInBounds_toArray, List.set_cons_zero, List.set_cons_succ])
  | ((with_reducible refine to_store 86 rfl ?_); refine Wl_store hS (fun _ => by rfl) _ _ _ rfl rfl (info86c _) (pi_one _) ?_; (repeat (first | refine Turn.here rfl ?_ | refine Turn.next ?_)); clear hS; intro wW hS; try simp only [Act.put, List.setIfInBounds_toArray, List.set_cons_zero, List.set_cons_succ]))
      refine (rpnew_any _).mono ?_
      rintro e w1 ⟨rfl, hb⟩
      replace hS := hS.call hb
      clear hb
      go_wp2_with (first | ((with_reducible refine to_alloc 86 rfl ?_); refine Wl_alloc hS (fun _ => by rfl) _ zero86r ?_; clear hS; intro b7 wW hS; simp only [Act.put, List.setIfInBounds_toArray, List.set_cons_zero, List.set_cons_succ]) | first
  | ((with_reducible refine to_alloc 80 rfl ?_); refine Wl_alloc hS (fun _ => by rfl) _ zero80r ?_; clear hS; intro bB wW hS; simp only [Act.put, List.setIfInBounds_toArray, List.set_cons_zero, List.set_cons_succ])
  | ((with_reducible refine to_alloc 86 rfl ?_); refine Wl_alloc hS (fun _ => by rfl) _ zero86r ?_; clear hS; intro bB wW hS; simp only [Act.put, List.setIfInBounds_toArray, List.set_cons_zero, List.set_cons_succ])
  | ((with_reducible refine to_load 80 rfl ?_); refine Wl_load hS (fun _ => by rfl) _ _ rfl _ Try.underlying80 rfl ?_; (repeat (first | (refine Row.here ⟨info80c _, ?_⟩) | refine Row.next ?_)); (with_reducible show wpList _ _ _ _ _ _); simp only [Act.put, List.setIfInBounds_toArray, List.set_cons_zero, List.set_cons_succ])
  | ((with_reducible refine to_load 86 rfl ?_); refine Wl_load hS (fun _ => by rfl) _ _ rfl _ Try.underlying86 rfl ?_; (repeat (first | (refine Row.here ⟨info86c _, ?_⟩) | refine Row.next ?_)); (with_reducible show wpList _ _ _ _ _ _); simp only [Act.put, List.setIfInBounds_toArray, List.set_cons_zero, List.set_cons_succ])
  | ((with_reducible refine to_store 80 rfl ?_); refine Wl_store hS (fun _ => by rfl) _ _ _ rfl rfl (info80c _) (pi_one _) ?_; (repeat (first | refine Turn.here rfl ?_ | refine Turn.next ?_)); clear hS; intro wW hS; try simp only [Act.put, List.setIfInBounds_toArray, List.set_cons_zero, List.set_cons_succ])
  | ((with_reducible refine to_store 86 rfl ?_); refine Wl_store hS (fun _ => by rfl) _ _ _ rfl rfl (info86c _) (pi_one _) ?_; (repeat (first | refine Turn.here rfl ?_ | refine Turn.next ?_)); clear hS; intro wW hS; try simp only [Act.put, List.setIfInBounds_toArray, List.set_cons_zero, List.set_cons_succ]))
      have HS0 := Lib.hid hS
      clear hS
      go_loopw [8] (fun i wr => ∃ k : Nat, ∃ c : M.Pi2, c.ok ∧ i = .int .i64 k ∧ k ≤ n1 ∧ St w.heap.size 0 0 w [⟨b7, 0, true, c.a⟩, ⟨b6, 0, true, c.a⟩] wr) (fun i _ => n1 - (intOf i).toNat)
      case atStart => exact ⟨0, M.pio0, pio0_ok, rfl, Nat.zero_le _, HS0.out⟩
      case round =>
        clear HS0
        obtain ⟨k, c, hc, rfl, hkb, hS⟩ := hrel
        by_cases k1 : k < n1
        · obtain ⟨x, v, rfl, hv0, hv1, hcell⟩ := r1.at_ k k1
          have hv := hcell _ hS.below
          clear hcell
          have a3 : 0 ≤ bits .and .u8 v 3 := (M.bits_range _ _ _).1
          have a3' : bits .and .u8 v 3 ≤ 255 := (M.bits_range _ _ _).2
          have k1' : (k : Int) < (n1 : Int) := by omega
          have k0' : (0 : Int) ≤ (k : Int) := by omega
          by_cases k2 : k < n2
          · obtain ⟨x2, u, rfl, hu0, hu1, hcell2⟩ := r2.at_ k k2
            have hu := hcell2 _ hS.below
            clear hcell2
            have k2' : (k : Int) < (n2 : Int) := by omega
            by_cases s0 : bits .and .u8 (v / 4) 3 = 0
            · go_wp2_with (first
  | ((with_reducible refine to_alloc 80 rfl ?_); refine Wl_alloc hS (fun _ => by rfl) _ zero80r ?_; clear hS; intro bB wW hS; simp only [Act.put, List.setIfInBounds_toArray, List.set_cons_zero, List.set_cons_succ])
  | ((with_reducible refine to_alloc 86 rfl ?_); refine Wl_alloc hS (fun _ => by rfl) _ zero86r ?_; clear hS; intro bB wW hS; simp only [Act.put, List.setIfInBounds_toArray, List.set_cons_zero, List.set_cons_succ])
  | ((with_reducible refine to_load 80 rfl ?_); refine Wl_load hS (fun _ => by rfl) _ _ rfl _ Try.underlying80 rfl ?_; (repeat (first | (refine Row.here ⟨info80c _, ?_⟩) | refine Row.next ?_)); (with_reducible show wpList _ _ _ _ _ _); simp only [Act.put, List.setIfInBounds_toArray, List.set_cons_zero, List.set_cons_succ])
  | ((with_reducible refine to_load 86 rfl ?_); refine Wl_load hS (fun _ => by rfl) _ _ rfl _ Try.underlying86 rfl ?_; (repeat (first | (refine Row.here ⟨info86c _, ?_⟩) | refine Row.next ?_)); (with_reducible show wpList _ _ _ _ _ _); simp only [Act.put, List.setIfInBounds_toArray, List.set_cons_zero, List.set_cons_succ])
  | ((with_reducible refine to_store 80 rfl ?_); refine Wl_store hS (fun _ => by rfl) _ _ _ rfl rfl (info80c _) (pi_one _) ?_; (repeat (first | refine Turn.here rfl ?_ | refine Turn.next ?_)); clear hS; intro wW hS; try simp only [Act.put, List.setIfInBounds_toArray, List.set_cons_zero, List.set_cons_succ])
  | ((with_reducible refine to_store 86 rfl ?_); refine Wl_store hS (fun _ => by rfl) _ _ _ rfl rfl (info86c _) (pi_one _) ?_; (repeat (first | refine Turn.here rfl ?_ | refine Turn.next ?_)); clear hS; intro wW hS; try simp only [Act.put, List.setIfInBounds_toArray, List.set_cons_zero, List.set_cons_succ]))
              refine (pwrite_any c hc _ _ (by omega) (by omega) _).mono ?_
              rintro e w2 ⟨rfl, hb⟩
              replace hS := hS.call hb
              clear hb
              go_wp2_with (first
  | ((with_reducible refine to_alloc 80 rfl ?_); refine Wl_alloc hS (fun _ => by rfl) _ zero80r ?_; clear hS; intro bB wW hS; simp only [Act.put, List.setIfInBounds_toArray, List.set_cons_zero, List.set_cons_succ])
  | ((with_reducible refine to_alloc 86 rfl ?_); refine Wl_alloc hS (fun _ => by rfl) _ zero86r ?_; clear hS; intro bB wW hS; simp only [Act.put, List.setIfInBounds_toArray, List.set_cons_zero, List.set_cons_succ])
  | ((with_reducible refine to_load 80 rfl ?_); refine Wl_load hS (fun _ => by rfl) _ _ rfl _ Try.underlying80 rfl ?_; (repeat (first | (refine Row.here ⟨info80c _, ?_⟩) | refine Row.next ?_)); (with_reducible show wpList _ _ _ _ _ _); simp only [Act.put, List.setIfInBounds_toArray, List.set_cons_zero, List.set_cons_succ])
  | ((with_reducible refine to_load 86 rfl ?_); refine Wl_load hS (fun _ => by rfl) _ _ rfl _ Try.underlying86 rfl ?_; (repeat (first | (refine Row.here ⟨info86c _, ?_⟩) | refine Row.next ?_)); (with_reducible show wpList _ _ _ _ _ _); simp only [Act.put, List.setIfInBounds_toArray, List.set_cons_zero, List.set_cons_succ])
  | ((with_reducible refine to_store 80 rfl ?_); refine Wl_store hS (fun _ => by rfl) _ _ _ rfl rfl (info80c _) (pi_one _) ?_; (repeat (first | refine Turn.here rfl ?_ | refine Turn.next ?_)); clear hS; intro wW hS; try simp only [Act.put, List.setIfInBounds_toArray, List.set_cons_zero, List.set_cons_succ])
  | ((with_reducible refine to_store 86 rfl ?_); refine Wl_store hS (fun _ => by rfl) _ _ _ rfl rfl (info86c _) (pi_one _) ?_; (repeat (first | refine Turn.here rfl ?_ | refine Turn.next ?_)); clear hS; intro wW hS; try simp only [Act.put, List.setIfInBounds_toArray, List.set_cons_zero, List.set_cons_succ]))
              refine (rpwrite_any c hc _ _ (by omega) (by omega) _).mono ?_
              rintro e w2 ⟨rfl, hb⟩
              replace hS := hS.call hb
              clear hb
              have hD := M.pWrite_ok (p := c) (reg := bits .and .u8 v 3) (b := u) hc (by omega) (by omega)
              generalize M.pWrite c (bits .and .u8 v 3) (u) = D at hS hD ⊢
              have q1 := fun W => neqR D W
              have hP := fun W => pplain_any D W
              have HP := Lib.hid hP
              clear hP
              go_wp2_with (first
  | ((with_reducible refine to_alloc 80 rfl ?_); refine Wl_alloc hS (fun _ => by rfl) _ zero80r ?_; clear hS; intro bB wW hS; simp only [Act.put, List.setIfInBounds_toArray, List.set_cons_zero, List.set_cons_succ])
  | ((with_reducible refine to_alloc 86 rfl ?_); refine Wl_alloc hS (fun _ => by rfl) _ zero86r ?_; clear hS; intro bB wW hS; simp only [Act.put, List.setIfInBounds_toArray, List.set_cons_zero, List.set_cons_succ])
  | ((with_reducible refine to_load 80 rfl ?_); refine Wl_load hS (fun _ => by rfl) _ _ rfl _ Try.underlying80 rfl ?_; (repeat (first | (refine Row.here ⟨info80c _, ?_⟩) | refine Row.next ?_)); (with_reducible show wpList _ _ _ _ _ _); simp only [Act.put, List.setIfInBounds_toArray, List.set_cons_zero, List.set_cons_succ])
  | ((with_reducible refine to_load 86 rfl ?_); refine Wl_load hS (fun _ => by rfl) _ _ rfl _ Try.underlying86 rfl ?_; (repeat (first | (refine Row.here ⟨info86c _, ?_⟩) | refine Row.next ?_)); (with_reducible show wpList _ _ _ _ _ _); simp only [Act.put, List.setIfInBounds_toArray, List.set_cons_zero, List.set_cons_succ])
  | ((with_reducible refine to_store 80 rfl ?_); refine Wl_store hS (fun _ => by rfl) _ _ _ rfl rfl (info80c _) (pi_one _) ?_; (repeat (first | refine Turn.here rfl ?_ | refine Turn.next ?_)); clear hS; intro wW hS; try simp only [Act.put, List.setIfInBounds_toArray, List.set_cons_zero, List.set_cons_succ])
  | ((with_reducible refine to_store 86 rfl ?_); refine Wl_store hS (fun _ => by rfl) _ _ _ rfl rfl (info86c _) (pi_one _) ?_; (repeat (first | refine Turn.here rfl ?_ | refine Turn.next ?_)); clear hS; intro wW hS; try simp only [Act.put, List.setIfInBounds_toArray, List.set_cons_zero, List.set_cons_succ]))
              refine wp_region_held_drew (S := fun W => St w.heap.size 0 0 w [⟨b7, 0, true, D.a⟩, ⟨b6, 0, true, D.a⟩] W) (by kernel_rfl) (hS.drew.sub (by repeat (first | exact List.Sublist.slnil | apply List.Sublist.cons_cons | apply List.Sublist.cons))) ?_
              intro _
              replace hS := hS.drew
              generalize World.drew _ = wX at hS ⊢
              first
                | refine wpAnyH_take (i := 0) rfl (by kernel_rfl) (by kernel_rfl) (by kernel_rfl) (fun _ _ _ h => h) (yields_row (by rfl) _ _ rfl _ _ rfl _ Try.underlying80 rfl _ (fun W hW => hW.range (.head _)) (info80c _)) (hS.sub (by repeat (first | exact List.Sublist.slnil | apply List.Sublist.cons_cons | apply List.Sublist.cons))) ?_
                | refine wpAnyH_take (i := 0) rfl (by kernel_rfl) (by kernel_rfl) (by kernel_rfl) (fun _ _ _ h => h) (yields_row (by rfl) _ _ rfl _ _ rfl _ Try.underlying80 rfl _ (fun W hW => hW.range (.tail _ (.head _))) (info80c _)) (hS.sub (by repeat (first | exact List.Sublist.slnil | apply List.Sublist.cons_cons | apply List.Sublist.cons))) ?_
                | refine wpAnyH_take (i := 0) rfl (by kernel_rfl) (by kernel_rfl) (by kernel_rfl) (fun _ _ _ h => h) (yields_row (by rfl) _ _ rfl _ _ rfl _ Try.underlying80 rfl _ (fun W hW => hW.range (.tail _ (.tail _ (.head _)))) (info80c _)) (hS.sub (by repeat (first | exact List.Sublist.slnil | apply List.Sublist.cons_cons | apply List.Sublist.cons))) ?_
                | refine wpAnyH_take (i := 0) rfl (by kernel_rfl) (by kernel_rfl) (by kernel_rfl) (fun _ _ _ h => h) (yields_row (by rfl) _ _ rfl _ _ rfl _ Try.underlying80 rfl _ (fun W hW => hW.range (.tail _ (.tail _ (.tail _ (.head _))))) (info80c _)) (hS.sub (by repeat (first | exact List.Sublist.slnil | apply List.Sublist.cons_cons | apply List.Sublist.cons))) ?_
                | refine wpAnyH_take (i := 0) rfl (by kernel_rfl) (by kernel_rfl) (by kernel_rfl) (fun _ _ _ h => h) (yields_row (by rfl) _ _ rfl _ _ rfl _ Try.underlying80 rfl _ (fun W hW => hW.range (.tail _ (.tail _ (.tail _ (.tail _ (.head _)))))) (info80c _)) (hS.sub (by repeat (first | exact List.Sublist.slnil | apply List.Sublist.cons_cons | apply List.Sublist.cons))) ?_
                | refine wpAnyH_take (i := 0) rfl (by kernel_rfl) (by kernel_rfl) (by kernel_rfl) (fun _ _ _ h => h) (yields_row (by rfl) _ _ rfl _ _ rfl _ Try.underlying80 rfl _ (fun W hW => hW.range (.tail _ (.tail _ (.tail _ (.tail _ (.tail _ (.head _))))))) (info80c _)) (hS.sub (by repeat (first | exact List.Sublist.slnil | apply List.Sublist.cons_cons | apply List.Sublist.cons))) ?_
              try simp only [Act.put, List.setIfInBounds_toArray, List.set_cons_zero, List.set_cons_succ, List.getElem_toArray, List.getElem_cons_succ, List.getElem_cons_zero]
              first
                | refine wpAnyH_take (i := 2) rfl (by kernel_rfl) (by kernel_rfl) (by kernel_rfl) (fun _ _ _ h => h) (yields_row (by rfl) _ _ rfl _ _ rfl _ Try.underlying86 rfl _ (fun W hW => hW.range (.head _)) (info86c _)) (hS.sub (by repeat (first | exact List.Sublist.slnil | apply List.Sublist.cons_cons | apply List.Sublist.cons))) ?_
                | refine wpAnyH_take (i := 2) rfl (by kernel_rfl) (by kernel_rfl) (by kernel_rfl) (fun _ _ _ h => h) (yields_row (by rfl) _ _ rfl _ _ rfl _ Try.underlying86 rfl _ (fun W hW => hW.range (.tail _ (.head _))) (info86c _)) (hS.sub (by repeat (first | exact List.Sublist.slnil | apply List.Sublist.cons_cons | apply List.Sublist.cons))) ?_
                | refine wpAnyH_take (i := 2) rfl (by kernel_rfl) (by kernel_rfl) (by kernel_rfl) (fun _ _ _ h => h) (yields_row (by rfl) _ _ rfl _ _ rfl _ Try.underlying86 rfl _ (fun W hW => hW.range (.tail _ (.tail _ (.head _)))) (info86c _)) (hS.sub (by repeat (first | exact List.Sublist.slnil | apply List.Sublist.cons_cons | apply List.Sublist.cons))) ?_
                | refine wpAnyH_take (i := 2) rfl (by kernel_rfl) (by kernel_rfl) (by kernel_rfl) (fun _ _ _ h => h) (yields_row (by rfl) _ _ rfl _ _ rfl _ Try.underlying86 rfl _ (fun W hW => hW.range (.tail _ (.tail _ (.tail _ (.head _))))) (info86c _)) (hS.sub (by repeat (first | exact List.Sublist.slnil | apply List.Sublist.cons_cons | apply List.Sublist.cons))) ?_
                | refine wpAnyH_take (i := 2) rfl (by kernel_rfl) (by kernel_rfl) (by kernel_rfl) (fun _ _ _ h => h) (yields_row (by rfl) _ _ rfl _ _ rfl _ Try.underlying86 rfl _ (fun W hW => hW.range (.tail _ (.tail _ (.tail _ (.tail _ (.head _)))))) (info86c _)) (hS.sub (by repeat (first | exact List.Sublist.slnil | apply List.Sublist.cons_cons | apply List.Sublist.cons))) ?_
                | refine wpAnyH_take (i := 2) rfl (by kernel_rfl) (by kernel_rfl) (by kernel_rfl) (fun _ _ _ h => h) (yields_row (by rfl) _ _ rfl _ _ rfl _ Try.underlying86 rfl _ (fun W hW => hW.range (.tail _ (.tail _ (.tail _ (.tail _ (.tail _ (.head _))))))) (info86c _)) (hS.sub (by repeat (first | exact List.Sublist.slnil | apply List.Sublist.cons_cons | apply List.Sublist.cons))) ?_
              try simp only [Act.put, List.setIfInBounds_toArray, List.set_cons_zero, List.set_cons_succ, List.getElem_toArray, List.getElem_cons_succ, List.getElem_cons_zero]
              refine wpAnyH_ready (rs := [1]) (by kernel_rfl) (by simp) (AllReadyH.cons rfl ?_ AllReadyH.nil)
              intro K1 hK1
              rw [if_pos (by rfl)]
              try simp only [Act.put, List.setIfInBounds_toArray, List.set_cons_zero, List.set_cons_succ, List.getElem_toArray, List.getElem_cons_succ, List.getElem_cons_zero]
              go_simp
              refine (HP.out _).mono ?_
              rintro e1 v2 ⟨rfl, hb⟩
              replace hS := hS.call hb
              clear hb
              refine hK1.out _ _ (hS.sub (by repeat (first | exact List.Sublist.slnil | apply List.Sublist.cons_cons | apply List.Sublist.cons))) (fun _ => ?_)
              clear hK1
              try simp only [Act.put, List.setIfInBounds_toArray, List.set_cons_zero, List.set_cons_succ, List.getElem_toArray, List.getElem_cons_succ, List.getElem_cons_zero]
              refine wpAnyH_take (i := 3) (v := ?_) rfl (by kernel_rfl) (by kernel_rfl) (by kernel_rfl) (fun _ _ _ h => h) (Or.inl ⟨by rfl, ?_⟩) (hS.sub (by repeat (first | exact List.Sublist.slnil | apply List.Sublist.cons_cons | apply List.Sublist.cons))) ?_
              rotate_left 1
              · intro W hW
                clear hW
                go_simp
                all_goals with_reducible rfl
              try simp only [Act.put, List.setIfInBounds_toArray, List.set_cons_zero, List.set_cons_succ, List.getElem_toArray, List.getElem_cons_succ, List.getElem_cons_zero]
              refine wpAnyH_done (by kernel_rfl) ?_ _
              go_wp2_with fail
              go_round
              case rel => exact ⟨k + 1, D, hD, by simp, by omega, (hS.sub (by repeat (first | exact List.Sublist.slnil | apply List.Sublist.cons_cons | apply List.Sublist.cons)))⟩
              case measure => simp [intOf]; omega
            · have t0 : (bits .and .u8 (v / 4) 3 == 0) = false := by simpa using s0
              by_cases s1 : bits .and .u8 (v / 4) 3 = 1
              · go_wp2_with (first
  | ((with_reducible refine to_alloc 80 rfl ?_); refine Wl_alloc hS (fun _ => by rfl) _ zero80r ?_; clear hS; intro bB wW hS; simp only [Act.put, List.setIfInBounds_toArray, List.set_cons_zero, List.set_cons_succ])
  | ((with_reducible refine to_alloc 86 rfl ?_); refine Wl_alloc hS (fun _ => by rfl) _ zero86r ?_; clear hS; intro bB wW hS; simp only [Act.put, List.setIfInBounds_toArray, List.set_cons_zero, List.set_cons_succ])
  | ((with_reducible refine to_load 80 rfl ?_); refine Wl_load hS (fun _ => by rfl) _ _ rfl _ Try.underlying80 rfl ?_; (repeat (first | (refine Row.here ⟨info80c _, ?_⟩) | refine Row.next ?_)); (with_reducible show wpList _ _ _ _ _ _); simp only [Act.put, List.setIfInBounds_toArray, List.set_cons_zero, List.set_cons_succ])
  | ((with_reducible refine to_load 86 rfl ?_); refine Wl_load hS (fun _ => by rfl) _ _ rfl _ Try.underlying86 rfl ?_; (repeat (first | (refine Row.here ⟨info86c _, ?_⟩) | refine Row.next ?_)); (with_reducible show wpList _ _ _ _ _ _); simp only [Act.put, List.setIfInBounds_toArray, List.set_cons_zero, List.set_cons_succ])
  | ((with_reducible refine to_store 80 rfl ?_); refine Wl_store hS (fun _ => by rfl) _ _ _ rfl rfl (info80c _) (pi_one _) ?_; (repeat (first | refine Turn.here rfl ?_ | refine Turn.next ?_)); clear hS; intro wW hS; try simp only [Act.put, List.setIfInBounds_toArray, List.set_cons_zero, List.set_cons_succ])
  | ((with_reducible refine to_store 86 rfl ?_); refine Wl_store hS (fun _ => by rfl) _ _ _ rfl rfl (info86c _) (pi_one _) ?_; (repeat (first | refine Turn.here rfl ?_ | refine Turn.next ?_)); clear hS; intro wW hS; try simp only [Act.put, List.setIfInBounds_toArray, List.set_cons_zero, List.set_cons_succ]))
                refine (pwrite_any c hc _ _ (by omega) (by omega) _).mono ?_
                rintro e w2 ⟨rfl, hb⟩
                replace hS := hS.call hb
                clear hb
                go_wp2_with (first
  | ((with_reducible refine to_alloc 80 rfl ?_); refine Wl_alloc hS (fun _ => by rfl) _ zero80r ?_; clear hS; intro bB wW hS; simp only [Act.put, List.setIfInBounds_toArray, List.set_cons_zero, List.set_cons_succ])
  | ((with_reducible refine to_alloc 86 rfl ?_); refine Wl_alloc hS (fun _ => by rfl) _ zero86r ?_; clear hS; intro bB wW hS; simp only [Act.put, List.setIfInBounds_toArray, List.set_cons_zero, List.set_cons_succ])
  | ((with_reducible refine to_load 80 rfl ?_); refine Wl_load hS (fun _ => by rfl) _ _ rfl _ Try.underlying80 rfl ?_; (repeat (first | (refine Row.here ⟨info80c _, ?_⟩) | refine Row.next ?_)); (with_reducible show wpList _ _ _ _ _ _); simp only [Act.put, List.setIfInBounds_toArray, List.set_cons_zero, List.set_cons_succ])
  | ((with_reducible refine to_load 86 rfl ?_); refine Wl_load hS (fun _ => by rfl) _ _ rfl _ Try.underlying86 rfl ?_; (repeat (first | (refine Row.here ⟨info86c _, ?_⟩) | refine Row.next ?_)); (with_reducible show wpList _ _ _ _ _ _); simp only [Act.put, List.setIfInBounds_toArray, List.set_cons_zero, List.set_cons_succ])
  | ((with_reducible refine to_store 80 rfl ?_); refine Wl_store hS (fun _ => by rfl) _ _ _ rfl rfl (info80c _) (pi_one _) ?_; (repeat (first | refine Turn.here rfl ?_ | refine Turn.next ?_)); clear hS; intro wW hS; try simp only [Act.put, List.setIfInBounds_toArray, List.set_cons_zero, List.set_cons_succ])
  | ((with_reducible refine to_store 86 rfl ?_); refine Wl_store hS (fun _ => by rfl) _ _ _ rfl rfl (info86c _) (pi_one _) ?_; (repeat (first | refine Turn.here rfl ?_ | refine Turn.next ?_)); clear hS; intro wW hS; try simp only [Act.put, List.setIfInBounds_toArray, List.set_cons_zero, List.set_cons_succ]))
                refine (rpwrite_any c hc _ _ (by omega) (by omega) _).mono ?_
                rintro e w2 ⟨rfl, hb⟩
                replace hS := hS.call hb
                clear hb
                have hD := M.pWrite_ok (p := c) (reg := bits .and .u8 v 3) (b := u) hc (by omega) (by omega)
                generalize M.pWrite c (bits .and .u8 v 3) (u) = D at hS hD ⊢
                have q1 := fun W => neqR D W
                have hP := fun W => pplain_any D W
                have HP := Lib.hid hP
                clear hP
                go_wp2_with (first
  | ((with_reducible refine to_alloc 80 rfl ?_); refine Wl_alloc hS (fun _ => by rfl) _ zero80r ?_; clear hS; intro bB wW hS; simp only [Act.put, List.setIfInBounds_toArray, List.set_cons_zero, List.set_cons_succ])
  | ((with_reducible refine to_alloc 86 rfl ?_); refine Wl_alloc hS (fun _ => by rfl) _ zero86r ?_; clear hS; intro bB wW hS; simp only [Act.put, List.setIfInBounds_toArray, List.set_cons_zero, List.set_cons_succ])
  | ((with_reducible refine to_load 80 rfl ?_); refine Wl_load hS (fun _ => by rfl) _ _ rfl _ Try.underlying80 rfl ?_; (repeat (first | (refine Row.here ⟨info80c _, ?_⟩) | refine Row.next ?_)); (with_reducible show wpList _ _ _ _ _ _); simp only [Act.put, List.setIfInBounds_toArray, List.set_cons_zero, List.set_cons_succ])
  | ((with_reducible refine to_load 86 rfl ?_); refine Wl_load hS (fun _ => by rfl) _ _ rfl _ Try.underlying86 rfl ?_; (repeat (first | (refine Row.here ⟨info86c _, ?_⟩) | refine Row.next ?_)); (with_reducible show wpList _ _ _ _ _ _); simp only [Act.put, List.setIfInBounds_toArray, List.set_cons_zero, List.set_cons_succ])
  | ((with_reducible refine to_store 80 rfl ?_); refine Wl_store hS (fun _ => by rfl) _ _ _ rfl rfl (info80c _) (pi_one _) ?_; (repeat (first | refine Turn.here rfl ?_ | refine Turn.next ?_)); clear hS; intro wW hS; try simp only [Act.put, List.setIfInBounds_toArray, List.set_cons_zero, List.set_cons_succ])
  | ((with_reducible refine to_store 86 rfl ?_); refine Wl_store hS (fun _ => by rfl) _ _ _ rfl rfl (info86c _) (pi_one _) ?_; (repeat (first | refine Turn.here rfl ?_ | refine Turn.next ?_)); clear hS; intro wW hS; try simp only [Act.put, List.setIfInBounds_toArray, List.set_cons_zero, List.set_cons_succ]))
                refine wp_region_held_drew (S := fun W => St w.heap.size 0 0 w [⟨b7, 0, true, D.a⟩, ⟨b6, 0, true, D.a⟩] W) (by kernel_rfl) (hS.drew.sub (by repeat (first | exact List.Sublist.slnil | apply List.Sublist.cons_cons | apply List.Sublist.cons))) ?_
                intro _
                replace hS := hS.drew
                generalize World.drew _ = wX at hS ⊢
                first
                  | refine wpAnyH_take (i := 0) rfl (by kernel_rfl) (by kernel_rfl) (by kernel_rfl) (fun _ _ _ h => h) (yields_row (by rfl) _ _ rfl _ _ rfl _ Try.underlying80 rfl _ (fun W hW => hW.range (.head _)) (info80c _)) (hS.sub (by repeat (first | exact List.Sublist.slnil | apply List.Sublist.cons_cons | apply List.Sublist.cons))) ?_
                  | refine wpAnyH_take (i := 0) rfl (by kernel_rfl) (by kernel_rfl) (by kernel_rfl) (fun _ _ _ h => h) (yields_row (by rfl) _ _ rfl _ _ rfl _ Try.underlying80 rfl _ (fun W hW => hW.range (.tail _ (.head _))) (info80c _)) (hS.sub (by repeat (first | exact List.Sublist.slnil | apply List.Sublist.cons_cons | apply List.Sublist.cons))) ?_
                  | refine wpAnyH_take (i := 0) rfl (by kernel_rfl) (by kernel_rfl) (by kernel_rfl) (fun _ _ _ h => h) (yields_row (by rfl) _ _ rfl _ _ rfl _ Try.underlying80 rfl _ (fun W hW => hW.range (.tail _ (.tail _ (.head _)))) (info80c _)) (hS.sub (by repeat (first | exact List.Sublist.slnil | apply List.Sublist.cons_cons | apply List.Sublist.cons))) ?_
                  | refine wpAnyH_take (i := 0) rfl (by kernel_rfl) (by kernel_rfl) (by kernel_rfl) (fun _ _ _ h => h) (yields_row (by rfl) _ _ rfl _ _ rfl _ Try.underlying80 rfl _ (fun W hW => hW.range (.tail _ (.tail _ (.tail _ (.head _))))) (info80c _)) (hS.sub (by repeat (first | exact List.Sublist.slnil | apply List.Sublist.cons_cons | apply List.Sublist.cons))) ?_
                  | refine wpAnyH_take (i := 0) rfl (by kernel_rfl) (by kernel_rfl) (by kernel_rfl) (fun _ _ _ h => h) (yields_row (by rfl) _ _ rfl _ _ rfl _ Try.underlying80 rfl _ (fun W hW => hW.range (.tail _ (.tail _ (.tail _ (.tail _ (.head _)))))) (info80c _)) (hS.sub (by repeat (first | exact List.Sublist.slnil | apply List.Sublist.cons_cons | apply List.Sublist.cons))) ?_
                  | refine wpAnyH_take (i := 0) rfl (by kernel_rfl) (by kernel_rfl) (by kernel_rfl) (fun _ _ _ h => h) (yields_row (by rfl) _ _ rfl _ _ rfl _ Try.underlying80 rfl _ (fun W hW => hW.range (.tail _ (.tail _ (.tail _ (.tail _ (.tail _ (.head _))))))) (info80c _)) (hS.sub (by repeat (first | exact List.Sublist.slnil | apply List.Sublist.cons_cons | apply List.Sublist.cons))) ?_
                try simp only [Act.put, List.setIfInBounds_toArray, List.set_cons_zero, List.set_cons_succ, List.getElem_toArray, List.getElem_cons_succ, List.getElem_cons_zero]
                first
                  | refine wpAnyH_take (i := 2) rfl (by kernel_rfl) (by kernel_rfl) (by kernel_rfl) (fun _ _ _ h => h) (yields_row (by rfl) _ _ rfl _ _ rfl _ Try.underlying86 rfl _ (fun W hW => hW.range (.head _)) (info86c _)) (hS.sub (by repeat (first | exact List.Sublist.slnil | apply List.Sublist.cons_cons | apply List.Sublist.cons))) ?_
                  | refine wpAnyH_take (i := 2) rfl (by kernel_rfl) (by kernel_rfl) (by kernel_rfl) (fun _ _ _ h => h) (yields_row (by rfl) _ _ rfl _ _ rfl _ Try.underlying86 rfl _ (fun W hW => hW.range (.tail _ (.head _))) (info86c _)) (hS.sub (by repeat (first | exact List.Sublist.slnil | apply List.Sublist.cons_cons | apply List.Sublist.cons))) ?_
                  | refine wpAnyH_take (i := 2) rfl (by kernel_rfl) (by kernel_rfl) (by kernel_rfl) (fun _ _ _ h => h) (yields_row (by rfl) _ _ rfl _ _ rfl _ Try.underlying86 rfl _ (fun W hW => hW.range (.tail _ (.tail _ (.head _)))) (info86c _)) (hS.sub (by repeat (first | exact List.Sublist.slnil | apply List.Sublist.cons_cons | apply List.Sublist.cons))) ?_
                  | refine wpAnyH_take (i := 2) rfl (by kernel_rfl) (by kernel_rfl) (by kernel_rfl) (fun _ _ _ h => h) (yields_row (by rfl) _ _ rfl _ _ rfl _ Try.underlying86 rfl _ (fun W hW => hW.range (.tail _ (.tail _ (.tail _ (.head _))))) (info86c _)) (hS.sub (by repeat (first | exact List.Sublist.slnil | apply List.Sublist.cons_cons | apply List.Sublist.cons))) ?_
                  | refine wpAnyH_take (i := 2) rfl (by kernel_rfl) (by kernel_rfl) (by kernel_rfl) (fun _ _ _ h => h) (yields_row (by rfl) _ _ rfl _ _ rfl _ Try.underlying86 rfl _ (fun W hW => hW.range (.tail _ (.tail _ (.tail _ (.tail _ (.head _)))))) (info86c _)) (hS.sub (by repeat (first | exact List.Sublist.slnil | apply List.Sublist.cons_cons | apply List.Sublist.cons))) ?_
                  | refine wpAnyH_take (i := 2) rfl (by kernel_rfl) (by kernel_rfl) (by kernel_rfl) (fun _ _ _ h => h) (yields_row (by rfl) _ _ rfl _ _ rfl _ Try.underlying86 rfl _ (fun W hW => hW.range (.tail _ (.tail _ (.tail _ (.tail _ (.tail _ (.head _))))))) (info86c _)) (hS.sub (by repeat (first | exact List.Sublist.slnil | apply List.Sublist.cons_cons | apply List.Sublist.cons))) ?_
                try simp only [Act.put, List.setIfInBounds_toArray, List.set_cons_zero, List.set_cons_succ, List.getElem_toArray, List.getElem_cons_succ, List.getElem_cons_zero]
                refine wpAnyH_ready (rs := [1]) (by kernel_rfl) (by simp) (AllReadyH.cons rfl ?_ AllReadyH.nil)
                intro K1 hK1
                rw [if_pos (by rfl)]
                try simp only [Act.put, List.setIfInBounds_toArray, List.set_cons_zero, List.set_cons_succ, List.getElem_toArray, List.getElem_cons_succ, List.getElem_cons_zero]
                go_simp
                refine (HP.out _).mono ?_
                rintro e1 v2 ⟨rfl, hb⟩
                replace hS := hS.call hb
                clear hb
                refine hK1.out _ _ (hS.sub (by repeat (first | exact List.Sublist.slnil | apply List.Sublist.cons_cons | apply List.Sublist.cons))) (fun _ => ?_)
                clear hK1
                try simp only [Act.put, List.setIfInBounds_toArray, List.set_cons_zero, List.set_cons_succ, List.getElem_toArray, List.getElem_cons_succ, List.getElem_cons_zero]
                refine wpAnyH_take (i := 3) (v := ?_) rfl (by kernel_rfl) (by kernel_rfl) (by kernel_rfl) (fun _ _ _ h => h) (Or.inl ⟨by rfl, ?_⟩) (hS.sub (by repeat (first | exact List.Sublist.slnil | apply List.Sublist.cons_cons | apply List.Sublist.cons))) ?_
                rotate_left 1
                · intro W hW
                  clear hW
                  go_simp
                  all_goals with_reducible rfl
                try simp only [Act.put, List.setIfInBounds_toArray, List.set_cons_zero, List.set_cons_succ, List.getElem_toArray, List.getElem_cons_succ, List.getElem_cons_zero]
                refine wpAnyH_done (by kernel_rfl) ?_ _
                go_wp2_with fail
                go_round
                case rel => exact ⟨k + 1, D, hD, by simp, by omega, (hS.sub (by repeat (first | exact List.Sublist.slnil | apply List.Sublist.cons_cons | apply List.Sublist.cons)))⟩
                case measure => simp [intOf]; omega
              · have t1 : (bits .and .u8 (v / 4) 3 == 1) = false := by simpa using s1
                by_cases s2 : bits .and .u8 (v / 4) 3 = 2
                · go_wp2_with (first
  | ((with_reducible refine to_alloc 80 rfl ?_); refine Wl_alloc hS (fun _ => by rfl) _ zero80r ?_; clear hS; intro bB wW hS; simp only [Act.put, List.setIfInBounds_toArray, List.set_cons_zero, List.set_cons_succ])
  | ((with_reducible refine to_alloc 86 rfl ?_); refine Wl_alloc hS (fun _ => by rfl) _ zero86r ?_; clear hS; intro bB wW hS; simp only [Act.put, List.setIfInBounds_toArray, List.set_cons_zero, List.set_cons_succ])
  | ((with_reducible refine to_load 80 rfl ?_); refine Wl_load hS (fun _ => by rfl) _ _ rfl _ Try.underlying80 rfl ?_; (repeat (first | (refine Row.here ⟨info80c _, ?_⟩) | refine Row.next ?_)); (with_reducible show wpList _ _ _ _ _ _); simp only [Act.put, List.setIfInBounds_toArray, List.set_cons_zero, List.set_cons_succ])
  | ((with_reducible refine to_load 86 rfl ?_); refine Wl_load hS (fun _ => by rfl) _ _ rfl _ Try.underlying86 rfl ?_; (repeat (first | (refine Row.here ⟨info86c _, ?_⟩) | refine Row.next ?_)); (with_reducible show wpList _ _ _ _ _ _); simp only [Act.put, List.setIfInBounds_toArray, List.set_cons_zero, List.set_cons_succ])
  | ((with_reducible refine to_store 80 rfl ?_); refine Wl_store hS (fun _ => by rfl) _ _ _ rfl rfl (info80c _) (pi_one _) ?_; (repeat (first | refine Turn.here rfl ?_ | refine Turn.next ?_)); clear hS; intro wW hS; try simp only [Act.put, List.setIfInBounds_toArray, List.set_cons_zero, List.set_cons_succ])
  | ((with_reducible refine to_store 86 rfl ?_); refine Wl_store hS (fun _ => by rfl) _ _ _ rfl rfl (info86c _) (pi_one _) ?_; (repeat (first | refine Turn.here rfl ?_ | refine Turn.next ?_)); clear hS; intro wW hS; try simp only [Act.put, List.setIfInBounds_toArray, List.set_cons_zero, List.set_cons_succ]))
                  refine (plines_any c hc _ _ (by omega) (by omega) _).mono ?_
                  rintro e w2 ⟨rfl, hb⟩
                  replace hS := hS.call hb
                  clear hb
                  have hd := M.pLines_ok (p := c) (k := bits .and .u8 v 3) (b := u) hc (by omega) (by omega)
                  go_wp2_with (first
  | ((with_reducible refine to_alloc 80 rfl ?_); refine Wl_alloc hS (fun _ => by rfl) _ zero80r ?_; clear hS; intro bB wW hS; simp only [Act.put, List.setIfInBounds_toArray, List.set_cons_zero, List.set_cons_succ])
  | ((with_reducible refine to_alloc 86 rfl ?_); refine Wl_alloc hS (fun _ => by rfl) _ zero86r ?_; clear hS; intro bB wW hS; simp only [Act.put, List.setIfInBounds_toArray, List.set_cons_zero, List.set_cons_succ])
  | ((with_reducible refine to_load 80 rfl ?_); refine Wl_load hS (fun _ => by rfl) _ _ rfl _ Try.underlying80 rfl ?_; (repeat (first | (refine Row.here ⟨info80c _, ?_⟩) | refine Row.next ?_)); (with_reducible show wpList _ _ _ _ _ _); simp only [Act.put, List.setIfInBounds_toArray, List.set_cons_zero, List.set_cons_succ])
  | ((with_reducible refine to_load 86 rfl ?_); refine Wl_load hS (fun _ => by rfl) _ _ rfl _ Try.underlying86 rfl ?_; (repeat (first | (refine Row.here ⟨info86c _, ?_⟩) | refine Row.next ?_)); (with_reducible show wpList _ _ _ _ _ _); simp only [Act.put, List.setIfInBounds_toArray, List.set_cons_zero, List.set_cons_succ])
  | ((with_reducible refine to_store 80 rfl ?_); refine Wl_store hS (fun _ => by rfl) _ _ _ rfl rfl (info80c _) (pi_one _) ?_; (repeat (first | refine Turn.here rfl ?_ | refine Turn.next ?_)); clear hS; intro wW hS; try simp only [Act.put, List.setIfInBounds_toArray, List.set_cons_zero, List.set_cons_succ])
  | ((with_reducible refine to_store 86 rfl ?_); refine Wl_store hS (fun _ => by rfl) _ _ _ rfl rfl (info86c _) (pi_one _) ?_; (repeat (first | refine Turn.here rfl ?_ | refine Turn.next ?_)); clear hS; intro wW hS; try simp only [Act.put, List.setIfInBounds_toArray, List.set_cons_zero, List.set_cons_succ]))
                  refine (pstrobe_any _ hd _ _ (by omega) (by omega) _).mono ?_
                  rintro e w2 ⟨rfl, hb⟩
                  replace hS := hS.call hb
                  clear hb
                  go_wp2_with (first
  | ((with_reducible refine to_alloc 80 rfl ?_); refine Wl_alloc hS (fun _ => by rfl) _ zero80r ?_; clear hS; intro bB wW hS; simp only [Act.put, List.setIfInBounds_toArray, List.set_cons_zero, List.set_cons_succ])
  | ((with_reducible refine to_alloc 86 rfl ?_); refine Wl_alloc hS (fun _ => by rfl) _ zero86r ?_; clear hS; intro bB wW hS; simp only [Act.put, List.setIfInBounds_toArray, List.set_cons_zero, List.set_cons_succ])
  | ((with_reducible refine to_load 80 rfl ?_); refine Wl_load hS (fun _ => by rfl) _ _ rfl _ Try.underlying80 rfl ?_; (repeat (first | (refine Row.here ⟨info80c _, ?_⟩) | refine Row.next ?_)); (with_reducible show wpList _ _ _ _ _ _); simp only [Act.put, List.setIfInBounds_toArray, List.set_cons_zero, List.set_cons_succ])
  | ((with_reducible refine to_load 86 rfl ?_); refine Wl_load hS (fun _ => by rfl) _ _ rfl _ Try.underlying86 rfl ?_; (repeat (first | (refine Row.here ⟨info86c _, ?_⟩) | refine Row.next ?_)); (with_reducible show wpList _ _ _ _ _ _); simp only [Act.put, List.setIfInBounds_toArray, List.set_cons_zero, List.set_cons_succ])
  | ((with_reducible refine to_store 80 rfl ?_); refine Wl_store hS (fun _ => by rfl) _ _ _ rfl rfl (info80c _) (pi_one _) ?_; (repeat (first | refine Turn.here rfl ?_ | refine Turn.next ?_)); clear hS; intro wW hS; try simp only [Act.put, List.setIfInBounds_toArray, List.set_cons_zero, List.set_cons_succ])
  | ((with_reducible refine to_store 86 rfl ?_); refine Wl_store hS (fun _ => by rfl) _ _ _ rfl rfl (info86c _) (pi_one _) ?_; (repeat (first | refine Turn.here rfl ?_ | refine Turn.next ?_)); clear hS; intro wW hS; try simp only [Act.put, List.setIfInBounds_toArray, List.set_cons_zero, List.set_cons_succ]))
                  refine (rplines_any c hc _ _ (by omega) (by omega) _).mono ?_
                  rintro e w2 ⟨rfl, hb⟩
                  replace hS := hS.call hb
                  clear hb
                  go_wp2_with (first
  | ((with_reducible refine to_alloc 80 rfl ?_); refine Wl_alloc hS (fun _ => by rfl) _ zero80r ?_; clear hS; intro bB wW hS; simp only [Act.put, List.setIfInBounds_toArray, List.set_cons_zero, List.set_cons_succ])
  | ((with_reducible refine to_alloc 86 rfl ?_); refine Wl_alloc hS (fun _ => by rfl) _ zero86r ?_; clear hS; intro bB wW hS; simp only [Act.put, List.setIfInBounds_toArray, List.set_cons_zero, List.set_cons_succ])
  | ((with_reducible refine to_load 80 rfl ?_); refine Wl_load hS (fun _ => by rfl) _ _ rfl _ Try.underlying80 rfl ?_; (repeat (first | (refine Row.here ⟨info80c _, ?_⟩) | refine Row.next ?_)); (with_reducible show wpList _ _ _ _ _ _); simp only [Act.put, List.setIfInBounds_toArray, List.set_cons_zero, List.set_cons_succ])
  | ((with_reducible refine to_load 86 rfl ?_); refine Wl_load hS (fun _ => by rfl) _ _ rfl _ Try.underlying86 rfl ?_; (repeat (first | (refine Row.here ⟨info86c _, ?_⟩) | refine Row.next ?_)); (with_reducible show wpList _ _ _ _ _ _); simp only [Act.put, List.setIfInBounds_toArray, List.set_cons_zero, List.set_cons_succ])
  | ((with_reducible refine to_store 80 rfl ?_); refine Wl_store hS (fun _ => by rfl) _ _ _ rfl rfl (info80c _) (pi_one _) ?_; (repeat (first | refine Turn.here rfl ?_ | refine Turn.next ?_)); clear hS; intro wW hS; try simp only [Act.put, List.setIfInBounds_toArray, List.set_cons_zero, List.set_cons_succ])
  | ((with_reducible refine to_store 86 rfl ?_); refine Wl_store hS (fun _ => by rfl) _ _ _ rfl rfl (info86c _) (pi_one _) ?_; (repeat (first | refine Turn.here rfl ?_ | refine Turn.next ?_)); clear hS; intro wW hS; try simp only [Act.put, List.setIfInBounds_toArray, List.set_cons_zero, List.set_cons_succ]))
                  refine (rpstrobe_any _ hd _ _ (by omega) (by omega) _).mono ?_
                  rintro e w2 ⟨rfl, hb⟩
                  replace hS := hS.call hb
                  clear hb
                  have hD := M.pStrobe_ok (p := M.pLines c (bits .and .u8 v 3) (u)) (k := bits .and .u8 v 3) (b := u) hd (by omega) (by omega)
                  generalize M.pStrobe (M.pLines c (bits .and .u8 v 3) (u)) (bits .and .u8 v 3) (u) = D at hS hD ⊢
                  have q1 := fun W => neqR D W
                  have hP := fun W => pplain_any D W
                  have HP := Lib.hid hP
                  clear hP
                  go_wp2_with (first
  | ((with_reducible refine to_alloc 80 rfl ?_); refine Wl_alloc hS (fun _ => by rfl) _ zero80r ?_; clear hS; intro bB wW hS; simp only [Act.put, List.setIfInBounds_toArray, List.set_cons_zero, List.set_cons_succ])
  | ((with_reducible refine to_alloc 86 rfl ?_); refine Wl_alloc hS (fun _ => by rfl) _ zero86r ?_; clear hS; intro bB wW hS; simp only [Act.put, List.setIfInBounds_toArray, List.set_cons_zero, List.set_cons_succ])
  | ((with_reducible refine to_load 80 rfl ?_); refine Wl_load hS (fun _ => by rfl) _ _ rfl _ Try.underlying80 rfl ?_; (repeat (first | (refine Row.here ⟨info80c _, ?_⟩) | refine Row.next ?_)); (with_reducible show wpList _ _ _ _ _ _); simp only [Act.put, List.setIfInBounds_toArray, List.set_cons_zero, List.set_cons_succ])
  | ((with_reducible refine to_load 86 rfl ?_); refine Wl_load hS (fun _ => by rfl) _ _ rfl _ Try.underlying86 rfl ?_; (repeat (first | (refine Row.here ⟨info86c _, ?_⟩) | refine Row.next ?_)); (with_reducible show wpList _ _ _ _ _ _); simp only [Act.put, List.setIfInBounds_toArray, List.set_cons_zero, List.set_cons_succ])
  | ((with_reducible refine to_store 80 rfl ?_); refine Wl_store hS (fun _ => by rfl) _ _ _ rfl rfl (info80c _) (pi_one _) ?_; (repeat (first | refine Turn.here rfl ?_ | refine Turn.next ?_)); clear hS; intro wW hS; try simp only [Act.put, List.setIfInBounds_toArray, List.set_cons_zero, List.set_cons_succ])
  | ((with_reducible refine to_store 86 rfl ?_); refine Wl_store hS (fun _ => by rfl) _ _ _ rfl rfl (info86c _) (pi_one _) ?_; (repeat (first | refine Turn.here rfl ?_ | refine Turn.next ?_)); clear hS; intro wW hS; try simp only [Act.put, List.setIfInBounds_toArray, List.set_cons_zero, List.set_cons_succ]))
                  refine wp_region_held_drew (S := fun W => St w.heap.size 0 0 w [⟨b7, 0, true, D.a⟩, ⟨b6, 0, true, D.a⟩] W) (by kernel_rfl) (hS.drew.sub (by repeat (first | exact List.Sublist.slnil | apply List.Sublist.cons_cons | apply List.Sublist.cons))) ?_
                  intro _
                  replace hS := hS.drew
                  generalize World.drew _ = wX at hS ⊢
                  first
                    | refine wpAnyH_take (i := 0) rfl (by kernel_rfl) (by kernel_rfl) (by kernel_rfl) (fun _ _ _ h => h) (yields_row (by rfl) _ _ rfl _ _ rfl _ Try.underlying80 rfl _ (fun W hW => hW.range (.head _)) (info80c _)) (hS.sub (by repeat (first | exact List.Sublist.slnil | apply List.Sublist.cons_cons | apply List.Sublist.cons))) ?_
                    | refine wpAnyH_take (i := 0) rfl (by kernel_rfl) (by kernel_rfl) (by kernel_rfl) (fun _ _ _ h => h) (yields_row (by rfl) _ _ rfl _ _ rfl _ Try.underlying80 rfl _ (fun W hW => hW.range (.tail _ (.head _))) (info80c _)) (hS.sub (by repeat (first | exact List.Sublist.slnil | apply List.Sublist.cons_cons | apply List.Sublist.cons))) ?_
                    | refine wpAnyH_take (i := 0) rfl (by kernel_rfl) (by kernel_rfl) (by kernel_rfl) (fun _ _ _ h => h) (yields_row (by rfl) _ _ rfl _ _ rfl _ Try.underlying80 rfl _ (fun W hW => hW.range (.tail _ (.tail _ (.head _)))) (info80c _)) (hS.sub (by repeat (first | exact List.Sublist.slnil | apply List.Sublist.cons_cons | apply List.Sublist.cons))) ?_
                    | refine wpAnyH_take (i := 0) rfl (by kernel_rfl) (by kernel_rfl) (by kernel_rfl) (fun _ _ _ h => h) (yields_row (by rfl) _ _ rfl _ _ rfl _ Try.underlying80 rfl _ (fun W hW => hW.range (.tail _ (.tail _ (.tail _ (.head _))))) (info80c _)) (hS.sub (by repeat (first | exact List.Sublist.slnil | apply List.Sublist.cons_cons | apply List.Sublist.cons))) ?_
                    | refine wpAnyH_take (i := 0) rfl (by kernel_rfl) (by kernel_rfl) (by kernel_rfl) (fun _ _ _ h => h) (yields_row (by rfl) _ _ rfl _ _ rfl _ Try.underlying80 rfl _ (fun W hW => hW.range (.tail _ (.tail _ (.tail _ (.tail _ (.head _)))))) (info80c _)) (hS.sub (by repeat (first | exact List.Sublist.slnil | apply List.Sublist.cons_cons | apply List.Sublist.cons))) ?_
                    | refine wpAnyH_take (i := 0) rfl (by kernel_rfl) (by kernel_rfl) (by kernel_rfl) (fun _ _ _ h => h) (yields_row (by rfl) _ _ rfl _ _ rfl _ Try.underlying80 rfl _ (fun W hW => hW.range (.tail _ (.tail _ (.tail _ (.tail _ (.tail _ (.head _))))))) (info80c _)) (hS.sub (by repeat (first | exact List.Sublist.slnil | apply List.Sublist.cons_cons | apply List.Sublist.cons))) ?_
                  try simp only [Act.put, List.setIfInBounds_toArray, List.set_cons_zero, List.set_cons_succ, List.getElem_toArray, List.getElem_cons_succ, List.getElem_cons_zero]
                  first
                    | refine wpAnyH_take (i := 2) rfl (by kernel_rfl) (by kernel_rfl) (by kernel_rfl) (fun _ _ _ h => h) (yields_row (by rfl) _ _ rfl _ _ rfl _ Try.underlying86 rfl _ (fun W hW => hW.range (.head _)) (info86c _)) (hS.sub (by repeat (first | exact List.Sublist.slnil | apply List.Sublist.cons_cons | apply List.Sublist.cons))) ?_
                    | refine wpAnyH_take (i := 2) rfl (by kernel_rfl) (by kernel_rfl) (by kernel_rfl) (fun _ _ _ h => h) (yields_row (by rfl) _ _ rfl _ _ rfl _ Try.underlying86 rfl _ (fun W hW => hW.range (.tail _ (.head _))) (info86c _)) (hS.sub (by repeat (first | exact List.Sublist.slnil | apply List.Sublist.cons_cons | apply List.Sublist.cons))) ?_
                    | refine wpAnyH_take (i := 2) rfl (by kernel_rfl) (by kernel_rfl) (by kernel_rfl) (fun _ _ _ h => h) (yields_row (by rfl) _ _ rfl _ _ rfl _ Try.underlying86 rfl _ (fun W hW => hW.range (.tail _ (.tail _ (.head _)))) (info86c _)) (hS.sub (by repeat (first | exact List.Sublist.slnil | apply List.Sublist.cons_cons | apply List.Sublist.cons))) ?_
                    | refine wpAnyH_take (i := 2) rfl (by kernel_rfl) (by kernel_rfl) (by kernel_rfl) (fun _ _ _ h => h) (yields_row (by rfl) _ _ rfl _ _ rfl _ Try.underlying86 rfl _ (fun W hW => hW.range (.tail _ (.tail _ (.tail _ (.head _))))) (info86c _)) (hS.sub (by repeat (first | exact List.Sublist.slnil | apply List.Sublist.cons_cons | apply List.Sublist.cons))) ?_
                    | refine wpAnyH_take (i := 2) rfl (by kernel_rfl) (by kernel_rfl) (by kernel_rfl) (fun _ _ _ h => h) (yields_row (by rfl) _ _ rfl _ _ rfl _ Try.underlying86 rfl _ (fun W hW => hW.range (.tail _ (.tail _ (.tail _ (.tail _ (.head _)))))) (info86c _)) (hS.sub (by repeat (first | exact List.Sublist.slnil | apply List.Sublist.cons_cons | apply List.Sublist.cons))) ?_
                    | refine wpAnyH_take (i := 2) rfl (by kernel_rfl) (by kernel_rfl) (by kernel_rfl) (fun _ _ _ h => h) (yields_row (by rfl) _ _ rfl _ _ rfl _ Try.underlying86 rfl _ (fun W hW => hW.range (.tail _ (.tail _ (.tail _ (.tail _ (.tail _ (.head _))))))) (info86c _)) (hS.sub (by repeat (first | exact List.Sublist.slnil | apply List.Sublist.cons_cons | apply List.Sublist.cons))) ?_
                  try simp only [Act.put, List.setIfInBounds_toArray, List.set_cons_zero, List.set_cons_succ, List.getElem_toArray, List.getElem_cons_succ, List.getElem_cons_zero]
                  refine wpAnyH_ready (rs := [1]) (by kernel_rfl) (by simp) (AllReadyH.cons rfl ?_ AllReadyH.nil)
                  intro K1 hK1
                  rw [if_pos (by rfl)]
                  try simp only [Act.put, List.setIfInBounds_toArray, List.set_cons_zero, List.set_cons_succ, List.getElem_toArray, List.getElem_cons_succ, List.getElem_cons_zero]
                  go_simp
                  refine (HP.out _).mono ?_
                  rintro e1 v2 ⟨rfl, hb⟩
                  replace hS := hS.call hb
                  clear hb
                  refine hK1.out _ _ (hS.sub (by repeat (first | exact List.Sublist.slnil | apply List.Sublist.cons_cons | apply List.Sublist.cons))) (fun _ => ?_)
                  clear hK1
                  try simp only [Act.put, List.setIfInBounds_toArray, List.set_cons_zero, List.set_cons_succ, List.getElem_toArray, List.getElem_cons_succ, List.getElem_cons_zero]
                  refine wpAnyH_take (i := 3) (v := ?_) rfl (by kernel_rfl) (by kernel_rfl) (by kernel_rfl) (fun _ _ _ h => h) (Or.inl ⟨by rfl, ?_⟩) (hS.sub (by repeat (first | exact List.Sublist.slnil | apply List.Sublist.cons_cons | apply List.Sublist.cons))) ?_
                  rotate_left 1
                  · intro W hW
                    clear hW
                    go_simp
                    all_goals with_reducible rfl
                  try simp only [Act.put, List.setIfInBounds_toArray, List.set_cons_zero, List.set_cons_succ, List.getElem_toArray, List.getElem_cons_succ, List.getElem_cons_zero]
                  refine wpAnyH_done (by kernel_rfl) ?_ _
                  go_wp2_with fail
                  go_round
                  case rel => exact ⟨k + 1, D, hD, by simp, by omega, (hS.sub (by repeat (first | exact List.Sublist.slnil | apply List.Sublist.cons_cons | apply List.Sublist.cons)))⟩
                  case measure => simp [intOf]; omega
                · have t2 : (bits .and .u8 (v / 4) 3 == 2) = false := by simpa using s2
                  go_wp2_with (first
  | ((with_reducible refine to_alloc 80 rfl ?_); refine Wl_alloc hS (fun _ => by rfl) _ zero80r ?_; clear hS; intro bB wW hS; simp only [Act.put, List.setIfInBounds_toArray, List.set_cons_zero, List.set_cons_succ])
  | ((with_reducible refine to_alloc 86 rfl ?_); refine Wl_alloc hS (fun _ => by rfl) _ zero86r ?_; clear hS; intro bB wW hS; simp only [Act.put, List.setIfInBounds_toArray, List.set_cons_zero, List.set_cons_succ])
  | ((with_reducible refine to_load 80 rfl ?_); refine Wl_load hS (fun _ => by rfl) _ _ rfl _ Try.underlying80 rfl ?_; (repeat (first | (refine Row.here ⟨info80c _, ?_⟩) | refine Row.next ?_)); (with_reducible show wpList _ _ _ _ _ _); simp only [Act.put, List.setIfInBounds_toArray, List.set_cons_zero, List.set_cons_succ])
  | ((with_reducible refine to_load 86 rfl ?_); refine Wl_load hS (fun _ => by rfl) _ _ rfl _ Try.underlying86 rfl ?_; (repeat (first | (refine Row.here ⟨info86c _, ?_⟩) | refine Row.next ?_)); (with_reducible show wpList _ _ _ _ _ _); simp only [Act.put, List.setIfInBounds_toArray, List.set_cons_zero, List.set_cons_succ])
  | ((with_reducible refine to_store 80 rfl ?_); refine Wl_store hS (fun _ => by rfl) _ _ _ rfl rfl (info80c _) (pi_one _) ?_; (repeat (first | refine Turn.here rfl ?_ | refine Turn.next ?_)); clear hS; intro wW hS; try simp only [Act.put, List.setIfInBounds_toArray, List.set_cons_zero, List.set_cons_succ])
  | ((with_reducible refine to_store 86 rfl ?_); refine Wl_store hS (fun _ => by rfl) _ _ _ rfl rfl (info86c _) (pi_one _) ?_; (repeat (first | refine Turn.here rfl ?_ | refine Turn.next ?_)); clear hS; intro wW hS; try simp only [Act.put, List.setIfInBounds_toArray, List.set_cons_zero, List.set_cons_succ]))
                  refine (pread_any c _ _).mono ?_
                  rintro e w2 ⟨rfl, hb⟩
                  replace hS := hS.call hb
                  clear hb
                  go_wp2_with (first
  | ((with_reducible refine to_alloc 80 rfl ?_); refine Wl_alloc hS (fun _ => by rfl) _ zero80r ?_; clear hS; intro bB wW hS; simp only [Act.put, List.setIfInBounds_toArray, List.set_cons_zero, List.set_cons_succ])
  | ((with_reducible refine to_alloc 86 rfl ?_); refine Wl_alloc hS (fun _ => by rfl) _ zero86r ?_; clear hS; intro bB wW hS; simp only [Act.put, List.setIfInBounds_toArray, List.set_cons_zero, List.set_cons_succ])
  | ((with_reducible refine to_load 80 rfl ?_); refine Wl_load hS (fun _ => by rfl) _ _ rfl _ Try.underlying80 rfl ?_; (repeat (first | (refine Row.here ⟨info80c _, ?_⟩) | refine Row.next ?_)); (with_reducible show wpList _ _ _ _ _ _); simp only [Act.put, List.setIfInBounds_toArray, List.set_cons_zero, List.set_cons_succ])
  | ((with_reducible refine to_load 86 rfl ?_); refine Wl_load hS (fun _ => by rfl) _ _ rfl _ Try.underlying86 rfl ?_; (repeat (first | (refine Row.here ⟨info86c _, ?_⟩) | refine Row.next ?_)); (with_reducible show wpList _ _ _ _ _ _); simp only [Act.put, List.setIfInBounds_toArray, List.set_cons_zero, List.set_cons_succ])
  | ((with_reducible refine to_store 80 rfl ?_); refine Wl_store hS (fun _ => by rfl) _ _ _ rfl rfl (info80c _) (pi_one _) ?_; (repeat (first | refine Turn.here rfl ?_ | refine Turn.next ?_)); clear hS; intro wW hS; try simp only [Act.put, List.setIfInBounds_toArray, List.set_cons_zero, List.set_cons_succ])
  | ((with_reducible refine to_store 86 rfl ?_); refine Wl_store hS (fun _ => by rfl) _ _ _ rfl rfl (info86c _) (pi_one _) ?_; (repeat (first | refine Turn.here rfl ?_ | refine Turn.next ?_)); clear hS; intro wW hS; try simp only [Act.put, List.setIfInBounds_toArray, List.set_cons_zero, List.set_cons_succ]))
                  refine (rpread_any c hc _ _).mono ?_
                  rintro e w2 ⟨rfl, hb⟩
                  replace hS := hS.call hb
                  clear hb
                  have hD := M.pReadP_ok (p := c) (k := bits .and .u8 v 3) hc
                  generalize M.pReadP c (bits .and .u8 v 3) = D at hS hD ⊢
                  generalize M.pReadV c (bits .and .u8 v 3) = rv at hS ⊢
                  have q1 := fun W => neqR D W
                  have hP := fun W => pplain_any D W
                  have HP := Lib.hid hP
                  clear hP
                  go_wp2_with (first
  | ((with_reducible refine to_alloc 80 rfl ?_); refine Wl_alloc hS (fun _ => by rfl) _ zero80r ?_; clear hS; intro bB wW hS; simp only [Act.put, List.setIfInBounds_toArray, List.set_cons_zero, List.set_cons_succ])
  | ((with_reducible refine to_alloc 86 rfl ?_); refine Wl_alloc hS (fun _ => by rfl) _ zero86r ?_; clear hS; intro bB wW hS; simp only [Act.put, List.setIfInBounds_toArray, List.set_cons_zero, List.set_cons_succ])
  | ((with_reducible refine to_load 80 rfl ?_); refine Wl_load hS (fun _ => by rfl) _ _ rfl _ Try.underlying80 rfl ?_; (repeat (first | (refine Row.here ⟨info80c _, ?_⟩) | refine Row.next ?_)); (with_reducible show wpList _ _ _ _ _ _); simp only [Act.put, List.setIfInBounds_toArray, List.set_cons_zero, List.set_cons_succ])
  | ((with_reducible refine to_load 86 rfl ?_); refine Wl_load hS (fun _ => by rfl) _ _ rfl _ Try.underlying86 rfl ?_; (repeat (first | (refine Row.here ⟨info86c _, ?_⟩) | refine Row.next ?_)); (with_reducible show wpList _ _ _ _ _ _); simp only [Act.put, List.setIfInBounds_toArray, List.set_cons_zero, List.set_cons_succ])
  | ((with_reducible refine to_store 80 rfl ?_); refine Wl_store hS (fun _ => by rfl) _ _ _ rfl rfl (info80c _) (pi_one _) ?_; (repeat (first | refine Turn.here rfl ?_ | refine Turn.next ?_)); clear hS; intro wW hS; try simp only [Act.put, List.setIfInBounds_toArray, List.set_cons_zero, List.set_cons_succ])
  | ((with_reducible refine to_store 86 rfl ?_); refine Wl_store hS (fun _ => by rfl) _ _ _ rfl rfl (info86c _) (pi_one _) ?_; (repeat (first | refine Turn.here rfl ?_ | refine Turn.next ?_)); clear hS; intro wW hS; try simp only [Act.put, List.setIfInBounds_toArray, List.set_cons_zero, List.set_cons_succ]))
                  refine wp_region_held_drew (S := fun W => St w.heap.size 0 0 w [⟨b7, 0, true, D.a⟩, ⟨b6, 0, true, D.a⟩] W) (by kernel_rfl) (hS.drew.sub (by repeat (first | exact List.Sublist.slnil | apply List.Sublist.cons_cons | apply List.Sublist.cons))) ?_
                  intro _
                  replace hS := hS.drew
                  generalize World.drew _ = wX at hS ⊢
                  first
                    | refine wpAnyH_take (i := 0) rfl (by kernel_rfl) (by kernel_rfl) (by kernel_rfl) (fun _ _ _ h => h) (yields_row (by rfl) _ _ rfl _ _ rfl _ Try.underlying80 rfl _ (fun W hW => hW.range (.head _)) (info80c _)) (hS.sub (by repeat (first | exact List.Sublist.slnil | apply List.Sublist.cons_cons | apply List.Sublist.cons))) ?_
                    | refine wpAnyH_take (i := 0) rfl (by kernel_rfl) (by kernel_rfl) (by kernel_rfl) (fun _ _ _ h => h) (yields_row (by rfl) _ _ rfl _ _ rfl _ Try.underlying80 rfl _ (fun W hW => hW.range (.tail _ (.head _))) (info80c _)) (hS.sub (by repeat (first | exact List.Sublist.slnil | apply List.Sublist.cons_cons | apply List.Sublist.cons))) ?_
                    | refine wpAnyH_take (i := 0) rfl (by kernel_rfl) (by kernel_rfl) (by kernel_rfl) (fun _ _ _ h => h) (yields_row (by rfl) _ _ rfl _ _ rfl _ Try.underlying80 rfl _ (fun W hW => hW.range (.tail _ (.tail _ (.head _)))) (info80c _)) (hS.sub (by repeat (first | exact List.Sublist.slnil | apply List.Sublist.cons_cons | apply List.Sublist.cons))) ?_
                    | refine wpAnyH_take (i := 0) rfl (by kernel_rfl) (by kernel_rfl) (by kernel_rfl) (fun _ _ _ h => h) (yields_row (by rfl) _ _ rfl _ _ rfl _ Try.underlying80 rfl _ (fun W hW => hW.range (.tail _ (.tail _ (.tail _ (.head _))))) (info80c _)) (hS.sub (by repeat (first | exact List.Sublist.slnil | apply List.Sublist.cons_cons | apply List.Sublist.cons))) ?_
                    | refine wpAnyH_take (i := 0) rfl (by kernel_rfl) (by kernel_rfl) (by kernel_rfl) (fun _ _ _ h => h) (yields_row (by rfl) _ _ rfl _ _ rfl _ Try.underlying80 rfl _ (fun W hW => hW.range (.tail _ (.tail _ (.tail _ (.tail _ (.head _)))))) (info80c _)) (hS.sub (by repeat (first | exact List.Sublist.slnil | apply List.Sublist.cons_cons | apply List.Sublist.cons))) ?_
                    | refine wpAnyH_take (i := 0) rfl (by kernel_rfl) (by kernel_rfl) (by kernel_rfl) (fun _ _ _ h => h) (yields_row (by rfl) _ _ rfl _ _ rfl _ Try.underlying80 rfl _ (fun W hW => hW.range (.tail _ (.tail _ (.tail _ (.tail _ (.tail _ (.head _))))))) (info80c _)) (hS.sub (by repeat (first | exact List.Sublist.slnil | apply List.Sublist.cons_cons | apply List.Sublist.cons))) ?_
                  try simp only [Act.put, List.setIfInBounds_toArray, List.set_cons_zero, List.set_cons_succ, List.getElem_toArray, List.getElem_cons_succ, List.getElem_cons_zero]
                  first
                    | refine wpAnyH_take (i := 2) rfl (by kernel_rfl) (by kernel_rfl) (by kernel_rfl) (fun _ _ _ h => h) (yields_row (by rfl) _ _ rfl _ _ rfl _ Try.underlying86 rfl _ (fun W hW => hW.range (.head _)) (info86c _)) (hS.sub (by repeat (first | exact List.Sublist.slnil | apply List.Sublist.cons_cons | apply List.Sublist.cons))) ?_
                    | refine wpAnyH_take (i := 2) rfl (by kernel_rfl) (by kernel_rfl) (by kernel_rfl) (fun _ _ _ h => h) (yields_row (by rfl) _ _ rfl _ _ rfl _ Try.underlying86 rfl _ (fun W hW => hW.range (.tail _ (.head _))) (info86c _)) (hS.sub (by repeat (first | exact List.Sublist.slnil | apply List.Sublist.cons_cons | apply List.Sublist.cons))) ?_
                    | refine wpAnyH_take (i := 2) rfl (by kernel_rfl) (by kernel_rfl) (by kernel_rfl) (fun _ _ _ h => h) (yields_row (by rfl) _ _ rfl _ _ rfl _ Try.underlying86 rfl _ (fun W hW => hW.range (.tail _ (.tail _ (.head _)))) (info86c _)) (hS.sub (by repeat (first | exact List.Sublist.slnil | apply List.Sublist.cons_cons | apply List.Sublist.cons))) ?_
                    | refine wpAnyH_take (i := 2) rfl (by kernel_rfl) (by kernel_rfl) (by kernel_rfl) (fun _ _ _ h => h) (yields_row (by rfl) _ _ rfl _ _ rfl _ Try.underlying86 rfl _ (fun W hW => hW.range (.tail _ (.tail _ (.tail _ (.head _))))) (info86c _)) (hS.sub (by repeat (first | exact List.Sublist.slnil | apply List.Sublist.cons_cons | apply List.Sublist.cons))) ?_
                    | refine wpAnyH_take (i := 2) rfl (by kernel_rfl) (by kernel_rfl) (by kernel_rfl) (fun _ _ _ h => h) (yields_row (by rfl) _ _ rfl _ _ rfl _ Try.underlying86 rfl _ (fun W hW => hW.range (.tail _ (.tail _ (.tail _ (.tail _ (.head _)))))) (info86c _)) (hS.sub (by repeat (first | exact List.Sublist.slnil | apply List.Sublist.cons_cons | apply List.Sublist.cons))) ?_
                    | refine wpAnyH_take (i := 2) rfl (by kernel_rfl) (by kernel_rfl) (by kernel_rfl) (fun _ _ _ h => h) (yields_row (by rfl) _ _ rfl _ _ rfl _ Try.underlying86 rfl _ (fun W hW => hW.range (.tail _ (.tail _ (.tail _ (.tail _ (.tail _ (.head _))))))) (info86c _)) (hS.sub (by repeat (first | exact List.Sublist.slnil | apply List.Sublist.cons_cons | apply List.Sublist.cons))) ?_
                  try simp only [Act.put, List.setIfInBounds_toArray, List.set_cons_zero, List.set_cons_succ, List.getElem_toArray, List.getElem_cons_succ, List.getElem_cons_zero]
                  refine wpAnyH_ready (rs := [1]) (by kernel_rfl) (by simp) (AllReadyH.cons rfl ?_ AllReadyH.nil)
                  intro K1 hK1
                  rw [if_pos (by rfl)]
                  try simp only [Act.put, List.setIfInBounds_toArray, List.set_cons_zero, List.set_cons_succ, List.getElem_toArray, List.getElem_cons_succ, List.getElem_cons_zero]
                  go_simp
                  refine (HP.out _).mono ?_
                  rintro e1 v2 ⟨rfl, hb⟩
                  replace hS := hS.call hb
                  clear hb
                  refine hK1.out _ _ (hS.sub (by repeat (first | exact List.Sublist.slnil | apply List.Sublist.cons_cons | apply List.Sublist.cons))) (fun _ => ?_)
                  clear hK1
                  try simp only [Act.put, List.setIfInBounds_toArray, List.set_cons_zero, List.set_cons_succ, List.getElem_toArray, List.getElem_cons_succ, List.getElem_cons_zero]
                  refine wpAnyH_take (i := 3) (v := ?_) rfl (by kernel_rfl) (by kernel_rfl) (by kernel_rfl) (fun _ _ _ h => h) (Or.inl ⟨by rfl, ?_⟩) (hS.sub (by repeat (first | exact List.Sublist.slnil | apply List.Sublist.cons_cons | apply List.Sublist.cons))) ?_
                  rotate_left 1
                  · intro W hW
                    clear hW
                    go_simp
                    all_goals with_reducible rfl
                  try simp only [Act.put, List.setIfInBounds_toArray, List.set_cons_zero, List.set_cons_succ, List.getElem_toArray, List.getElem_cons_succ, List.getElem_cons_zero]
                  refine wpAnyH_done (by kernel_rfl) ?_ _
                  go_wp2_with fail
                  go_round
                  case rel => exact ⟨k + 1, D, hD, by simp, by omega, (hS.sub (by repeat (first | exact List.Sublist.slnil | apply List.Sublist.cons_cons | apply List.Sublist.cons)))⟩
                  case measure => simp [intOf]; omega
          · have k2' : ¬ ((k : Int) < (n2 : Int)) := by omega
            by_cases s0 : bits .and .u8 (v / 4) 3 = 0
            · go_wp2_with (first
  | ((with_reducible refine to_alloc 80 rfl ?_); refine Wl_alloc hS (fun _ => by rfl) _ zero80r ?_; clear hS; intro bB wW hS; simp only [Act.put, List.setIfInBounds_toArray, List.set_cons_zero, List.set_cons_succ])
  | ((with_reducible refine to_alloc 86 rfl ?_); refine Wl_alloc hS (fun _ => by rfl) _ zero86r ?_; clear hS; intro bB wW hS; simp only [Act.put, List.setIfInBounds_toArray, List.set_cons_zero, List.set_cons_succ])
  | ((with_reducible refine to_load 80 rfl ?_); refine Wl_load hS (fun _ => by rfl) _ _ rfl _ Try.underlying80 rfl ?_; (repeat (first | (refine Row.here ⟨info80c _, ?_⟩) | refine Row.next ?_)); (with_reducible show wpList _ _ _ _ _ _); simp only [Act.put, List.setIfInBounds_toArray, List.set_cons_zero, List.set_cons_succ])
  | ((with_reducible refine to_load 86 rfl ?_); refine Wl_load hS (fun _ => by rfl) _ _ rfl _ Try.underlying86 rfl ?_; (repeat (first | (refine Row.here ⟨info86c _, ?_⟩) | refine Row.next ?_)); (with_reducible show wpList _ _ _ _ _ _); simp only [Act.put, List.setIfInBounds_toArray, List.set_cons_zero, List.set_cons_succ])
  | ((with_reducible refine to_store 80 rfl ?_); refine Wl_store hS (fun _ => by rfl) _ _ _ rfl rfl (info80c _) (pi_one _) ?_; (repeat (first | refine Turn.here rfl ?_ | refine Turn.next ?_)); clear hS; intro wW hS; try simp only [Act.put, List.setIfInBounds_toArray, List.set_cons_zero, List.set_cons_succ])
  | ((with_reducible refine to_store 86 rfl ?_); refine Wl_store hS (fun _ => by rfl) _ _ _ rfl rfl (info86c _) (pi_one _) ?_; (repeat (first | refine Turn.here rfl ?_ | refine Turn.next ?_)); clear hS; intro wW hS; try simp only [Act.put, List.setIfInBounds_toArray, List.set_cons_zero, List.set_cons_succ]))
              refine (pwrite_any c hc _ _ (by omega) (by omega) _).mono ?_
              rintro e w2 ⟨rfl, hb⟩
              replace hS := hS.call hb
              clear hb
              go_wp2_with (first
  | ((with_reducible refine to_alloc 80 rfl ?_); refine Wl_alloc hS (fun _ => by rfl) _ zero80r ?_; clear hS; intro bB wW hS; simp only [Act.put, List.setIfInBounds_toArray, List.set_cons_zero, List.set_cons_succ])
  | ((with_reducible refine to_alloc 86 rfl ?_); refine Wl_alloc hS (fun _ => by rfl) _ zero86r ?_; clear hS; intro bB wW hS; simp only [Act.put, List.setIfInBounds_toArray, List.set_cons_zero, List.set_cons_succ])
  | ((with_reducible refine to_load 80 rfl ?_); refine Wl_load hS (fun _ => by rfl) _ _ rfl _ Try.underlying80 rfl ?_; (repeat (first | (refine Row.here ⟨info80c _, ?_⟩) | refine Row.next ?_)); (with_reducible show wpList _ _ _ _ _ _); simp only [Act.put, List.setIfInBounds_toArray, List.set_cons_zero, List.set_cons_succ])
  | ((with_reducible refine to_load 86 rfl ?_); refine Wl_load hS (fun _ => by rfl) _ _ rfl _ Try.underlying86 rfl ?_; (repeat (first | (refine Row.here ⟨info86c _, ?_⟩) | refine Row.next ?_)); (with_reducible show wpList _ _ _ _ _ _); simp only [Act.put, List.setIfInBounds_toArray, List.set_cons_zero, List.set_cons_succ])
  | ((with_reducible refine to_store 80 rfl ?_); refine Wl_store hS (fun _ => by rfl) _ _ _ rfl rfl (info80c _) (pi_one _) ?_; (repeat (first | refine Turn.here rfl ?_ | refine Turn.next ?_)); clear hS; intro wW hS; try simp only [Act.put, List.setIfInBounds_toArray, List.set_cons_zero, List.set_cons_succ])
  | ((with_reducible refine to_store 86 rfl ?_); refine Wl_store hS (fun _ => by rfl) _ _ _ rfl rfl (info86c _) (pi_one _) ?_; (repeat (first | refine Turn.here rfl ?_ | refine Turn.next ?_)); clear hS; intro wW hS; try simp only [Act.put, List.setIfInBounds_toArray, List.set_cons_zero, List.set_cons_succ]))
              refine (rpwrite_any c hc _ _ (by omega) (by omega) _).mono ?_
              rintro e w2 ⟨rfl, hb⟩
              replace hS := hS.call hb
              clear hb
              have hD := M.pWrite_ok (p := c) (reg := bits .and .u8 v 3) (b := (k : Int)) hc (by omega) (by omega)
              generalize M.pWrite c (bits .and .u8 v 3) ((k : Int)) = D at hS hD ⊢
              have q1 := fun W => neqR D W
              have hP := fun W => pplain_any D W
              have HP := Lib.hid hP
              clear hP
              go_wp2_with (first
  | ((with_reducible refine to_alloc 80 rfl ?_); refine Wl_alloc hS (fun _ => by rfl) _ zero80r ?_; clear hS; intro bB wW hS; simp only [Act.put, List.setIfInBounds_toArray, List.set_cons_zero, List.set_cons_succ])
  | ((with_reducible refine to_alloc 86 rfl ?_); refine Wl_alloc hS (fun _ => by rfl) _ zero86r ?_; clear hS; intro bB wW hS; simp only [Act.put, List.setIfInBounds_toArray, List.set_cons_zero, List.set_cons_succ])
  | ((with_reducible refine to_load 80 rfl ?_); refine Wl_load hS (fun _ => by rfl) _ _ rfl _ Try.underlying80 rfl ?_; (repeat (first | (refine Row.here ⟨info80c _, ?_⟩) | refine Row.next ?_)); (with_reducible show wpList _ _ _ _ _ _); simp only [Act.put, List.setIfInBounds_toArray, List.set_cons_zero, List.set_cons_succ])
  | ((with_reducible refine to_load 86 rfl ?_); refine Wl_load hS (fun _ => by rfl) _ _ rfl _ Try.underlying86 rfl ?_; (repeat (first | (refine Row.here ⟨info86c _, ?_⟩) | refine Row.next ?_)); (with_reducible show wpList _ _ _ _ _ _); simp only [Act.put, List.setIfInBounds_toArray, List.set_cons_zero, List.set_cons_succ])
  | ((with_reducible refine to_store 80 rfl ?_); refine Wl_store hS (fun _ => by rfl) _ _ _ rfl rfl (info80c _) (pi_one _) ?_; (repeat (first | refine Turn.here rfl ?_ | refine Turn.next ?_)); clear hS; intro wW hS; try simp only [Act.put, List.setIfInBounds_toArray, List.set_cons_zero, List.set_cons_succ])
  | ((with_reducible refine to_store 86 rfl ?_); refine Wl_store hS (fun _ => by rfl) _ _ _ rfl rfl (info86c _) (pi_one _) ?_; (repeat (first | refine Turn.here rfl ?_ | refine Turn.next ?_)); clear hS; intro wW hS; try simp only [Act.put, List.setIfInBounds_toArray, List.set_cons_zero, List.set_cons_succ]))
              refine wp_region_held_drew (S := fun W => St w.heap.size 0 0 w [⟨b7, 0, true, D.a⟩, ⟨b6, 0, true, D.a⟩] W) (by kernel_rfl) (hS.drew.sub (by repeat (first | exact List.Sublist.slnil | apply List.Sublist.cons_cons | apply List.Sublist.cons))) ?_
              intro _
              replace hS := hS.drew
              generalize World.drew _ = wX at hS ⊢
              first
                | refine wpAnyH_take (i := 0) rfl (by kernel_rfl) (by kernel_rfl) (by kernel_rfl) (fun _ _ _ h => h) (yields_row (by rfl) _ _ rfl _ _ rfl _ Try.underlying80 rfl _ (fun W hW => hW.range (.head _)) (info80c _)) (hS.sub (by repeat (first | exact List.Sublist.slnil | apply List.Sublist.cons_cons | apply List.Sublist.cons))) ?_
                | refine wpAnyH_take (i := 0) rfl (by kernel_rfl) (by kernel_rfl) (by kernel_rfl) (fun _ _ _ h => h) (yields_row (by rfl) _ _ rfl _ _ rfl _ Try.underlying80 rfl _ (fun W hW => hW.range (.tail _ (.head _))) (info80c _)) (hS.sub (by repeat (first | exact List.Sublist.slnil | apply List.Sublist.cons_cons | apply List.Sublist.cons))) ?_
                | refine wpAnyH_take (i := 0) rfl (by kernel_rfl) (by kernel_rfl) (by kernel_rfl) (fun _ _ _ h => h) (yields_row (by rfl) _ _ rfl _ _ rfl _ Try.underlying80 rfl _ (fun W hW => hW.range (.tail _ (.tail _ (.head _)))) (info80c _)) (hS.sub (by repeat (first | exact List.Sublist.slnil | apply List.Sublist.cons_cons | apply List.Sublist.cons))) ?_
                | refine wpAnyH_take (i := 0) rfl (by kernel_rfl) (by kernel_rfl) (by kernel_rfl) (fun _ _ _ h => h) (yields_row (by rfl) _ _ rfl _ _ rfl _ Try.underlying80 rfl _ (fun W hW => hW.range (.tail _ (.tail _ (.tail _ (.head _))))) (info80c _)) (hS.sub (by repeat (first | exact List.Sublist.slnil | apply List.Sublist.cons_cons | apply List.Sublist.cons))) ?_
                | refine wpAnyH_take (i := 0) rfl (by kernel_rfl) (by kernel_rfl) (by kernel_rfl) (fun _ _ _ h => h) (yields_row (by rfl) _ _ rfl _ _ rfl _ Try.underlying80 rfl _ (fun W hW => hW.range (.tail _ (.tail _ (.tail _ (.tail _ (.head _)))))) (info80c _)) (hS.sub (by repeat (first | exact List.Sublist.slnil | apply List.Sublist.cons_cons | apply List.Sublist.cons))) ?_
                | refine wpAnyH_take (i := 0) rfl (by kernel_rfl) (by kernel_rfl) (by kernel_rfl) (fun _ _ _ h => h) (yields_row (by rfl) _ _ rfl _ _ rfl _ Try.underlying80 rfl _ (fun W hW => hW.range (.tail _ (.tail _ (.tail _ (.tail _ (.tail _ (.head _))))))) (info80c _)) (hS.sub (by repeat (first | exact List.Sublist.slnil | apply List.Sublist.cons_cons | apply List.Sublist.cons))) ?_
              try simp only [Act.put, List.setIfInBounds_toArray, List.set_cons_zero, List.set_cons_succ, List.getElem_toArray, List.getElem_cons_succ, List.getElem_cons_zero]
              first
                | refine wpAnyH_take (i := 2) rfl (by kernel_rfl) (by kernel_rfl) (by kernel_rfl) (fun _ _ _ h => h) (yields_row (by rfl) _ _ rfl _ _ rfl _ Try.underlying86 rfl _ (fun W hW => hW.range (.head _)) (info86c _)) (hS.sub (by repeat (first | exact List.Sublist.slnil | apply List.Sublist.cons_cons | apply List.Sublist.cons))) ?_
                | refine wpAnyH_take (i := 2) rfl (by kernel_rfl) (by kernel_rfl) (by kernel_rfl) (fun _ _ _ h => h) (yields_row (by rfl) _ _ rfl _ _ rfl _ Try.underlying86 rfl _ (fun W hW => hW.range (.tail _ (.head _))) (info86c _)) (hS.sub (by repeat (first | exact List.Sublist.slnil | apply List.Sublist.cons_cons | apply List.Sublist.cons))) ?_
                | refine wpAnyH_take (i := 2) rfl (by kernel_rfl) (by kernel_rfl) (by kernel_rfl) (fun _ _ _ h => h) (yields_row (by rfl) _ _ rfl _ _ rfl _ Try.underlying86 rfl _ (fun W hW => hW.range (.tail _ (.tail _ (.head _)))) (info86c _)) (hS.sub (by repeat (first | exact List.Sublist.slnil | apply List.Sublist.cons_cons | apply List.Sublist.cons))) ?_
                | refine wpAnyH_take (i := 2) rfl (by kernel_rfl) (by kernel_rfl) (by kernel_rfl) (fun _ _ _ h => h) (yields_row (by rfl) _ _ rfl _ _ rfl _ Try.underlying86 rfl _ (fun W hW => hW.range (.tail _ (.tail _ (.tail _ (.head _))))) (info86c _)) (hS.sub (by repeat (first | exact List.Sublist.slnil | apply List.Sublist.cons_cons | apply List.Sublist.cons))) ?_
                | refine wpAnyH_take (i := 2) rfl (by kernel_rfl) (by kernel_rfl) (by kernel_rfl) (fun _ _ _ h => h) (yields_row (by rfl) _ _ rfl _ _ rfl _ Try.underlying86 rfl _ (fun W hW => hW.range (.tail _ (.tail _ (.tail _ (.tail _ (.head _)))))) (info86c _)) (hS.sub (by repeat (first | exact List.Sublist.slnil | apply List.Sublist.cons_cons | apply List.Sublist.cons))) ?_
                | refine wpAnyH_take (i := 2) rfl (by kernel_rfl) (by kernel_rfl) (by kernel_rfl) (fun _ _ _ h => h) (yields_row (by rfl) _ _ rfl _ _ rfl _ Try.underlying86 rfl _ (fun W hW => hW.range (.tail _ (.tail _ (.tail _ (.tail _ (.tail _ (.head _))))))) (info86c _)) (hS.sub (by repeat (first | exact List.Sublist.slnil | apply List.Sublist.cons_cons | apply List.Sublist.cons))) ?_
              try simp only [Act.put, List.setIfInBounds_toArray, List.set_cons_zero, List.set_cons_succ, List.getElem_toArray, List.getElem_cons_succ, List.getElem_cons_zero]
              refine wpAnyH_ready (rs := [1]) (by kernel_rfl) (by simp) (AllReadyH.cons rfl ?_ AllReadyH.nil)
              intro K1 hK1
              rw [if_pos (by rfl)]
              try simp only [Act.put, List.setIfInBounds_toArray, List.set_cons_zero, List.set_cons_succ, List.getElem_toArray, List.getElem_cons_succ, List.getElem_cons_zero]
              go_simp
              refine (HP.out _).mono ?_
              rintro e1 v2 ⟨rfl, hb⟩
              replace hS := hS.call hb
              clear hb
              refine hK1.out _ _ (hS.sub (by repeat (first | exact List.Sublist.slnil | apply List.Sublist.cons_cons | apply List.Sublist.cons))) (fun _ => ?_)
              clear hK1
              try simp only [Act.put, List.setIfInBounds_toArray, List.set_cons_zero, List.set_cons_succ, List.getElem_toArray, List.getElem_cons_succ, List.getElem_cons_zero]
              refine wpAnyH_take (i := 3) (v := ?_) rfl (by kernel_rfl) (by kernel_rfl) (by kernel_rfl) (fun _ _ _ h => h) (Or.inl ⟨by rfl, ?_⟩) (hS.sub (by repeat (first | exact List.Sublist.slnil | apply List.Sublist.cons_cons | apply List.Sublist.cons))) ?_
              rotate_left 1
              · intro W hW
                clear hW
                go_simp
                all_goals with_reducible rfl
              try simp only [Act.put, List.setIfInBounds_toArray, List.set_cons_zero, List.set_cons_succ, List.getElem_toArray, List.getElem_cons_succ, List.getElem_cons_zero]
              refine wpAnyH_done (by kernel_rfl) ?_ _
              go_wp2_with fail
              go_round
              case rel => exact ⟨k + 1, D, hD, by simp, by omega, (hS.sub (by repeat (first | exact List.Sublist.slnil | apply List.Sublist.cons_cons | apply List.Sublist.cons)))⟩
              case measure => simp [intOf]; omega
            · have t0 : (bits .and .u8 (v / 4) 3 == 0) = false := by simpa using s0
              by_cases s1 : bits .and .u8 (v / 4) 3 = 1
              · go_wp2_with (first
  | ((with_reducible refine to_alloc 80 rfl ?_); refine Wl_alloc hS (fun _ => by rfl) _ zero80r ?_; clear hS; intro bB wW hS; simp only [Act.put, List.setIfInBounds_toArray, List.set_cons_zero, List.set_cons_succ])
  | ((with_reducible refine to_alloc 86 rfl ?_); refine Wl_alloc hS (fun _ => by rfl) _ zero86r ?_; clear hS; intro bB wW hS; simp only [Act.put, List.setIfInBounds_toArray, List.set_cons_zero, List.set_cons_succ])
  | ((with_reducible refine to_load 80 rfl ?_); refine Wl_load hS (fun _ => by rfl) _ _ rfl _ Try.underlying80 rfl ?_; (repeat (first | (refine Row.here ⟨info80c _, ?_⟩) | refine Row.next ?_)); (with_reducible show wpList _ _ _ _ _ _); simp only [Act.put, List.setIfInBounds_toArray, List.set_cons_zero, List.set_cons_succ])
  | ((with_reducible refine to_load 86 rfl ?_); refine Wl_load hS (fun _ => by rfl) _ _ rfl _ Try.underlying86 rfl ?_; (repeat (first | (refine Row.here ⟨info86c _, ?_⟩) | refine Row.next ?_)); (with_reducible show wpList _ _ _ _ _ _); simp only [Act.put, List.setIfInBounds_toArray, List.set_cons_zero, List.set_cons_succ])
  | ((with_reducible refine to_store 80 rfl ?_); refine Wl_store hS (fun _ => by rfl) _ _ _ rfl rfl (info80c _) (pi_one _) ?_; (repeat (first | refine Turn.here rfl ?_ | refine Turn.next ?_)); clear hS; intro wW hS; try simp only [Act.put, List.setIfInBounds_toArray, List.set_cons_zero, List.set_cons_succ])
  | ((with_reducible refine to_store 86 rfl ?_); refine Wl_store hS (fun _ => by rfl) _ _ _ rfl rfl (info86c _) (pi_one _) ?_; (repeat (first | refine Turn.here rfl ?_ | refine Turn.next ?_)); clear hS; intro wW hS; try simp only [Act.put, List.setIfInBounds_toArray, List.set_cons_zero, List.set_cons_succ]))
                refine (pwrite_any c hc _ _ (by omega) (by omega) _).mono ?_
                rintro e w2 ⟨rfl, hb⟩
                replace hS := hS.call hb
                clear hb
                go_wp2_with (first
  | ((with_reducible refine to_alloc 80 rfl ?_); refine Wl_alloc hS (fun _ => by rfl) _ zero80r ?_; clear hS; intro bB wW hS; simp only [Act.put, List.setIfInBounds_toArray, List.set_cons_zero, List.set_cons_succ])
  | ((with_reducible refine to_alloc 86 rfl ?_); refine Wl_alloc hS (fun _ => by rfl) _ zero86r ?_; clear hS; intro bB wW hS; simp only [Act.put, List.setIfInBounds_toArray, List.set_cons_zero, List.set_cons_succ])
  | ((with_reducible refine to_load 80 rfl ?_); refine Wl_load hS (fun _ => by rfl) _ _ rfl _ Try.underlying80 rfl ?_; (repeat (first | (refine Row.here ⟨info80c _, ?_⟩) | refine Row.next ?_)); (with_reducible show wpList _ _ _ _ _ _); simp only [Act.put, List.setIfInBounds_toArray, List.set_cons_zero, List.set_cons_succ])
  | ((with_reducible refine to_load 86 rfl ?_); refine Wl_load hS (fun _ => by rfl) _ _ rfl _ Try.underlying86 rfl ?_; (repeat (first | (refine Row.here ⟨info86c _, ?_⟩) | refine Row.next ?_)); (with_reducible show wpList _ _ _ _ _ _); simp only [Act.put, List.setIfInBounds_toArray, List.set_cons_zero, List.set_cons_succ])
  | ((with_reducible refine to_store 80 rfl ?_); refine Wl_store hS (fun _ => by rfl) _ _ _ rfl rfl (info80c _) (pi_one _) ?_; (repeat (first | refine Turn.here rfl ?_ | refine Turn.next ?_)); clear hS; intro wW hS; try simp only [Act.put, List.setIfInBounds_toArray, List.set_cons_zero, List.set_cons_succ])
  | ((with_reducible refine to_store 86 rfl ?_); refine Wl_store hS (fun _ => by rfl) _ _ _ rfl rfl (info86c _) (pi_one _) ?_; (repeat (first | refine Turn.here rfl ?_ | refine Turn.next ?_)); clear hS; intro wW hS; try simp only [Act.put, List.setIfInBounds_toArray, List.set_cons_zero, List.set_cons_succ]))
                refine (rpwrite_any c hc _ _ (by omega) (by omega) _).mono ?_
                rintro e w2 ⟨rfl, hb⟩
                replace hS := hS.call hb
                clear hb
                have hD := M.pWrite_ok (p := c) (reg := bits .and .u8 v 3) (b := (k : Int)) hc (by omega) (by omega)
                generalize M.pWrite c (bits .and .u8 v 3) ((k : Int)) = D at hS hD ⊢
                have q1 := fun W => neqR D W
                have hP := fun W => pplain_any D W
                have HP := Lib.hid hP
                clear hP
                go_wp2_with (first
  | ((with_reducible refine to_alloc 80 rfl ?_); refine Wl_alloc hS (fun _ => by rfl) _ zero80r ?_; clear hS; intro bB wW hS; simp only [Act.put, List.setIfInBounds_toArray, List.set_cons_zero, List.set_cons_succ])
  | ((with_reducible refine to_alloc 86 rfl ?_); refine Wl_alloc hS (fun _ => by rfl) _ zero86r ?_; clear hS; intro bB wW hS; simp only [Act.put, List.setIfInBounds_toArray, List.set_cons_zero, List.set_cons_succ])
  | ((with_reducible refine to_load 80 rfl ?_); refine Wl_load hS (fun _ => by rfl) _ _ rfl _ Try.underlying80 rfl ?_; (repeat (first | (refine Row.here ⟨info80c _, ?_⟩) | refine Row.next ?_)); (with_reducible show wpList _ _ _ _ _ _); simp only [Act.put, List.setIfInBounds_toArray, List.set_cons_zero, List.set_cons_succ])
  | ((with_reducible refine to_load 86 rfl ?_); refine Wl_load hS (fun _ => by rfl) _ _ rfl _ Try.underlying86 rfl ?_; (repeat (first | (refine Row.here ⟨info86c _, ?_⟩) | refine Row.next ?_)); (with_reducible show wpList _ _ _ _ _ _); simp only [Act.put, List.setIfInBounds_toArray, List.set_cons_zero, List.set_cons_succ])
  | ((with_reducible refine to_store 80 rfl ?_); refine Wl_store hS (fun _ => by rfl) _ _ _ rfl rfl (info80c _) (pi_one _) ?_; (repeat (first | refine Turn.here rfl ?_ | refine Turn.next ?_)); clear hS; intro wW hS; try simp only [Act.put, List.setIfInBounds_toArray, List.set_cons_zero, List.set_cons_succ])
  | ((with_reducible refine to_store 86 rfl ?_); refine Wl_store hS (fun _ => by rfl) _ _ _ rfl rfl (info86c _) (pi_one _) ?_; (repeat (first | refine Turn.here rfl ?_ | refine Turn.next ?_)); clear hS; intro wW hS; try simp only [Act.put, List.setIfInBounds_toArray, List.set_cons_zero, List.set_cons_succ]))
                refine wp_region_held_drew (S := fun W => St w.heap.size 0 0 w [⟨b7, 0, true, D.a⟩, ⟨b6, 0, true, D.a⟩] W) (by kernel_rfl) (hS.drew.sub (by repeat (first | exact List.Sublist.slnil | apply List.Sublist.cons_cons | apply List.Sublist.cons))) ?_
                intro _
                replace hS := hS.drew
                generalize World.drew _ = wX at hS ⊢
                first
                  | refine wpAnyH_take (i := 0) rfl (by kernel_rfl) (by kernel_rfl) (by kernel_rfl) (fun _ _ _ h => h) (yields_row (by rfl) _ _ rfl _ _ rfl _ Try.underlying80 rfl _ (fun W hW => hW.range (.head _)) (info80c _)) (hS.sub (by repeat (first | exact List.Sublist.slnil | apply List.Sublist.cons_cons | apply List.Sublist.cons))) ?_
                  | refine wpAnyH_take (i := 0) rfl (by kernel_rfl) (by kernel_rfl) (by kernel_rfl) (fun _ _ _ h => h) (yields_row (by rfl) _ _ rfl _ _ rfl _ Try.underlying80 rfl _ (fun W hW => hW.range (.tail _ (.head _))) (info80c _)) (hS.sub (by repeat (first | exact List.Sublist.slnil | apply List.Sublist.cons_cons | apply List.Sublist.cons))) ?_
                  | refine wpAnyH_take (i := 0) rfl (by kernel_rfl) (by kernel_rfl) (by kernel_rfl) (fun _ _ _ h => h) (yields_row (by rfl) _ _ rfl _ _ rfl _ Try.underlying80 rfl _ (fun W hW => hW.range (.tail _ (.tail _ (.head _)))) (info80c _)) (hS.sub (by repeat (first | exact List.Sublist.slnil | apply List.Sublist.cons_cons | apply List.Sublist.cons))) ?_
                  | refine wpAnyH_take (i := 0) rfl (by kernel_rfl) (by kernel_rfl) (by kernel_rfl) (fun _ _ _ h => h) (yields_row (by rfl) _ _ rfl _ _ rfl _ Try.underlying80 rfl _ (fun W hW => hW.range (.tail _ (.tail _ (.tail _ (.head _))))) (info80c _)) (hS.sub (by repeat (first | exact List.Sublist.slnil | apply List.Sublist.cons_cons | apply List.Sublist.cons))) ?_
                  | refine wpAnyH_take (i := 0) rfl (by kernel_rfl) (by kernel_rfl) (by kernel_rfl) (fun _ _ _ h => h) (yields_row (by rfl) _ _ rfl _ _ rfl _ Try.underlying80 rfl _ (fun W hW => hW.range (.tail _ (.tail _ (.tail _ (.tail _ (.head _)))))) (info80c _)) (hS.sub (by repeat (first | exact List.Sublist.slnil | apply List.Sublist.cons_cons | apply List.Sublist.cons))) ?_
                  | refine wpAnyH_take (i := 0) rfl (by kernel_rfl) (by kernel_rfl) (by kernel_rfl) (fun _ _ _ h => h) (yields_row (by rfl) _ _ rfl _ _ rfl _ Try.underlying80 rfl _ (fun W hW => hW.range (.tail _ (.tail _ (.tail _ (.tail _ (.tail _ (.head _))))))) (info80c _)) (hS.sub (by repeat (first | exact List.Sublist.slnil | apply List.Sublist.cons_cons | apply List.Sublist.cons))) ?_
                try simp only [Act.put, List.setIfInBounds_toArray, List.set_cons_zero, List.set_cons_succ, List.getElem_toArray, List.getElem_cons_succ, List.getElem_cons_zero]
                first
                  | refine wpAnyH_take (i := 2) rfl (by kernel_rfl) (by kernel_rfl) (by kernel_rfl) (fun _ _ _ h => h) (yields_row (by rfl) _ _ rfl _ _ rfl _ Try.underlying86 rfl _ (fun W hW => hW.range (.head _)) (info86c _)) (hS.sub (by repeat (first | exact List.Sublist.slnil | apply List.Sublist.cons_cons | apply List.Sublist.cons))) ?_
                  | refine wpAnyH_take (i := 2) rfl (by kernel_rfl) (by kernel_rfl) (by kernel_rfl) (fun _ _ _ h => h) (yields_row (by rfl) _ _ rfl _ _ rfl _ Try.underlying86 rfl _ (fun W hW => hW.range (.tail _ (.head _))) (info86c _)) (hS.sub (by repeat (first | exact List.Sublist.slnil | apply List.Sublist.cons_cons | apply List.Sublist.cons))) ?_
                  | refine wpAnyH_take (i := 2) rfl (by kernel_rfl) (by kernel_rfl) (by kernel_rfl) (fun _ _ _ h => h) (yields_row (by rfl) _ _ rfl _ _ rfl _ Try.underlying86 rfl _ (fun W hW => hW.range (.tail _ (.tail _ (.head _)))) (info86c _)) (hS.sub (by repeat (first | exact List.Sublist.slnil | apply List.Sublist.cons_cons | apply List.Sublist.cons))) ?_
                  | refine wpAnyH_take (i := 2) rfl (by kernel_rfl) (by kernel_rfl) (by kernel_rfl) (fun _ _ _ h => h) (yields_row (by rfl) _ _ rfl _ _ rfl _ Try.underlying86 rfl _ (fun W hW => hW.range (.tail _ (.tail _ (.tail _ (.head _))))) (info86c _)) (hS.sub (by repeat (first | exact List.Sublist.slnil | apply List.Sublist.cons_cons | apply List.Sublist.cons))) ?_
                  | refine wpAnyH_take (i := 2) rfl (by kernel_rfl) (by kernel_rfl) (by kernel_rfl) (fun _ _ _ h => h) (yields_row (by rfl) _ _ rfl _ _ rfl _ Try.underlying86 rfl _ (fun W hW => hW.range (.tail _ (.tail _ (.tail _ (.tail _ (.head _)))))) (info86c _)) (hS.sub (by repeat (first | exact List.Sublist.slnil | apply List.Sublist.cons_cons | apply List.Sublist.cons))) ?_
                  | refine wpAnyH_take (i := 2) rfl (by kernel_rfl) (by kernel_rfl) (by kernel_rfl) (fun _ _ _ h => h) (yields_row (by rfl) _ _ rfl _ _ rfl _ Try.underlying86 rfl _ (fun W hW => hW.range (.tail _ (.tail _ (.tail _ (.tail _ (.tail _ (.head _))))))) (info86c _)) (hS.sub (by repeat (first | exact List.Sublist.slnil | apply List.Sublist.cons_cons | apply List.Sublist.cons))) ?_
                try simp only [Act.put, List.setIfInBounds_toArray, List.set_cons_zero, List.set_cons_succ, List.getElem_toArray, List.getElem_cons_succ, List.getElem_cons_zero]
                refine wpAnyH_ready (rs := [1]) (by kernel_rfl) (by simp) (AllReadyH.cons rfl ?_ AllReadyH.nil)
                intro K1 hK1
                rw [if_pos (by rfl)]
                try simp only [Act.put, List.setIfInBounds_toArray, List.set_cons_zero, List.set_cons_succ, List.getElem_toArray, List.getElem_cons_succ, List.getElem_cons_zero]
                go_simp
                refine (HP.out _).mono ?_
                rintro e1 v2 ⟨rfl, hb⟩
                replace hS := hS.call hb
                clear hb
                refine hK1.out _ _ (hS.sub (by repeat (first | exact List.Sublist.slnil | apply List.Sublist.cons_cons | apply List.Sublist.cons))) (fun _ => ?_)
                clear hK1
                try simp only [Act.put, List.setIfInBounds_toArray, List.set_cons_zero, List.set_cons_succ, List.getElem_toArray, List.getElem_cons_succ, List.getElem_cons_zero]
                refine wpAnyH_take (i := 3) (v := ?_) rfl (by kernel_rfl) (by kernel_rfl) (by kernel_rfl) (fun _ _ _ h => h) (Or.inl ⟨by rfl, ?_⟩) (hS.sub (by repeat (first | exact List.Sublist.slnil | apply List.Sublist.cons_cons | apply List.Sublist.cons))) ?_
                rotate_left 1
                · intro W hW
                  clear hW
                  go_simp
                  all_goals with_reducible rfl
                try simp only [Act.put, List.setIfInBounds_toArray, List.set_cons_zero, List.set_cons_succ, List.getElem_toArray, List.getElem_cons_succ, List.getElem_cons_zero]
                refine wpAnyH_done (by kernel_rfl) ?_ _
                go_wp2_with fail
                go_round
                case rel => exact ⟨k + 1, D, hD, by simp, by omega, (hS.sub (by repeat (first | exact List.Sublist.slnil | apply List.Sublist.cons_cons | apply List.Sublist.cons)))⟩
                case measure => simp [intOf]; omega
              · have t1 : (bits .and .u8 (v / 4) 3 == 1) = false := by simpa using s1
                by_cases s2 : bits .and .u8 (v / 4) 3 = 2
                · go_wp2_with (first
  | ((with_reducible refine to_alloc 80 rfl ?_); refine Wl_alloc hS (fun _ => by rfl) _ zero80r ?_; clear hS; intro bB wW hS; simp only [Act.put, List.setIfInBounds_toArray, List.set_cons_zero, List.set_cons_succ])
  | ((with_reducible refine to_alloc 86 rfl ?_); refine Wl_alloc hS (fun _ => by rfl) _ zero86r ?_; clear hS; intro bB wW hS; simp only [Act.put, List.setIfInBounds_toArray, List.set_cons_zero, List.set_cons_succ])
  | ((with_reducible refine to_load 80 rfl ?_); refine Wl_load hS (fun _ => by rfl) _ _ rfl _ Try.underlying80 rfl ?_; (repeat (first | (refine Row.here ⟨info80c _, ?_⟩) | refine Row.next ?_)); (with_reducible show wpList _ _ _ _ _ _); simp only [Act.put, List.setIfInBounds_toArray, List.set_cons_zero, List.set_cons_succ])
  | ((with_reducible refine to_load 86 rfl ?_); refine Wl_load hS (fun _ => by rfl) _ _ rfl _ Try.underlying86 rfl ?_; (repeat (first | (refine Row.here ⟨info86c _, ?_⟩) | refine Row.next ?_)); (with_reducible show wpList _ _ _ _ _ _); simp only [Act.put, List.setIfInBounds_toArray, List.set_cons_zero, List.set_cons_succ])
  | ((with_reducible refine to_store 80 rfl ?_); refine Wl_store hS (fun _ => by rfl) _ _ _ rfl rfl (info80c _) (pi_one _) ?_; (repeat (first | refine Turn.here rfl ?_ | refine Turn.next ?_)); clear hS; intro wW hS; try simp only [Act.put, List.setIfInBounds_toArray, List.set_cons_zero, List.set_cons_succ])
  | ((with_reducible refine to_store 86 rfl ?_); refine Wl_store hS (fun _ => by rfl) _ _ _ rfl rfl (info86c _) (pi_one _) ?_; (repeat (first | refine Turn.here rfl ?_ | refine Turn.next ?_)); clear hS; intro wW hS; try simp only [Act.put, List.setIfInBounds_toArray, List.set_cons_zero, List.set_cons_succ]))
                  refine (plines_any c hc _ _ (by omega) (by omega) _).mono ?_
                  rintro e w2 ⟨rfl, hb⟩
                  replace hS := hS.call hb
                  clear hb
                  have hd := M.pLines_ok (p := c) (k := bits .and .u8 v 3) (b := (k : Int)) hc (by omega) (by omega)
                  go_wp2_with (first
  | ((with_reducible refine to_alloc 80 rfl ?_); refine Wl_alloc hS (fun _ => by rfl) _ zero80r ?_; clear hS; intro bB wW hS; simp only [Act.put, List.setIfInBounds_toArray, List.set_cons_zero, List.set_cons_succ])
  | ((with_reducible refine to_alloc 86 rfl ?_); refine Wl_alloc hS (fun _ => by rfl) _ zero86r ?_; clear hS; intro bB wW hS; simp only [Act.put, List.setIfInBounds_toArray, List.set_cons_zero, List.set_cons_succ])
  | ((with_reducible refine to_load 80 rfl ?_); refine Wl_load hS (fun _ => by rfl) _ _ rfl _ Try.underlying80 rfl ?_; (repeat (first | (refine Row.here ⟨info80c _, ?_⟩) | refine Row.next ?_)); (with_reducible show wpList _ _ _ _ _ _); simp only [Act.put, List.setIfInBounds_toArray, List.set_cons_zero, List.set_cons_succ])
  | ((with_reducible refine to_load 86 rfl ?_); refine Wl_load hS (fun _ => by rfl) _ _ rfl _ Try.underlying86 rfl ?_; (repeat (first | (refine Row.here ⟨info86c _, ?_⟩) | refine Row.next ?_)); (with_reducible show wpList _ _ _ _ _ _); simp only [Act.put, List.setIfInBounds_toArray, List.set_cons_zero, List.set_cons_succ])
  | ((with_reducible refine to_store 80 rfl ?_); refine Wl_store hS (fun _ => by rfl) _ _ _ rfl rfl (info80c _) (pi_one _) ?_; (repeat (first | refine Turn.here rfl ?_ | refine Turn.next ?_)); clear hS; intro wW hS; try simp only [Act.put, List.setIfInBounds_toArray, List.set_cons_zero, List.set_cons_succ])
  | ((with_reducible refine to_store 86 rfl ?_); refine Wl_store hS (fun _ => by rfl) _ _ _ rfl rfl (info86c _) (pi_one _) ?_; (repeat (first | refine Turn.here rfl ?_ | refine Turn.next ?_)); clear hS; intro wW hS; try simp only [Act.put, List.setIfInBounds_toArray, List.set_cons_zero, List.set_cons_succ]))
                  refine (pstrobe_any _ hd _ _ (by omega) (by omega) _).mono ?_
                  rintro e w2 ⟨rfl, hb⟩
                  replace hS := hS.call hb
                  clear hb
                  go_wp2_with (first
  | ((with_reducible refine to_alloc 80 rfl ?_); refine Wl_alloc hS (fun _ => by rfl) _ zero80r ?_; clear hS; intro bB wW hS; simp only [Act.put, List.setIfInBounds_toArray, List.set_cons_zero, List.set_cons_succ])
  | ((with_reducible refine to_alloc 86 rfl ?_); refine Wl_alloc hS (fun _ => by rfl) _ zero86r ?_; clear hS; intro bB wW hS; simp only [Act.put, List.setIfInBounds_toArray, List.set_cons_zero, List.set_cons_succ])
  | ((with_reducible refine to_load 80 rfl ?_); refine Wl_load hS (fun _ => by rfl) _ _ rfl _ Try.underlying80 rfl ?_; (repeat (first | (refine Row.here ⟨info80c _, ?_⟩) | refine Row.next ?_)); (with_reducible show wpList _ _ _ _ _ _); simp only [Act.put, List.setIfInBounds_toArray, List.set_cons_zero, List.set_cons_succ])
  | ((with_reducible refine to_load 86 rfl ?_); refine Wl_load hS (fun _ => by rfl) _ _ rfl _ Try.underlying86 rfl ?_; (repeat (first | (refine Row.here ⟨info86c _, ?_⟩) | refine Row.next ?_)); (with_reducible show wpList _ _ _ _ _ _); simp only [Act.put, List.setIfInBounds_toArray, List.set_cons_zero, List.set_cons_succ])
  | ((with_reducible refine to_store 80 rfl ?_); refine Wl_store hS (fun _ => by rfl) _ _ _ rfl rfl (info80c _) (pi_one _) ?_; (repeat (first | refine Turn.here rfl ?_ | refine Turn.next ?_)); clear hS; intro wW hS; try simp only [Act.put, List.setIfInBounds_toArray, List.set_cons_zero, List.set_cons_succ])
  | ((with_reducible refine to_store 86 rfl ?_); refine Wl_store hS (fun _ => by rfl) _ _ _ rfl rfl (info86c _) (pi_one _) ?_; (repeat (first | refine Turn.here rfl ?_ | refine Turn.next ?_)); clear hS; intro wW hS; try simp only [Act.put, List.setIfInBounds_toArray, List.set_cons_zero, List.set_cons_succ]))
                  refine (rplines_any c hc _ _ (by omega) (by omega) _).mono ?_
                  rintro e w2 ⟨rfl, hb⟩
                  replace hS := hS.call hb
                  clear hb
                  go_wp2_with (first
  | ((with_reducible refine to_alloc 80 rfl ?_); refine Wl_alloc hS (fun _ => by rfl) _ zero80r ?_; clear hS; intro bB wW hS; simp only [Act.put, List.setIfInBounds_toArray, List.set_cons_zero, List.set_cons_succ])
  | ((with_reducible refine to_alloc 86 rfl ?_); refine Wl_alloc hS (fun _ => by rfl) _ zero86r ?_; clear hS; intro bB wW hS; simp only [Act.put, List.setIfInBounds_toArray, List.set_cons_zero, List.set_cons_succ])
  | ((with_reducible refine to_load 80 rfl ?_); refine Wl_load hS (fun _ => by rfl) _ _ rfl _ Try.underlying80 rfl ?_; (repeat (first | (refine Row.here ⟨info80c _, ?_⟩) | refine Row.next ?_)); (with_reducible show wpList _ _ _ _ _ _); simp only [Act.put, List.setIfInBounds_toArray, List.set_cons_zero, List.set_cons_succ])
  | ((with_reducible refine to_load 86 rfl ?_); refine Wl_load hS (fun _ => by rfl) _ _ rfl _ Try.underlying86 rfl ?_; (repeat (first | (refine Row.here ⟨info86c _, ?_⟩) | refine Row.next ?_)); (with_reducible show wpList _ _ _ _ _ _); simp only [Act.put, List.setIfInBounds_toArray, List.set_cons_zero, List.set_cons_succ])
  | ((with_reducible refine to_store 80 rfl ?_); refine Wl_store hS (fun _ => by rfl) _ _ _ rfl rfl (info80c _) (pi_one _) ?_; (repeat (first | refine Turn.here rfl ?_ | refine Turn.next ?_)); clear hS; intro wW hS; try simp only [Act.put, List.setIfInBounds_toArray, List.set_cons_zero, List.set_cons_succ])
  | ((with_reducible refine to_store 86 rfl ?_); refine Wl_store hS (fun _ => by rfl) _ _ _ rfl rfl (info86c _) (pi_one _) ?_; (repeat (first | refine Turn.here rfl ?_ | refine Turn.next ?_)); clear hS; intro wW hS; try simp only [Act.put, List.setIfInBounds_toArray, List.set_cons_zero, List.set_cons_succ]))
                  refine (rpstrobe_any _ hd _ _ (by omega) (by omega) _).mono ?_
                  rintro e w2 ⟨rfl, hb⟩
                  replace hS := hS.call hb
                  clear hb
                  have hD := M.pStrobe_ok (p := M.pLines c (bits .and .u8 v 3) ((k : Int))) (k := bits .and .u8 v 3) (b := (k : Int)) hd (by omega) (by omega)
                  generalize M.pStrobe (M.pLines c (bits .and .u8 v 3) ((k : Int))) (bits .and .u8 v 3) ((k : Int)) = D at hS hD ⊢
                  have q1 := fun W => neqR D W
                  have hP := fun W => pplain_any D W
                  have HP := Lib.hid hP
                  clear hP
                  go_wp2_with (first
  | ((with_reducible refine to_alloc 80 rfl ?_); refine Wl_alloc hS (fun _ => by rfl) _ zero80r ?_; clear hS; intro bB wW hS; simp only [Act.put, List.setIfInBounds_toArray, List.set_cons_zero, List.set_cons_succ])
  | ((with_reducible refine to_alloc 86 rfl ?_); refine Wl_alloc hS (fun _ => by rfl) _ zero86r ?_; clear hS; intro bB wW hS; simp only [Act.put, List.setIfInBounds_toArray, List.set_cons_zero, List.set_cons_succ])
  | ((with_reducible refine to_load 80 rfl ?_); refine Wl_load hS (fun _ => by rfl) _ _ rfl _ Try.underlying80 rfl ?_; (repeat (first | (refine Row.here ⟨info80c _, ?_⟩) | refine Row.next ?_)); (with_reducible show wpList _ _ _ _ _ _); simp only [Act.put, List.setIfInBounds_toArray, List.set_cons_zero, List.set_cons_succ])
  | ((with_reducible refine to_load 86 rfl ?_); refine Wl_load hS (fun _ => by rfl) _ _ rfl _ Try.underlying86 rfl ?_; (repeat (first | (refine Row.here ⟨info86c _, ?_⟩) | refine Row.next ?_)); (with_reducible show wpList _ _ _ _ _ _); simp only [Act.put, List.setIfInBounds_toArray, List.set_cons_zero, List.set_cons_succ])
  | ((with_reducible refine to_store 80 rfl ?_); refine Wl_store hS (fun _ => by rfl) _ _ _ rfl rfl (info80c _) (pi_one _) ?_; (repeat (first | refine Turn.here rfl ?_ | refine Turn.next ?_)); clear hS; intro wW hS; try simp only [Act.put, List.setIfInBounds_toArray, List.set_cons_zero, List.set_cons_succ])
  | ((with_reducible refine to_store 86 rfl ?_); refine Wl_store hS (fun _ => by rfl) _ _ _ rfl rfl (info86c _) (pi_one _) ?_; (repeat (first | refine Turn.here rfl ?_ | refine Turn.next ?_)); clear hS; intro wW hS; try simp only [Act.put, List.setIfInBounds_toArray, List.set_cons_zero, List.set_cons_succ]))
                  refine wp_region_held_drew (S := fun W => St w.heap.size 0 0 w [⟨b7, 0, true, D.a⟩, ⟨b6, 0, true, D.a⟩] W) (by kernel_rfl) (hS.drew.sub (by repeat (first | exact List.Sublist.slnil | apply List.Sublist.cons_cons | apply List.Sublist.cons))) ?_
                  intro _
                  replace hS := hS.drew
                  generalize World.drew _ = wX at hS ⊢
                  first
                    | refine wpAnyH_take (i := 0) rfl (by kernel_rfl) (by kernel_rfl) (by kernel_rfl) (fun _ _ _ h => h) (yields_row (by rfl) _ _ rfl _ _ rfl _ Try.underlying80 rfl _ (fun W hW => hW.range (.head _)) (info80c _)) (hS.sub (by repeat (first | exact List.Sublist.slnil | apply List.Sublist.cons_cons | apply List.Sublist.cons))) ?_
                    | refine wpAnyH_take (i := 0) rfl (by kernel_rfl) (by kernel_rfl) (by kernel_rfl) (fun _ _ _ h => h) (yields_row (by rfl) _ _ rfl _ _ rfl _ Try.underlying80 rfl _ (fun W hW => hW.range (.tail _ (.head _))) (info80c _)) (hS.sub (by repeat (first | exact List.Sublist.slnil | apply List.Sublist.cons_cons | apply List.Sublist.cons))) ?_
                    | refine wpAnyH_take (i := 0) rfl (by kernel_rfl) (by kernel_rfl) (by kernel_rfl) (fun _ _ _ h => h) (yields_row (by rfl) _ _ rfl _ _ rfl _ Try.underlying80 rfl _ (fun W hW => hW.range (.tail _ (.tail _ (.head _)))) (info80c _)) (hS.sub (by repeat (first | exact List.Sublist.slnil | apply List.Sublist.cons_cons | apply List.Sublist.cons))) ?_
                    | refine wpAnyH_take (i := 0) rfl (by kernel_rfl) (by kernel_rfl) (by kernel_rfl) (fun _ _ _ h => h) (yields_row (by rfl) _ _ rfl _ _ rfl _ Try.underlying80 rfl _ (fun W hW => hW.range (.tail _ (.tail _ (.tail _ (.head _))))) (info80c _)) (hS.sub (by repeat (first | exact List.Sublist.slnil | apply List.Sublist.cons_cons | apply List.Sublist.cons))) ?_
                    | refine wpAnyH_take (i := 0) rfl (by kernel_rfl) (by kernel_rfl) (by kernel_rfl) (fun _ _ _ h => h) (yields_row (by rfl) _ _ rfl _ _ rfl _ Try.underlying80 rfl _ (fun W hW => hW.range (.tail _ (.tail _ (.tail _ (.tail _ (.head _)))))) (info80c _)) (hS.sub (by repeat (first | exact List.Sublist.slnil | apply List.Sublist.cons_cons | apply List.Sublist.cons))) ?_
                    | refine wpAnyH_take (i := 0) rfl (by kernel_rfl) (by kernel_rfl) (by kernel_rfl) (fun _ _ _ h => h) (yields_row (by rfl) _ _ rfl _ _ rfl _ Try.underlying80 rfl _ (fun W hW => hW.range (.tail _ (.tail _ (.tail _ (.tail _ (.tail _ (.head _))))))) (info80c _)) (hS.sub (by repeat (first | exact List.Sublist.slnil | apply List.Sublist.cons_cons | apply List.Sublist.cons))) ?_
                  try simp only [Act.put, List.setIfInBounds_toArray, List.set_cons_zero, List.set_cons_succ, List.getElem_toArray, List.getElem_cons_succ, List.getElem_cons_zero]
                  first
                    | refine wpAnyH_take (i := 2) rfl (by kernel_rfl) (by kernel_rfl) (by kernel_rfl) (fun _ _ _ h => h) (yields_row (by rfl) _ _ rfl _ _ rfl _ Try.underlying86 rfl _ (fun W hW => hW.range (.head _)) (info86c _)) (hS.sub (by repeat (first | exact List.Sublist.slnil | apply List.Sublist.cons_cons | apply List.Sublist.cons))) ?_
                    | refine wpAnyH_take (i := 2) rfl (by kernel_rfl) (by kernel_rfl) (by kernel_rfl) (fun _ _ _ h => h) (yields_row (by rfl) _ _ rfl _ _ rfl _ Try.underlying86 rfl _ (fun W hW => hW.range (.tail _ (.head _))) (info86c _)) (hS.sub (by repeat (first | exact List.Sublist.slnil | apply List.Sublist.cons_cons | apply List.Sublist.cons))) ?_
                    | refine wpAnyH_take (i := 2) rfl (by kernel_rfl) (by kernel_rfl) (by kernel_rfl) (fun _ _ _ h => h) (yields_row (by rfl) _ _ rfl _ _ rfl _ Try.underlying86 rfl _ (fun W hW => hW.range (.tail _ (.tail _ (.head _)))) (info86c _)) (hS.sub (by repeat (first | exact List.Sublist.slnil | apply List.Sublist.cons_cons | apply List.Sublist.cons))) ?_
                    | refine wpAnyH_take (i := 2) rfl (by kernel_rfl) (by kernel_rfl) (by kernel_rfl) (fun _ _ _ h => h) (yields_row (by rfl) _ _ rfl _ _ rfl _ Try.underlying86 rfl _ (fun W hW => hW.range (.tail _ (.tail _ (.tail _ (.head _))))) (info86c _)) (hS.sub (by repeat (first | exact List.Sublist.slnil | apply List.Sublist.cons_cons | apply List.Sublist.cons))) ?_
                    | refine wpAnyH_take (i := 2) rfl (by kernel_rfl) (by kernel_rfl) (by kernel_rfl) (fun _ _ _ h => h) (yields_row (by rfl) _ _ rfl _ _ rfl _ Try.underlying86 rfl _ (fun W hW => hW.range (.tail _ (.tail _ (.tail _ (.tail _ (.head _)))))) (info86c _)) (hS.sub (by repeat (first | exact List.Sublist.slnil | apply List.Sublist.cons_cons | apply List.Sublist.cons))) ?_
                    | refine wpAnyH_take (i := 2) rfl (by kernel_rfl) (by kernel_rfl) (by kernel_rfl) (fun _ _ _ h => h) (yields_row (by rfl) _ _ rfl _ _ rfl _ Try.underlying86 rfl _ (fun W hW => hW.range (.tail _ (.tail _ (.tail _ (.tail _ (.tail _ (.head _))))))) (info86c _)) (hS.sub (by repeat (first | exact List.Sublist.slnil | apply List.Sublist.cons_cons | apply List.Sublist.cons))) ?_
                  try simp only [Act.put, List.setIfInBounds_toArray, List.set_cons_zero, List.set_cons_succ, List.getElem_toArray, List.getElem_cons_succ, List.getElem_cons_zero]
                  refine wpAnyH_ready (rs := [1]) (by kernel_rfl) (by simp) (AllReadyH.cons rfl ?_ AllReadyH.nil)
                  intro K1 hK1
                  rw [if_pos (by rfl)]
                  try simp only [Act.put, List.setIfInBounds_toArray, List.set_cons_zero, List.set_cons_succ, List.getElem_toArray, List.getElem_cons_succ, List.getElem_cons_zero]
                  go_simp
                  refine (HP.out _).mono ?_
                  rintro e1 v2 ⟨rfl, hb⟩
                  replace hS := hS.call hb
                  clear hb
                  refine hK1.out _ _ (hS.sub (by repeat (first | exact List.Sublist.slnil | apply List.Sublist.cons_cons | apply List.Sublist.cons))) (fun _ => ?_)
                  clear hK1
                  try simp only [Act.put, List.setIfInBounds_toArray, List.set_cons_zero, List.set_cons_succ, List.getElem_toArray, List.getElem_cons_succ, List.getElem_cons_zero]
                  refine wpAnyH_take (i := 3) (v := ?_) rfl (by kernel_rfl) (by kernel_rfl) (by kernel_rfl) (fun _ _ _ h => h) (Or.inl ⟨by rfl, ?_⟩) (hS.sub (by repeat (first | exact List.Sublist.slnil | apply List.Sublist.cons_cons | apply List.Sublist.cons))) ?_
                  rotate_left 1
                  · intro W hW
                    clear hW
                    go_simp
                    all_goals with_reducible rfl
                  try simp only [Act.put, List.setIfInBounds_toArray, List.set_cons_zero, List.set_cons_succ, List.getElem_toArray, List.getElem_cons_succ, List.getElem_cons_zero]
                  refine wpAnyH_done (by kernel_rfl) ?_ _
                  go_wp2_with fail
                  go_round
                  case rel => exact ⟨k + 1, D, hD, by simp, by omega, (hS.sub (by repeat (first | exact List.Sublist.slnil | apply List.Sublist.cons_cons | apply List.Sublist.cons)))⟩
                  case measure => simp [intOf]; omega
                · have t2 : (bits .and .u8 (v / 4) 3 == 2) = false := by simpa using s2
                  go_wp2_with (first
  | ((with_reducible refine to_alloc 80 rfl ?_); refine Wl_alloc hS (fun _ => by rfl) _ zero80r ?_; clear hS; intro bB wW hS; simp only [Act.put, List.setIfInBounds_toArray, List.set_cons_zero, List.set_cons_succ])
  | ((with_reducible refine to_alloc 86 rfl ?_); refine Wl_alloc hS (fun _ => by rfl) _ zero86r ?_; clear hS; intro bB wW hS; simp only [Act.put, List.setIfInBounds_toArray, List.set_cons_zero, List.set_cons_succ])
  | ((with_reducible refine to_load 80 rfl ?_); refine Wl_load hS (fun _ => by rfl) _ _ rfl _ Try.underlying80 rfl ?_; (repeat (first | (refine Row.here ⟨info80c _, ?_⟩) | refine Row.next ?_)); (with_reducible show wpList _ _ _ _ _ _); simp only [Act.put, List.setIfInBounds_toArray, List.set_cons_zero, List.set_cons_succ])
  | ((with_reducible refine to_load 86 rfl ?_); refine Wl_load hS (fun _ => by rfl) _ _ rfl _ Try.underlying86 rfl ?_; (repeat (first | (refine Row.here ⟨info86c _, ?_⟩) | refine Row.next ?_)); (with_reducible show wpList _ _ _ _ _ _); simp only [Act.put, List.setIfInBounds_toArray, List.set_cons_zero, List.set_cons_succ])
  | ((with_reducible refine to_store 80 rfl ?_); refine Wl_store hS (fun _ => by rfl) _ _ _ rfl rfl (info80c _) (pi_one _) ?_; (repeat (first | refine Turn.here rfl ?_ | refine Turn.next ?_)); clear hS; intro wW hS; try simp only [Act.put, List.setIfInBounds_toArray, List.set_cons_zero, List.set_cons_succ])
  | ((with_reducible refine to_store 86 rfl ?_); refine Wl_store hS (fun _ => by rfl) _ _ _ rfl rfl (info86c _) (pi_one _) ?_; (repeat (first | refine Turn.here rfl ?_ | refine Turn.next ?_)); clear hS; intro wW hS; try simp only [Act.put, List.setIfInBounds_toArray, List.set_cons_zero, List.set_cons_succ]))
                  refine (pread_any c _ _).mono ?_
                  rintro e w2 ⟨rfl, hb⟩
                  replace hS := hS.call hb
                  clear hb
                  go_wp2_with (first
  | ((with_reducible refine to_alloc 80 rfl ?_); refine Wl_alloc hS (fun _ => by rfl) _ zero80r ?_; clear hS; intro bB wW hS; simp only [Act.put, List.setIfInBounds_toArray, List.set_cons_zero, List.set_cons_succ])
  | ((with_reducible refine to_alloc 86 rfl ?_); refine Wl_alloc hS (fun _ => by rfl) _ zero86r ?_; clear hS; intro bB wW hS; simp only [Act.put, List.setIfInBounds_toArray, List.set_cons_zero, List.set_cons_succ])
  | ((with_reducible refine to_load 80 rfl ?_); refine Wl_load hS (fun _ => by rfl) _ _ rfl _ Try.underlying80 rfl ?_; (repeat (first | (refine Row.here ⟨info80c _, ?_⟩) | refine Row.next ?_)); (with_reducible show wpList _ _ _ _ _ _); simp only [Act.put, List.setIfInBounds_toArray, List.set_cons_zero, List.set_cons_succ])
  | ((with_reducible refine to_load 86 rfl ?_); refine Wl_load hS (fun _ => by rfl) _ _ rfl _ Try.underlying86 rfl ?_; (repeat (first | (refine Row.here ⟨info86c _, ?_⟩) | refine Row.next ?_)); (with_reducible show wpList _ _ _ _ _ _); simp only [Act.put, List.setIfInBounds_toArray, List.set_cons_zero, List.set_cons_succ])
  | ((with_reducible refine to_store 80 rfl ?_); refine Wl_store hS (fun _ => by rfl) _ _ _ rfl rfl (info80c _) (pi_one _) ?_; (repeat (first | refine Turn.here rfl ?_ | refine Turn.next ?_)); clear hS; intro wW hS; try simp only [Act.put, List.setIfInBounds_toArray, List.set_cons_zero, List.set_cons_succ])
  | ((with_reducible refine to_store 86 rfl ?_); refine Wl_store hS (fun _ => by rfl) _ _ _ rfl rfl (info86c _) (pi_one _) ?_; (repeat (first | refine Turn.here rfl ?_ | refine Turn.next ?_)); clear hS; intro wW hS; try simp only [Act.put, List.setIfInBounds_toArray, List.set_cons_zero, List.set_cons_succ]))
                  refine (rpread_any c hc _ _).mono ?_
                  rintro e w2 ⟨rfl, hb⟩
                  replace hS := hS.call hb
                  clear hb
                  have hD := M.pReadP_ok (p := c) (k := bits .and .u8 v 3) hc
                  generalize M.pReadP c (bits .and .u8 v 3) = D at hS hD ⊢
                  generalize M.pReadV c (bits .and .u8 v 3) = rv at hS ⊢
                  have q1 := fun W => neqR D W
                  have hP := fun W => pplain_any D W
                  have HP := Lib.hid hP
                  clear hP
                  go_wp2_with (first
  | ((with_reducible refine to_alloc 80 rfl ?_); refine Wl_alloc hS (fun _ => by rfl) _ zero80r ?_; clear hS; intro bB wW hS; simp only [Act.put, List.setIfInBounds_toArray, List.set_cons_zero, List.set_cons_succ])
  | ((with_reducible refine to_alloc 86 rfl ?_); refine Wl_alloc hS (fun _ => by rfl) _ zero86r ?_; clear hS; intro bB wW hS; simp only [Act.put, List.setIfInBounds_toArray, List.set_cons_zero, List.set_cons_succ])
  | ((with_reducible refine to_load 80 rfl ?_); refine Wl_load hS (fun _ => by rfl) _ _ rfl _ Try.underlying80 rfl ?_; (repeat (first | (refine Row.here ⟨info80c _, ?_⟩) | refine Row.next ?_)); (with_reducible show wpList _ _ _ _ _ _); simp only [Act.put, List.setIfInBounds_toArray, List.set_cons_zero, List.set_cons_succ])
  | ((with_reducible refine to_load 86 rfl ?_); refine Wl_load hS (fun _ => by rfl) _ _ rfl _ Try.underlying86 rfl ?_; (repeat (first | (refine Row.here ⟨info86c _, ?_⟩) | refine Row.next ?_)); (with_reducible show wpList _ _ _ _ _ _); simp only [Act.put, List.setIfInBounds_toArray, List.set_cons_zero, List.set_cons_succ])
  | ((with_reducible refine to_store 80 rfl ?_); refine Wl_store hS (fun _ => by rfl) _ _ _ rfl rfl (info80c _) (pi_one _) ?_; (repeat (first | refine Turn.here rfl ?_ | refine Turn.next ?_)); clear hS; intro wW hS; try simp only [Act.put, List.setIfInBounds_toArray, List.set_cons_zero, List.set_cons_succ])
  | ((with_reducible refine to_store 86 rfl ?_); refine Wl_store hS (fun _ => by rfl) _ _ _ rfl rfl (info86c _) (pi_one _) ?_; (repeat (first | refine Turn.here rfl ?_ | refine Turn.next ?_)); clear hS; intro wW hS; try simp only [Act.put, List.setIfInBounds_toArray, List.set_cons_zero, List.set_cons_succ]))
                  refine wp_region_held_drew (S := fun W => St w.heap.size 0 0 w [⟨b7, 0, true, D.a⟩, ⟨b6, 0, true, D.a⟩] W) (by kernel_rfl) (hS.drew.sub (by repeat (first | exact List.Sublist.slnil | apply List.Sublist.cons_cons | apply List.Sublist.cons))) ?_
                  intro _
                  replace hS := hS.drew
                  generalize World.drew _ = wX at hS ⊢
                  first
                    | refine wpAnyH_take (i := 0) rfl (by kernel_rfl) (by kernel_rfl) (by kernel_rfl) (fun _ _ _ h => h) (yields_row (by rfl) _ _ rfl _ _ rfl _ Try.underlying80 rfl _ (fun W hW => hW.range (.head _)) (info80c _)) (hS.sub (by repeat (first | exact List.Sublist.slnil | apply List.Sublist.cons_cons | apply List.Sublist.cons))) ?_
                    | refine wpAnyH_take (i := 0) rfl (by kernel_rfl) (by kernel_rfl) (by kernel_rfl) (fun _ _ _ h => h) (yields_row (by rfl) _ _ rfl _ _ rfl _ Try.underlying80 rfl _ (fun W hW => hW.range (.tail _ (.head _))) (info80c _)) (hS.sub (by repeat (first | exact List.Sublist.slnil | apply List.Sublist.cons_cons | apply List.Sublist.cons))) ?_
                    | refine wpAnyH_take (i := 0) rfl (by kernel_rfl) (by kernel_rfl) (by kernel_rfl) (fun _ _ _ h => h) (yields_row (by rfl) _ _ rfl _ _ rfl _ Try.underlying80 rfl _ (fun W hW => hW.range (.tail _ (.tail _ (.head _)))) (info80c _)) (hS.sub (by repeat (first | exact List.Sublist.slnil | apply List.Sublist.cons_cons | apply List.Sublist.cons))) ?_
                    | refine wpAnyH_take (i := 0) rfl (by kernel_rfl) (by kernel_rfl) (by kernel_rfl) (fun _ _ _ h => h) (yields_row (by rfl) _ _ rfl _ _ rfl _ Try.underlying80 rfl _ (fun W hW => hW.range (.tail _ (.tail _ (.tail _ (.head _))))) (info80c _)) (hS.sub (by repeat (first | exact List.Sublist.slnil | apply List.Sublist.cons_cons | apply List.Sublist.cons))) ?_
                    | refine wpAnyH_take (i := 0) rfl (by kernel_rfl) (by kernel_rfl) (by kernel_rfl) (fun _ _ _ h => h) (yields_row (by rfl) _ _ rfl _ _ rfl _ Try.underlying80 rfl _ (fun W hW => hW.range (.tail _ (.tail _ (.tail _ (.tail _ (.head _)))))) (info80c _)) (hS.sub (by repeat (first | exact List.Sublist.slnil | apply List.Sublist.cons_cons | apply List.Sublist.cons))) ?_
                    | refine wpAnyH_take (i := 0) rfl (by kernel_rfl) (by kernel_rfl) (by kernel_rfl) (fun _ _ _ h => h) (yields_row (by rfl) _ _ rfl _ _ rfl _ Try.underlying80 rfl _ (fun W hW => hW.range (.tail _ (.tail _ (.tail _ (.tail _ (.tail _ (.head _))))))) (info80c _)) (hS.sub (by repeat (first | exact List.Sublist.slnil | apply List.Sublist.cons_cons | apply List.Sublist.cons))) ?_
                  try simp only [Act.put, List.setIfInBounds_toArray, List.set_cons_zero, List.set_cons_succ, List.getElem_toArray, List.getElem_cons_succ, List.getElem_cons_zero]
                  first
                    | refine wpAnyH_take (i := 2) rfl (by kernel_rfl) (by kernel_rfl) (by kernel_rfl) (fun _ _ _ h => h) (yields_row (by rfl) _ _ rfl _ _ rfl _ Try.underlying86 rfl _ (fun W hW => hW.range (.head _)) (info86c _)) (hS.sub (by repeat (first | exact List.Sublist.slnil | apply List.Sublist.cons_cons | apply List.Sublist.cons))) ?_
                    | refine wpAnyH_take (i := 2) rfl (by kernel_rfl) (by kernel_rfl) (by kernel_rfl) (fun _ _ _ h => h) (yields_row (by rfl) _ _ rfl _ _ rfl _ Try.underlying86 rfl _ (fun W hW => hW.range (.tail _ (.head _))) (info86c _)) (hS.sub (by repeat (first | exact List.Sublist.slnil | apply List.Sublist.cons_cons | apply List.Sublist.cons))) ?_
                    | refine wpAnyH_take (i := 2) rfl (by kernel_rfl) (by kernel_rfl) (by kernel_rfl) (fun _ _ _ h => h) (yields_row (by rfl) _ _ rfl _ _ rfl _ Try.underlying86 rfl _ (fun W hW => hW.range (.tail _ (.tail _ (.head _)))) (info86c _)) (hS.sub (by repeat (first | exact List.Sublist.slnil | apply List.Sublist.cons_cons | apply List.Sublist.cons))) ?_
                    | refine wpAnyH_take (i := 2) rfl (by kernel_rfl) (by kernel_rfl) (by kernel_rfl) (fun _ _ _ h => h) (yields_row (by rfl) _ _ rfl _ _ rfl _ Try.underlying86 rfl _ (fun W hW => hW.range (.tail _ (.tail _ (.tail _ (.head _))))) (info86c _)) (hS.sub (by repeat (first | exact List.Sublist.slnil | apply List.Sublist.cons_cons | apply List.Sublist.cons))) ?_
                    | refine wpAnyH_take (i := 2) rfl (by kernel_rfl) (by kernel_rfl) (by kernel_rfl) (fun _ _ _ h => h) (yields_row (by rfl) _ _ rfl _ _ rfl _ Try.underlying86 rfl _ (fun W hW => hW.range (.tail _ (.tail _ (.tail _ (.tail _ (.head _)))))) (info86c _)) (hS.sub (by repeat (first | exact List.Sublist.slnil | apply List.Sublist.cons_cons | apply List.Sublist.cons))) ?_
                    | refine wpAnyH_take (i := 2) rfl (by kernel_rfl) (by kernel_rfl) (by kernel_rfl) (fun _ _ _ h => h) (yields_row (by rfl) _ _ rfl _ _ rfl _ Try.underlying86 rfl _ (fun W hW => hW.range (.tail _ (.tail _ (.tail _ (.tail _ (.tail _ (.head _))))))) (info86c _)) (hS.sub (by repeat (first | exact List.Sublist.slnil | apply List.Sublist.cons_cons | apply List.Sublist.cons))) ?_
                  try simp only [Act.put, List.setIfInBounds_toArray, List.set_cons_zero, List.set_cons_succ, List.getElem_toArray, List.getElem_cons_succ, List.getElem_cons_zero]
                  refine wpAnyH_ready (rs := [1]) (by kernel_rfl) (by simp) (AllReadyH.cons rfl ?_ AllReadyH.nil)
                  intro K1 hK1
                  rw [if_pos (by rfl)]
                  try simp only [Act.put, List.setIfInBounds_toArray, List.set_cons_zero, List.set_cons_succ, List.getElem_toArray, List.getElem_cons_succ, List.getElem_cons_zero]
                  go_simp
                  refine (HP.out _).mono ?_
                  rintro e1 v2 ⟨rfl, hb⟩
                  replace hS := hS.call hb
                  clear hb
                  refine hK1.out _ _ (hS.sub (by repeat (first | exact List.Sublist.slnil | apply List.Sublist.cons_cons | apply List.Sublist.cons))) (fun _ => ?_)
                  clear hK1
                  try simp only [Act.put, List.setIfInBounds_toArray, List.set_cons_zero, List.set_cons_succ, List.getElem_toArray, List.getElem_cons_succ, List.getElem_cons_zero]
                  refine wpAnyH_take (i := 3) (v := ?_) rfl (by kernel_rfl) (by kernel_rfl) (by kernel_rfl) (fun _ _ _ h => h) (Or.inl ⟨by rfl, ?_⟩) (hS.sub (by repeat (first | exact List.Sublist.slnil | apply List.Sublist.cons_cons | apply List.Sublist.cons))) ?_
                  rotate_left 1
                  · intro W hW
                    clear hW
                    go_simp
                    all_goals with_reducible rfl
                  try simp only [Act.put, List.setIfInBounds_toArray, List.set_cons_zero, List.set_cons_succ, List.getElem_toArray, List.getElem_cons_succ, List.getElem_cons_zero]
                  refine wpAnyH_done (by kernel_rfl) ?_ _
                  go_wp2_with fail
                  go_round
                  case rel => exact ⟨k + 1, D, hD, by simp, by omega, (hS.sub (by repeat (first | exact List.Sublist.slnil | apply List.Sublist.cons_cons | apply List.Sublist.cons)))⟩
                  case measure => simp [intOf]; omega
        · have k1' : ¬ ((k : Int) < (n1 : Int)) := by omega
          go_wp2_with fail
          go_returns
          exact ⟨rfl, hS.below⟩
end Go.Proofs.Ytmoafjgogbcoeaa
