/- The reference's wanted (charabancref21), slices.Clone, by their contracts. -/
import Derived.Test.YtlpoldnidojgmaaRgWants
import Derived.Lib.LazyBuf
namespace Go.Proofs.Ytlpoldnidojgmaa
open Go.RowKit
set_option linter.unusedVariables false
set_option linter.unusedSimpArgs false
set_option maxRecDepth 100000
/-- A call that gives a slice of its own. -/
theorem St.callO {B o n : Nat} {w W W' : World} {es E : List Ent} (h : St B o n w es W) (hE : St W.heap.size 0 0 W E W') (hne : ∀ e, e ∈ E → W.heap.size ≤ e.b) : St B o n w (es ++ E) W' := by
  have hc := h.call hE.below
  refine ⟨hc.touch, fun e he => ?_, List.pairwise_append.2 ⟨hc.sep, hE.sep, fun x hx y hy hf => .inl ?_⟩⟩
  · rcases List.mem_append.1 he with he | he
    · exact hc.good e he
    · have g := hE.good e he
      exact ⟨g.lt, g.rng, g.free, fun hf => .inl (Nat.le_trans h.size (hne e he))⟩
  · have := (h.good x hx).lt
    have := hne y hy
    omega
/-- A slice of the call's own: where it lies. -/
def OwnR (w : World) (v : Value) (vs : List Value) (w' : World) : Prop := ∃ E, Own v vs E ∧ St w.heap.size 0 0 w E w' ∧ ∀ e, e ∈ E → w.heap.size ≤ e.b
theorem OwnR.ls {w w' : World} {v : Value} {vs : List Value} (h : OwnR w v vs w') : Ls w.heap.size w' v vs ∧ Below w.heap.size w w' := by
  obtain ⟨E, hO, hS, _⟩ := h
  exact ⟨hO.res (es := []) hS, hS.below⟩
theorem OwnR.of {w w' : World} {v : Value} {vs : List Value} {E es : List Ent} (hO : Own v vs E) (hS : St w.heap.size 0 0 w (es ++ E) w') : OwnR w v vs w' ∨ vs = [] := by
  by_cases hv : vs = []
  · exact .inr hv
  · refine .inl ⟨E, hO, hS.sub (List.sublist_append_right _ _), fun e he => ?_⟩
    rcases hO with ⟨rfl, rfl, rfl⟩ | ⟨b, c, cs, rfl, h1, h2, h3, rfl, h5⟩
    · cases he
    · have hg := hS.good e (List.mem_append_right _ he)
      rcases List.mem_singleton.1 he with rfl
      rcases hg.own rfl with k | ⟨k1, k2, k3⟩
      · exact k
      · have : vs.length ≠ 0 := fun e => hv (List.eq_nil_of_length_eq_zero e)
        simp at k3
        subst k3
        simp at h3
        omega
def M.upFrom (n k : Nat) : List Int := (List.range k).map fun i => ((n + i : Nat) : Int)
theorem M.upFrom_len (n k : Nat) : (M.upFrom n k).length = k := by simp [M.upFrom]
theorem M.upFrom_at {n k j : Nat} (h : j < k) : (M.upFrom n k).getD j 0 = (n : Int) + (j : Int) := by
  simp [M.upFrom, List.getD_eq_getElem?_getD, h]
set_option maxHeartbeats 4000000 in
theorem rwanted_any (A1 : Option Addr) (c1 : Nat) (L1 : List Int) (b num : Int) (n k : Nat) (A2 : Option Addr) (c2 : Nat) (h0 : 0 ≤ b) (h1 : b ≤ 255) (hn0 : -1000 ≤ num) (hn1 : num ≤ 1000) (hn : n ≤ 100) (hk : k ≤ 100) (hL : L1.length ≤ 10000) (w : World)
    (r1 : Ls 0 w (.slice A1 L1.length c1) (ints .i64 L1)) (r2 : Ls 0 w (.slice A2 k c2) (ints .i64 (M.upFrom n k))) :
    Calls Try.prog 55 #[.slice A1 L1.length c1, .int .u8 b, .int .i64 num, .slice A2 k c2] w fun e w' => ∃ v E, e = .returned v ∧ Own v (ints .i64 (L1 ++ M.rWants b num n k)) E ∧ St w.heap.size 0 0 w E w' := by
  obtain ⟨i0, hi0, hz0, hz1, hz2⟩ := info_get infoInt
  have hS : St w.heap.size 0 0 w ([] ++ []) w := St.start w.heap.size 0 0 w
  have hat : ∀ j, j < k → ∃ b q, A2 = some ⟨b, q, none⟩ ∧ k ≤ c2 ∧ w.cell? ⟨b, q + j, none⟩ = some (.int .i64 ((n : Int) + (j : Int))) := fun j hj => by
    obtain ⟨b, q, cp, hs, _, hc, hcell⟩ := r2.at_ (i := j) (by rw [M.upFrom_len]; exact hj)
    rw [M.upFrom_len] at hs hc
    rw [M.upFrom_at hj] at hcell
    simp only [Value.slice.injEq] at hs
    exact ⟨b, q, hs.1, by omega, hcell⟩
  have HA := Lib.hid hat
  have hlen0 : (ints .i64 L1).length = L1.length := ints_length _ _
  clear hat r2
  go_enter Try.func55, Try.ntmps55
  go_wp2_with ((with_reducible refine to_app ?_); refine Wl_app (es := []) hS Own.none 3 i0 (.int .i64 0) 8 Try.underlying57 hi0 hz0 hz1 hz2 rfl rfl L1.length (ints .i64 L1) (hlen0 ▸ r1.src Try.underlying57 (ints_one _ _)) (by simp [maxLen]; omega) (by simp; omega) ?_; clear hS; intro v1 E1 w2 hO hS)
  have HS0 := Lib.hid hS
  have HO0 := Lib.hid hO
  clear hS hO
  go_loopw [9, 10] (fun l i wr => ∃ (j : Nat) (E : List Ent), i = .int .i64 j ∧ j ≤ k ∧ Own l (ints .i64 (L1 ++ M.rWants b num n j)) E ∧ St w.heap.size 0 0 w E wr) (fun _ i _ => k - (intOf i).toNat)
  case atStart => exact ⟨0, _, rfl, Nat.zero_le _, by simpa [M.rWants] using HO0.out, HS0.out⟩
  case round =>
    clear HS0 HO0
    obtain ⟨j, E, rfl, hj, hO, hS⟩ := hrel
    have hlen := M.rWants_len b num n j
    by_cases k1 : j < k
    · have k1' : (j : Int) < (k : Int) := by omega
      have k0' : (0 : Int) ≤ (j : Int) := by omega
      have e1 : M.rWants b num n (j + 1) = M.rWants b num n j ++ (if M.is b ((n : Int) + (j : Int)) then [num + (j : Int)] else []) := by
        rw [M.rWants, show ((n + j : Nat) : Int) = (n : Int) + (j : Int) by omega]
      obtain ⟨bb, q, rfl, hkc, hcell⟩ := HA.out j k1
      have hv := hS.below.cell (p := ⟨bb, q + j, none⟩) (World.block_lt_of_cell? w _ hcell)
      rw [hcell] at hv
      have HE := Lib.hid e1
      have HL := Lib.hid hlen
      clear e1 hlen hcell
      go_wp2_with fail
      refine (refis_any b _ h0 h1 _).mono ?_
      rintro e w1 ⟨rfl, rfl⟩
      cases hc : M.is b ((n : Int) + (j : Int)) with
      | true =>
        have e2 := HE.out
        rw [hc, if_pos rfl] at e2
        have HE2 := Lib.hid e2
        clear e2 HE
        go_wp2_with ((with_reducible refine to_app ?_); refine Wl_app (es := [_]) (hS.new _ _) hO 3 i0 (.int .i64 0) 8 Try.underlying57 hi0 hz0 hz1 hz2 rfl rfl 1 (ints .i64 [num + (j : Int)]) (src_one _ _ _ _ _ _ Try.underlying57) (by have := HL.out; simp [ints, maxLen]; omega) (by have := HL.out; simp [ints]; omega) ?_; intro v2 E2 w2 hO2 hS2)
        go_round
        case rel => exact ⟨j + 1, E2, by simp, by omega, by rw [HE2.out, ← List.append_assoc, ints_append]; exact hO2, hS2.sub (List.sublist_cons_self _ _)⟩
        case measure => simp [intOf]; omega
      | false =>
        have e2 := HE.out
        rw [hc, if_neg (by decide), List.append_nil] at e2
        have HE2 := Lib.hid e2
        clear e2 HE
        go_wp2_with fail
        go_round
        case rel => exact ⟨j + 1, E, by simp, by omega, HE2.out ▸ hO, hS⟩
        case measure => simp [intOf]; omega
    · have k1' : ¬ ((j : Int) < (k : Int)) := by omega
      obtain rfl : j = k := by omega
      go_wp2_with fail
      go_returns
      exact ⟨_, rfl, E, hO, hS⟩
set_option maxHeartbeats 4000000 in
theorem clone_any (A1 : Option Addr) (c1 : Nat) (L1 : List Int) (hL : L1.length ≤ 10000) (w : World) (r1 : Ls 0 w (.slice A1 L1.length c1) (ints .i64 L1)) :
    Calls Try.prog 66 #[.slice A1 L1.length c1] w fun e w' => ∃ A c, e = .returned (.slice A L1.length c) ∧ Ls w.heap.size w' (.slice A L1.length c) (ints .i64 L1) ∧ Below w.heap.size w w' := by
  obtain ⟨i0, hi0, hz0, hz1, hz2⟩ := info_get infoInt
  have hS := St.start w.heap.size 0 0 w
  have hlen0 : (ints .i64 L1).length = L1.length := ints_length _ _
  cases A1 with
  | none =>
    have h0 : L1.length = 0 := by
      obtain ⟨A, c, hs, h1, h2, h3⟩ := r1.shp
      simp only [Value.slice.injEq] at hs
      rw [hlen0] at h3 hs
      exact Decidable.byContradiction fun hne => by obtain ⟨b, q, hb⟩ := h3 hne; rw [← hs.1] at hb; cases hb
    obtain rfl := List.eq_nil_of_length_eq_zero h0
    have hnil := fun W : World => run_eql_slice_nil W 57 3 none 0 c1 Try.underlying57
    simp only [Option.isNone_none] at hnil
    go_enter Try.func66, Try.ntmps66
    go_wp2_with fail
    go_returns
    exact ⟨_, _, rfl, Ls.nil _ _ _ _ (Nat.zero_le _), Below.refl _ _⟩
  | some x =>
    have hnil := fun W : World => run_eql_slice_nil W 57 3 (some x) L1.length c1 Try.underlying57
    simp only [Option.isNone_some] at hnil
    have hO0 : Own (.slice (some ⟨w.heap.size, 0, none⟩) 0 0) [] [⟨w.heap.size, 0, true, #[]⟩] := .inr ⟨w.heap.size, 0, #[], rfl, Nat.le_refl _, Nat.zero_le _, rfl, rfl, rfl⟩
    have hS0 := hS.new #[] 3
    have hsrc := (r1.below hS0.below).src (P := Try.prog) (tx := 57) Try.underlying57 (ints_one _ _)
    rw [hlen0] at hsrc
    go_enter Try.func66, Try.ntmps66
    go_wp2_with ((with_reducible refine to_app ?_); refine Wl_app (es := []) hS0 hO0 3 i0 (.int .i64 0) 8 Try.underlying57 hi0 hz0 hz1 hz2 rfl rfl L1.length (ints .i64 L1) hsrc (by simp [maxLen]; omega) (by simp; omega) ?_; clear hS; intro v1 E1 w2 hO hS)
    go_returns
    obtain ⟨A, c, rfl⟩ := hO.len
    rw [List.nil_append, ints_length] at hO ⊢
    exact ⟨A, c, rfl, hO.res (es := []) hS, hS.below⟩
end Go.Proofs.Ytlpoldnidojgmaa
