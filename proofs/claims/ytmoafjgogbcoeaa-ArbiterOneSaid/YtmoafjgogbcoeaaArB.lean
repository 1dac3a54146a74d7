/- The arbiter (arbiter, charabancref27): at, Granted, Waits; charabancref26.Ints: by their contracts. -/
import Derived.Test.YtmoafjgogbcoeaaArA
namespace Go.Proofs.Ytmoafjgogbcoeaa
open Go.RowKit
set_option linter.unusedVariables false
set_option linter.unusedSimpArgs false
set_option maxRecDepth 100000
theorem info_get {P : Program} {T : TypeId} {z : Value} {s b : Nat} (h : (P.info? T).map (fun i => (i.zero, i.size, i.bytes)) = some (some z, s, b)) : ∃ i, P.info? T = some i ∧ i.zero = some z ∧ i.size = s ∧ i.bytes = b := by
  cases hi : P.info? T with
  | none => rw [hi] at h; cases h
  | some i =>
    rw [hi] at h
    simp only [Option.map_some, Option.some.injEq, Prod.mk.injEq] at h
    exact ⟨i, rfl, h.1, h.2.1, h.2.2⟩
theorem src_oneB {P : Program} (W : World) (x : Bool) (t tx e' : TypeId) (hk : P.underlying tx = some (.slice e')) : Src P 1 tx (.slice (some ⟨W.heap.size, 0, none⟩) 1 1) 1 (bls [x]) (W.alloc (.cells #[.bool x] t)) :=
  Src.ofSlice _ hk _ _ _ _ rfl (fun j u hu => by rw [Addr.add_lit]; exact range_new W #[.bool x] t j u hu) (fun u hu => by obtain ⟨y, _, rfl⟩ := List.mem_map.1 hu; rfl)
theorem bls_append (L M : List Bool) : bls (L ++ M) = bls L ++ bls M := by simp [bls]
theorem infoBool : (Try.prog.info? 4).map (fun i => (i.zero, i.size, i.bytes)) = some (some (.bool false), 1, 1) := by kernel_rfl
/-- A slice of slices of bools. -/
structure N2 (w : World) (A : Option Addr) (n c : Nat) (LL : List (List Bool)) : Prop where
  len : n = LL.length
  max : n ≤ maxLen
  ex : ∃ vs, Ls 0 w (.slice A n c) vs ∧ vs.length = n ∧ ∀ i, i < n → ∃ A' c', vs[i]? = some (.slice A' (LL.getD i []).length c') ∧ Ls 0 w (.slice A' (LL.getD i []).length c') (bls (LL.getD i []))
theorem N2.below {w w' : World} {A : Option Addr} {n c : Nat} {LL : List (List Bool)} (h : N2 w A n c LL) (hb : Below w.heap.size w w') : N2 w' A n c LL := by
  obtain ⟨vs, h1, h2, h3⟩ := h.ex
  exact ⟨h.len, h.max, vs, h1.below hb, h2, fun i hi => by obtain ⟨A', c', e1, e2⟩ := h3 i hi; exact ⟨A', c', e1, e2.below hb⟩⟩
theorem N2.at_ {w : World} {A : Option Addr} {n c : Nat} {LL : List (List Bool)} (h : N2 w A n c LL) {i : Nat} (hi : i < n) : ∃ x q A' c', A = some ⟨x, q, none⟩ ∧ n ≤ c ∧ w.cell? ⟨x, q + i, none⟩ = some (.slice A' (LL.getD i []).length c') ∧ Ls 0 w (.slice A' (LL.getD i []).length c') (bls (LL.getD i [])) := by
  obtain ⟨vs, h1, h2, h3⟩ := h.ex
  obtain ⟨A', c', e1, e2⟩ := h3 i hi
  obtain ⟨x, q, k, hs, _, hk, hc⟩ := h1.atV e1
  simp only [Value.slice.injEq] at hs
  exact ⟨x, q, A', c', hs.1, by omega, hc, e2⟩
theorem N2.out {w : World} {A : Option Addr} {n c : Nat} {LL : List (List Bool)} (h : N2 w A n c LL) {i : Nat} (hi : ¬ i < n) : LL.getD i [] = [] := by
  rw [List.getD_eq_getElem?_getD, List.getElem?_eq_none (by have := h.len; omega)]
  rfl
set_option maxHeartbeats 4000000 in
theorem arat_any (A : Option Addr) (n c : Nat) (LL : List (List Bool)) (i : Nat) (w : World) (r : N2 w A n c LL) : Calls Try.prog 62 #[.slice A n c, .int .i64 (i : Int)] w fun e w' => (∃ A' c', e = .returned (.slice A' (LL.getD i []).length c') ∧ Ls 0 w (.slice A' (LL.getD i []).length c') (bls (LL.getD i []))) ∧ w = w' := by
  by_cases hi : i < n
  · obtain ⟨x, q, A', c', rfl, hk, hc, hl⟩ := r.at_ hi
    have HL := Lib.hid hl
    have k0 : ¬ ((i : Int) ≥ (n : Int)) := by omega
    have k1 : (i : Int) < (n : Int) := by omega
    have k2 : (0 : Int) ≤ (i : Int) := by omega
    clear hl r
    go_enter Try.func62, Try.ntmps62
    go_wp2_with fail
    go_returns
    exact ⟨⟨_, _, rfl, HL.out⟩, rfl⟩
  · have k0 : ((i : Int) ≥ (n : Int)) := by omega
    have HE := Lib.hid (r.out hi)
    clear r
    go_enter Try.func62, Try.ntmps62
    go_wp2_with fail
    go_returns
    exact ⟨⟨none, 0, by rw [HE.out]; rfl, by rw [HE.out]; exact Ls.nil _ _ _ _ (Nat.zero_le _)⟩, rfl⟩
def M.arGp (o : Int) (j : Nat) : List Bool := (List.range j).map fun i : Nat => decide ((i : Int) = o)
theorem M.arGp_len (o : Int) (j : Nat) : (M.arGp o j).length = j := by simp [M.arGp]
theorem M.arGp_succ (o : Int) (j : Nat) : M.arGp o (j + 1) = M.arGp o j ++ [decide ((j : Int) = o)] := by simp [M.arGp, List.range_succ]
def M.arG (m o : Int) : List Bool := M.arGp o (min m 8).toNat
set_option maxHeartbeats 4000000 in
theorem arGranted_any (m o : Int) (hm : -9223372036854775808 ≤ m ∧ m ≤ 9223372036854775807) (w : World) : Calls Try.prog 16 #[stV m o] w fun e w' => ∃ A c, e = .returned (.slice A (M.arG m o).length c) ∧ Ls w.heap.size w' (.slice A (M.arG m o).length c) (bls (M.arG m o)) ∧ Below w.heap.size w w' := by
  obtain ⟨i0, hi0, hz0, hz1, hz2⟩ := info_get infoBool
  have hS := St.start w.heap.size 0 0 w
  unfold stV
  obtain ⟨K, hK⟩ : ∃ K : Nat, K = (min m 8).toNat := ⟨_, rfl⟩
  have HK := Lib.hid hK
  clear hK
  go_enter Try.func16, Try.ntmps16
  go_wp2_with (first | ((with_reducible refine to_boxT 23 rfl ?_); refine Wl_box hS (fun _ => by rfl) _ rfl ?_; clear hS; intro b1 wW hS; simp only [Act.put, List.setIfInBounds_toArray, List.set_cons_zero, List.set_cons_succ]) | ((with_reducible first | refine to_load 3 rfl ?_ | refine to_load 4 rfl ?_ | refine to_load 24 rfl ?_); refine Wl_load1 hS (fun _ => by rfl) _ _ rfl (scT _ rfl) ?_; (repeat (first | refine Look.here (of_decide_eq_true rfl) rfl ?_ | refine Look.self rfl ?_ | refine Look.next ?_)); (with_reducible show wpList _ _ _ _ _ _); simp only [Act.put, List.setIfInBounds_toArray, List.set_cons_zero, List.set_cons_succ]))
  · have HS0 := Lib.hid hS
    clear hS
    go_loopw [3, 8] (fun l i wr => ∃ (j : Nat) (E : List Ent), i = .int .i64 j ∧ j ≤ K ∧ Own l (bls (M.arGp o j)) E ∧ St w.heap.size 0 0 w (⟨b1, 0, true, #[.int .i64 m, .int .i64 o]⟩ :: E) wr) (fun _ i _ => K - (intOf i).toNat)
    case atStart => exact ⟨0, [], rfl, Nat.zero_le _, Own.none, HS0.out⟩
    case round =>
      clear HS0
      obtain ⟨j, E, rfl, hj, hO, hS⟩ := hrel
      have HL := Lib.hid (show (M.arGp o j).length = j ∧ j ≤ K ∧ K ≤ 8 from ⟨M.arGp_len o j, hj, by have := HK.out; omega⟩)
      have HE := Lib.hid (M.arGp_succ o j)
      by_cases k1 : j < K
      · have k2 : (j : Int) < 8 := by have := HK.out; omega
        have k3 : (j : Int) < 8 := by have := HK.out; omega
        go_wp2_with (first | ((with_reducible first | refine to_load 3 rfl ?_ | refine to_load 4 rfl ?_ | refine to_load 24 rfl ?_); refine Wl_load1 hS (fun _ => by rfl) _ _ rfl (scT _ rfl) ?_; (repeat (first | refine Look.here (of_decide_eq_true rfl) rfl ?_ | refine Look.self rfl ?_ | refine Look.next ?_)); (with_reducible show wpList _ _ _ _ _ _); simp only [Act.put, List.setIfInBounds_toArray, List.set_cons_zero, List.set_cons_succ]) | ((with_reducible refine to_app ?_); refine Wl_app (es := [_, _]) (hS.new _ _) hO 4 i0 (.bool false) 1 Try.underlying24 hi0 hz0 hz1 hz2 rfl rfl 1 (bls [decide ((j : Int) = o)]) (src_oneB _ _ _ _ _ Try.underlying24) (by have := HL.out; simp [maxLen, bls]; omega) (by have := HL.out; simp [bls]; omega) ?_; intro v2 E2 w2 hO2 hS2))
        go_round
        case rel => exact ⟨j + 1, E2, by simp, by omega, by rw [HE.out, bls_append]; exact hO2, hS2.sub (List.sublist_cons_self _ _)⟩
        case measure => simp [intOf]; omega
      · have k2 : ¬ ((j : Int) < 8) := by have := HK.out; omega
        obtain ⟨A, c, rfl⟩ := hO.len
        have hl : (bls (M.arGp o j)).length = (M.arG m o).length := by rw [bls_length, M.arGp_len, M.arG, M.arGp_len, ← HK.out]; omega
        have hG : M.arGp o j = M.arG m o := by rw [M.arG, ← HK.out, show j = K by omega]
        have HF := Lib.hid hl
        have HG := Lib.hid hG
        clear hl hG
        go_wp2_with (first | ((with_reducible first | refine to_load 3 rfl ?_ | refine to_load 4 rfl ?_ | refine to_load 24 rfl ?_); refine Wl_load1 hS (fun _ => by rfl) _ _ rfl (scT _ rfl) ?_; (repeat (first | refine Look.here (of_decide_eq_true rfl) rfl ?_ | refine Look.self rfl ?_ | refine Look.next ?_)); (with_reducible show wpList _ _ _ _ _ _); simp only [Act.put, List.setIfInBounds_toArray, List.set_cons_zero, List.set_cons_succ]))
        go_returns
        have hr := hO.res (es := [_]) hS
        rw [HF.out, HG.out] at hr
        exact ⟨A, c, congrArg (fun n => Ending.returned (.slice A n c)) HF.out, hr, hS.below⟩
  · have HS0 := Lib.hid hS
    clear hS
    go_loopw [3, 8] (fun l i wr => ∃ (j : Nat) (E : List Ent), i = .int .i64 j ∧ j ≤ K ∧ Own l (bls (M.arGp o j)) E ∧ St w.heap.size 0 0 w (⟨b1, 0, true, #[.int .i64 m, .int .i64 o]⟩ :: E) wr) (fun _ i _ => K - (intOf i).toNat)
    case atStart => exact ⟨0, [], rfl, Nat.zero_le _, Own.none, HS0.out⟩
    case round =>
      clear HS0
      obtain ⟨j, E, rfl, hj, hO, hS⟩ := hrel
      have HL := Lib.hid (show (M.arGp o j).length = j ∧ j ≤ K ∧ K ≤ 8 from ⟨M.arGp_len o j, hj, by have := HK.out; omega⟩)
      have HE := Lib.hid (M.arGp_succ o j)
      by_cases k1 : j < K
      · have k2 : (j : Int) < m := by have := HK.out; omega
        have k3 : (j : Int) < 8 := by have := HK.out; omega
        go_wp2_with (first | ((with_reducible first | refine to_load 3 rfl ?_ | refine to_load 4 rfl ?_ | refine to_load 24 rfl ?_); refine Wl_load1 hS (fun _ => by rfl) _ _ rfl (scT _ rfl) ?_; (repeat (first | refine Look.here (of_decide_eq_true rfl) rfl ?_ | refine Look.self rfl ?_ | refine Look.next ?_)); (with_reducible show wpList _ _ _ _ _ _); simp only [Act.put, List.setIfInBounds_toArray, List.set_cons_zero, List.set_cons_succ]) | ((with_reducible refine to_app ?_); refine Wl_app (es := [_, _]) (hS.new _ _) hO 4 i0 (.bool false) 1 Try.underlying24 hi0 hz0 hz1 hz2 rfl rfl 1 (bls [decide ((j : Int) = o)]) (src_oneB _ _ _ _ _ Try.underlying24) (by have := HL.out; simp [maxLen, bls]; omega) (by have := HL.out; simp [bls]; omega) ?_; intro v2 E2 w2 hO2 hS2))
        go_round
        case rel => exact ⟨j + 1, E2, by simp, by omega, by rw [HE.out, bls_append]; exact hO2, hS2.sub (List.sublist_cons_self _ _)⟩
        case measure => simp [intOf]; omega
      · have k2 : ¬ ((j : Int) < m) := by have := HK.out; omega
        obtain ⟨A, c, rfl⟩ := hO.len
        have hl : (bls (M.arGp o j)).length = (M.arG m o).length := by rw [bls_length, M.arGp_len, M.arG, M.arGp_len, ← HK.out]; omega
        have hG : M.arGp o j = M.arG m o := by rw [M.arG, ← HK.out, show j = K by omega]
        have HF := Lib.hid hl
        have HG := Lib.hid hG
        clear hl hG
        go_wp2_with (first | ((with_reducible first | refine to_load 3 rfl ?_ | refine to_load 4 rfl ?_ | refine to_load 24 rfl ?_); refine Wl_load1 hS (fun _ => by rfl) _ _ rfl (scT _ rfl) ?_; (repeat (first | refine Look.here (of_decide_eq_true rfl) rfl ?_ | refine Look.self rfl ?_ | refine Look.next ?_)); (with_reducible show wpList _ _ _ _ _ _); simp only [Act.put, List.setIfInBounds_toArray, List.set_cons_zero, List.set_cons_succ]))
        go_returns
        have hr := hO.res (es := [_]) hS
        rw [HF.out, HG.out] at hr
        exact ⟨A, c, congrArg (fun n => Ending.returned (.slice A n c)) HF.out, hr, hS.below⟩
set_option maxHeartbeats 4000000 in
theorem rarGranted_any (m o : Int) (hm : -9223372036854775808 ≤ m ∧ m ≤ 9223372036854775807) (w : World) : Calls Try.prog 17 #[stV m o] w fun e w' => ∃ A c, e = .returned (.slice A (M.arG m o).length c) ∧ Ls w.heap.size w' (.slice A (M.arG m o).length c) (bls (M.arG m o)) ∧ Below w.heap.size w w' := by
  obtain ⟨i0, hi0, hz0, hz1, hz2⟩ := info_get infoBool
  have hS := St.start w.heap.size 0 0 w
  unfold stV
  obtain ⟨K, hK⟩ : ∃ K : Nat, K = (min m 8).toNat := ⟨_, rfl⟩
  have HK := Lib.hid hK
  clear hK
  go_enter Try.func17, Try.ntmps17
  go_wp2_with (first | ((with_reducible refine to_boxT 28 rfl ?_); refine Wl_box hS (fun _ => by rfl) _ rfl ?_; clear hS; intro b1 wW hS; simp only [Act.put, List.setIfInBounds_toArray, List.set_cons_zero, List.set_cons_succ]) | ((with_reducible first | refine to_load 3 rfl ?_ | refine to_load 4 rfl ?_ | refine to_load 24 rfl ?_); refine Wl_load1 hS (fun _ => by rfl) _ _ rfl (scT _ rfl) ?_; (repeat (first | refine Look.here (of_decide_eq_true rfl) rfl ?_ | refine Look.self rfl ?_ | refine Look.next ?_)); (with_reducible show wpList _ _ _ _ _ _); simp only [Act.put, List.setIfInBounds_toArray, List.set_cons_zero, List.set_cons_succ]))
  have HS0 := Lib.hid hS
  clear hS
  go_loopw [3, 4] (fun l i wr => ∃ (j : Nat) (E : List Ent), i = .int .i64 j ∧ j ≤ K ∧ Own l (bls (M.arGp o j)) E ∧ St w.heap.size 0 0 w (⟨b1, 0, true, #[.int .i64 m, .int .i64 o]⟩ :: E) wr) (fun _ i _ => K - (intOf i).toNat)
  case atStart => exact ⟨0, [], rfl, Nat.zero_le _, Own.none, HS0.out⟩
  case round =>
    clear HS0
    obtain ⟨j, E, rfl, hj, hO, hS⟩ := hrel
    have HL := Lib.hid (show (M.arGp o j).length = j ∧ j ≤ K ∧ K ≤ 8 from ⟨M.arGp_len o j, hj, by have := HK.out; omega⟩)
    have HE := Lib.hid (M.arGp_succ o j)
    by_cases k1 : j < K
    · have k2 : (j : Int) < m := by have := HK.out; omega
      have k3 : (j : Int) < 8 := by have := HK.out; omega
      go_wp2_with (first | ((with_reducible first | refine to_load 3 rfl ?_ | refine to_load 4 rfl ?_ | refine to_load 24 rfl ?_); refine Wl_load1 hS (fun _ => by rfl) _ _ rfl (scT _ rfl) ?_; (repeat (first | refine Look.here (of_decide_eq_true rfl) rfl ?_ | refine Look.self rfl ?_ | refine Look.next ?_)); (with_reducible show wpList _ _ _ _ _ _); simp only [Act.put, List.setIfInBounds_toArray, List.set_cons_zero, List.set_cons_succ]) | ((with_reducible refine to_app ?_); refine Wl_app (es := [_, _]) (hS.new _ _) hO 4 i0 (.bool false) 1 Try.underlying24 hi0 hz0 hz1 hz2 rfl rfl 1 (bls [decide ((j : Int) = o)]) (src_oneB _ _ _ _ _ Try.underlying24) (by have := HL.out; simp [maxLen, bls]; omega) (by have := HL.out; simp [bls]; omega) ?_; intro v2 E2 w2 hO2 hS2))
      go_round
      case rel => exact ⟨j + 1, E2, by simp, by omega, by rw [HE.out, bls_append]; exact hO2, hS2.sub (List.sublist_cons_self _ _)⟩
      case measure => simp [intOf]; omega
    · obtain ⟨A, c, rfl⟩ := hO.len
      have hl : (bls (M.arGp o j)).length = (M.arG m o).length := by rw [bls_length, M.arGp_len, M.arG, M.arGp_len, ← HK.out]; omega
      have hG : M.arGp o j = M.arG m o := by rw [M.arG, ← HK.out, show j = K by omega]
      have HF := Lib.hid hl
      have HG := Lib.hid hG
      clear hl hG
      by_cases k2 : (j : Int) < m
      · have k3 : ¬ ((j : Int) < 8) := by have := HK.out; omega
        go_wp2_with (first | ((with_reducible first | refine to_load 3 rfl ?_ | refine to_load 4 rfl ?_ | refine to_load 24 rfl ?_); refine Wl_load1 hS (fun _ => by rfl) _ _ rfl (scT _ rfl) ?_; (repeat (first | refine Look.here (of_decide_eq_true rfl) rfl ?_ | refine Look.self rfl ?_ | refine Look.next ?_)); (with_reducible show wpList _ _ _ _ _ _); simp only [Act.put, List.setIfInBounds_toArray, List.set_cons_zero, List.set_cons_succ]))
        go_returns
        have hr := hO.res (es := [_]) hS
        rw [HF.out, HG.out] at hr
        exact ⟨A, c, congrArg (fun n => Ending.returned (.slice A n c)) HF.out, hr, hS.below⟩
      · go_wp2_with (first | ((with_reducible first | refine to_load 3 rfl ?_ | refine to_load 4 rfl ?_ | refine to_load 24 rfl ?_); refine Wl_load1 hS (fun _ => by rfl) _ _ rfl (scT _ rfl) ?_; (repeat (first | refine Look.here (of_decide_eq_true rfl) rfl ?_ | refine Look.self rfl ?_ | refine Look.next ?_)); (with_reducible show wpList _ _ _ _ _ _); simp only [Act.put, List.setIfInBounds_toArray, List.set_cons_zero, List.set_cons_succ]))
        go_returns
        have hr := hO.res (es := [_]) hS
        rw [HF.out, HG.out] at hr
        exact ⟨A, c, congrArg (fun n => Ending.returned (.slice A n c)) HF.out, hr, hS.below⟩
end Go.Proofs.Ytmoafjgogbcoeaa
