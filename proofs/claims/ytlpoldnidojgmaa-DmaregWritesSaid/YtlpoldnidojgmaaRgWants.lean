/- Which bytes are to come (dmareg.wants, charabancref21.wanted), slices.Clone, each by its contract. -/
import Derived.Test.YtlpoldnidojgmaaRgBase
namespace Go.Proofs.Ytlpoldnidojgmaa
open Go.RowKit
set_option linter.unusedVariables false
set_option linter.unusedSimpArgs false
set_option maxRecDepth 100000
theorem info_get {P : Program} {T : TypeId} {z : Value} {s b : Nat} (h : (P.info? T).map (fun i => (i.zero, i.size, i.bytes)) = some (some z, s, b)) : ∃ i, P.info? T = some i ∧ i.zero = some z ∧ i.size = s ∧ i.bytes = b := by
  cases hi : P.info? T with
  | none => rw [hi] at h; cases h
  | some i =>
    rw [hi] at h
    simp only [Option.map_some, Option.some.injEq, Prod.mk.injEq] at h
    exact ⟨i, rfl, h.1, h.2.1, h.2.2⟩
theorem src_one {P : Program} (W : World) (k : IntKind) (x : Int) (t tx e' : TypeId) (hk : P.underlying tx = some (.slice e')) : Src P 1 tx (.slice (some ⟨W.heap.size, 0, none⟩) 1 1) 1 (ints k [x]) (W.alloc (.cells #[.int k x] t)) :=
  Src.ofSlice _ hk _ _ _ _ rfl (fun j u hu => by rw [Addr.add_lit]; exact range_new W #[.int k x] t j u hu) (ints_one _ _)
theorem infoInt : (Try.prog.info? 3).map (fun i => (i.zero, i.size, i.bytes)) = some (some (.int .i64 0), 1, 8) := by kernel_rfl
set_option maxHeartbeats 4000000 in
theorem wants_any (b num : Int) (n k : Nat) (h0 : 0 ≤ b) (h1 : b ≤ 255) (hn0 : -1000 ≤ num) (hn1 : num ≤ 1000) (hn : n ≤ 100) (hk : k ≤ 100) (w : World) :
    Calls Try.prog 65 #[.int .u8 b, .int .i64 num, .int .i64 (n : Int), .int .i64 (k : Int)] w fun e w' => ∃ A c, e = .returned (.slice A (M.rWants b num n k).length c) ∧ Ls w.heap.size w' (.slice A (M.rWants b num n k).length c) (ints .i64 (M.rWants b num n k)) ∧ Below w.heap.size w w' := by
  obtain ⟨i0, hi0, hz0, hz1, hz2⟩ := info_get infoInt
  have hS := St.start w.heap.size 0 0 w
  go_enter Try.func65, Try.ntmps65
  go_wp2_with fail
  have HS0 := Lib.hid hS
  clear hS
  go_loopw [9, 12] (fun l i wr => ∃ (j : Nat) (E : List Ent), i = .int .i64 j ∧ j ≤ k ∧ Own l (ints .i64 (M.rWants b num n j)) E ∧ St w.heap.size 0 0 w E wr) (fun _ i _ => k - (intOf i).toNat)
  case atStart => exact ⟨0, [], rfl, Nat.zero_le _, Own.none, HS0.out⟩
  case round =>
    clear HS0
    obtain ⟨j, E, rfl, hj, hO, hS⟩ := hrel
    have hlen := M.rWants_len b num n j
    by_cases k1 : j < k
    · have k1' : (j : Int) < (k : Int) := by omega
      have e1 : M.rWants b num n (j + 1) = M.rWants b num n j ++ (if M.is b ((n : Int) + (j : Int)) then [num + (j : Int)] else []) := by
        rw [M.rWants, show ((n + j : Nat) : Int) = (n : Int) + (j : Int) by omega]
      have HE := Lib.hid e1
      have HL := Lib.hid hlen
      clear e1 hlen
      go_wp2_with fail
      refine (is_any b _ h0 h1 _).mono ?_
      rintro e w1 ⟨rfl, rfl⟩
      cases hc : M.is b ((n : Int) + (j : Int)) with
      | true =>
        have e2 := HE.out
        rw [hc, if_pos rfl] at e2
        have HE2 := Lib.hid e2
        clear e2 HE
        go_wp2_with ((with_reducible refine to_app ?_); refine Wl_app (es := [_]) (hS.new _ _) hO 3 i0 (.int .i64 0) 8 Try.underlying57 hi0 hz0 hz1 hz2 rfl rfl 1 (ints .i64 [num + (j : Int)]) (src_one _ _ _ _ _ _ Try.underlying57) (by have := HL.out; simp [ints, maxLen]; omega) (by have := HL.out; simp [ints]; omega) ?_; intro v2 E2 w2 hO2 hS2)
        go_round
        case rel => exact ⟨j + 1, E2, by simp, by omega, by rw [HE2.out, ints_append]; exact hO2, hS2.sub (List.sublist_cons_self _ _)⟩
        case measure => simp [intOf]; omega
      | false =>
        have e2 := HE.out
        rw [hc, if_neg (by decide), List.append_nil] at e2
        have HE2 := Lib.hid e2
        clear e2 HE
        go_wp2_with fail
        go_round
        case rel => exact ⟨j + 1, E, by simp, by omega, HE2.out ▸ hO, hS⟩
        case measure => simp [intOf]; omega
    · have k1' : ¬ ((j : Int) < (k : Int)) := by omega
      obtain rfl : j = k := by omega
      go_wp2_with fail
      go_returns
      obtain ⟨A, c, rfl⟩ := hO.len
      rw [ints_length] at hO ⊢
      exact ⟨A, c, rfl, hO.res (es := []) hS, hS.below⟩
end Go.Proofs.Ytlpoldnidojgmaa
