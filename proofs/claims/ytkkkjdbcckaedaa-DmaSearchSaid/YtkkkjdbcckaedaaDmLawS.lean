/- charabanclaw22.DmaSearch is true whatever the bytes and the byte that is looked for. -/
import Derived.Test.YtkkkjdbcckaedaaDmLawM
import Derived.Test.YtkkkjdbcckaedaaDmSr
namespace Go.Proofs.Ytkkkjdbcckaedaa
open Go.RowKit
set_option linter.unusedVariables false
set_option linter.unusedSimpArgs false
set_option maxRecDepth 100000
theorem M.sr_bytes (x mt : Int) (hx : 1 ≤ x ∧ x ≤ 255) (h0 : 0 ≤ mt) (h1 : mt ≤ 255) : ∀ z ∈ M.srL x mt, 0 ≤ z ∧ z ≤ 255 := by
  intro z hz
  simp only [M.srL, List.mem_cons, List.not_mem_nil, or_false] at hz
  omega
theorem M.sr_fin {L : List Int} {P : M.Dm} {mt : Int} (hb : ∀ x ∈ L, 0 ≤ x ∧ x ≤ 255) (m0 : 0 ≤ mt) (m1 : mt ≤ 255) (c : M.Cs P.p mt) (h : M.Sr P.p (L.length : Int) 0 P) (N : Nat) (fl : Bool) (hN : 0 < N) (hNl : N ≤ L.length)
    (hne : ∀ x, x < N - 1 → L.getD x 0 ≠ mt) (ht : fl = true → L.getD (N - 1) 0 = mt) (hf : fl = false → N = L.length ∧ L.getD (N - 1) 0 ≠ mt) :
    (M.dTakes P (L.take N)).done = true ∧ (M.dTakes P (L.take N)).matched = fl ∧ (M.dTakes P (L.take N)).left = (L.length : Int) - (N : Int) := by
  obtain ⟨k, rfl⟩ : ∃ k, N = k + 1 := ⟨N - 1, by omega⟩
  simp only [Nat.add_sub_cancel] at hne ht hf
  have g := M.sr_state hb m0 m1 c h k (by omega) hne
  have hv := hb _ (getD_mem (show k < L.length by omega))
  rw [M.dTakes_next P (L := L) (by omega)]
  cases fl with
  | true =>
    rw [ht rfl]
    have r := g.hit c (by omega)
    exact ⟨r.1, r.2.1, by rw [r.2.2]; omega⟩
  | false =>
    obtain ⟨e1, e2⟩ := hf rfl
    have r := g.end_ c hv.1 hv.2 m0 m1 e2 (by omega)
    exact ⟨r.1, r.2.1, by rw [r.2.2]; omega⟩
set_option maxHeartbeats 16000000 in
theorem dmsearch_true (A2 : Option Addr) (n2 c2 : Nat) (L2 : List Int) (mt : Int) (m0 : 0 ≤ mt) (m1 : mt ≤ 255) (w : World) (hn2 : L2.length = n2) (hm2 : n2 ≤ maxLen) (r2 : Ls 0 w (.slice A2 n2 c2) (ints .u8 L2)) (hb2 : ∀ x ∈ L2, 0 ≤ x ∧ x ≤ 255) :
    Calls Try.prog 3 #[.slice A2 n2 c2, .int .u8 mt] w fun e w' => e = .returned (.bool true) ∧ Below w.heap.size w w' := by
  subst hn2
  clear hm2
  have hS := St.start w.heap.size 0 0 w
  by_cases g1 : L2.length < 1
  · have t1 : decide ((L2.length : Int) < 1) = true := decide_eq_true (by omega)
    clear r2
    go_enter Try.func3, Try.ntmps3
    go_wp2_with (first
  | ((with_reducible first | refine to_load 3 rfl ?_ | refine to_load 4 rfl ?_ | refine to_load 5 rfl ?_ | refine to_load 24 rfl ?_ | refine to_load 25 rfl ?_); refine Wl_load1 hS (fun _ => by rfl) _ _ rfl (scT _ rfl) ?_; (repeat (first | refine Look.here (of_decide_eq_true rfl) rfl ?_ | refine Look.next ?_)); (with_reducible show wpList _ _ _ _ _ _); simp only [nA])
  | ((with_reducible refine to_bsl ?_); refine Wl_bslV hS (M.srL (L2.length : Int) mt) (by decide) (by kernel_rfl) ?_; clear hS; intro b7 wW hge7 hS; simp only [nA])
  | ((with_reducible refine to_alloc 29 rfl ?_); refine Wl_alloc hS (fun _ => by rfl) _ dmZ ?_; clear hS; intro bD wW hS; simp only [nA])
  | ((with_reducible refine to_alloc 32 rfl ?_); refine Wl_alloc hS (fun _ => by rfl) _ cyZ ?_; clear hS; intro bC wW hS; simp only [nA])
  | ((with_reducible refine to_load 29 rfl ?_); refine Wl_load hS (fun _ => by rfl) _ _ rfl _ Try.underlying29 rfl ?_; (repeat (first | (refine Row.here ⟨(dmI.trans rfl), ?_⟩) | refine Row.next ?_)); (with_reducible show wpList _ _ _ _ _ _); simp only [nA])
  | ((with_reducible refine to_store 29 rfl ?_); refine Wl_store hS (fun _ => by rfl) _ _ _ rfl rfl (dmI.trans rfl) (dm_one _ _ _ _) ?_; (repeat (first | refine Turn.here rfl ?_ | refine Turn.next ?_)); clear hS; intro wW hS; try simp only [nA])
  | ((with_reducible refine to_store 32 rfl ?_); refine Wl_store hS (fun _ => by rfl) _ _ _ rfl rfl (cyI.trans rfl) (by simp [Value.oneCell']) ?_; (repeat (first | refine Turn.here rfl ?_ | refine Turn.next ?_)); clear hS; intro wW hS; try simp only [nA]))
    refine (dmawake_any _).mono ?_
    rintro e w1 ⟨rfl, hb⟩
    replace hS := hS.call hb
    clear hb
    go_wp2_with (first
  | ((with_reducible first | refine to_load 3 rfl ?_ | refine to_load 4 rfl ?_ | refine to_load 5 rfl ?_ | refine to_load 24 rfl ?_ | refine to_load 25 rfl ?_); refine Wl_load1 hS (fun _ => by rfl) _ _ rfl (scT _ rfl) ?_; (repeat (first | refine Look.here (of_decide_eq_true rfl) rfl ?_ | refine Look.next ?_)); (with_reducible show wpList _ _ _ _ _ _); simp only [nA])
  | ((with_reducible refine to_bsl ?_); refine Wl_bslV hS (M.srL (L2.length : Int) mt) (by decide) (by kernel_rfl) ?_; clear hS; intro b7 wW hge7 hS; simp only [nA])
  | ((with_reducible refine to_alloc 29 rfl ?_); refine Wl_alloc hS (fun _ => by rfl) _ dmZ ?_; clear hS; intro bD wW hS; simp only [nA])
  | ((with_reducible refine to_alloc 32 rfl ?_); refine Wl_alloc hS (fun _ => by rfl) _ cyZ ?_; clear hS; intro bC wW hS; simp only [nA])
  | ((with_reducible refine to_load 29 rfl ?_); refine Wl_load hS (fun _ => by rfl) _ _ rfl _ Try.underlying29 rfl ?_; (repeat (first | (refine Row.here ⟨(dmI.trans rfl), ?_⟩) | refine Row.next ?_)); (with_reducible show wpList _ _ _ _ _ _); simp only [nA])
  | ((with_reducible refine to_store 29 rfl ?_); refine Wl_store hS (fun _ => by rfl) _ _ _ rfl rfl (dmI.trans rfl) (dm_one _ _ _ _) ?_; (repeat (first | refine Turn.here rfl ?_ | refine Turn.next ?_)); clear hS; intro wW hS; try simp only [nA])
  | ((with_reducible refine to_store 32 rfl ?_); refine Wl_store hS (fun _ => by rfl) _ _ _ rfl rfl (cyI.trans rfl) (by simp [Value.oneCell']) ?_; (repeat (first | refine Turn.here rfl ?_ | refine Turn.next ?_)); clear hS; intro wW hS; try simp only [nA]))
    go_returns
    exact ⟨rfl, hS.below⟩
  · have t1 : decide ((L2.length : Int) < 1) = false := decide_eq_false (by omega)
    by_cases g2 : 60 < L2.length
    · have t2 : decide ((60 : Int) < (L2.length : Int)) = true := decide_eq_true (by omega)
      clear r2
      go_enter Try.func3, Try.ntmps3
      go_wp2_with (first
  | ((with_reducible first | refine to_load 3 rfl ?_ | refine to_load 4 rfl ?_ | refine to_load 5 rfl ?_ | refine to_load 24 rfl ?_ | refine to_load 25 rfl ?_); refine Wl_load1 hS (fun _ => by rfl) _ _ rfl (scT _ rfl) ?_; (repeat (first | refine Look.here (of_decide_eq_true rfl) rfl ?_ | refine Look.next ?_)); (with_reducible show wpList _ _ _ _ _ _); simp only [nA])
  | ((with_reducible refine to_bsl ?_); refine Wl_bslV hS (M.srL (L2.length : Int) mt) (by decide) (by kernel_rfl) ?_; clear hS; intro b7 wW hge7 hS; simp only [nA])
  | ((with_reducible refine to_alloc 29 rfl ?_); refine Wl_alloc hS (fun _ => by rfl) _ dmZ ?_; clear hS; intro bD wW hS; simp only [nA])
  | ((with_reducible refine to_alloc 32 rfl ?_); refine Wl_alloc hS (fun _ => by rfl) _ cyZ ?_; clear hS; intro bC wW hS; simp only [nA])
  | ((with_reducible refine to_load 29 rfl ?_); refine Wl_load hS (fun _ => by rfl) _ _ rfl _ Try.underlying29 rfl ?_; (repeat (first | (refine Row.here ⟨(dmI.trans rfl), ?_⟩) | refine Row.next ?_)); (with_reducible show wpList _ _ _ _ _ _); simp only [nA])
  | ((with_reducible refine to_store 29 rfl ?_); refine Wl_store hS (fun _ => by rfl) _ _ _ rfl rfl (dmI.trans rfl) (dm_one _ _ _ _) ?_; (repeat (first | refine Turn.here rfl ?_ | refine Turn.next ?_)); clear hS; intro wW hS; try simp only [nA])
  | ((with_reducible refine to_store 32 rfl ?_); refine Wl_store hS (fun _ => by rfl) _ _ _ rfl rfl (cyI.trans rfl) (by simp [Value.oneCell']) ?_; (repeat (first | refine Turn.here rfl ?_ | refine Turn.next ?_)); clear hS; intro wW hS; try simp only [nA]))
      refine (dmawake_any _).mono ?_
      rintro e w1 ⟨rfl, hb⟩
      replace hS := hS.call hb
      clear hb
      go_wp2_with (first
  | ((with_reducible first | refine to_load 3 rfl ?_ | refine to_load 4 rfl ?_ | refine to_load 5 rfl ?_ | refine to_load 24 rfl ?_ | refine to_load 25 rfl ?_); refine Wl_load1 hS (fun _ => by rfl) _ _ rfl (scT _ rfl) ?_; (repeat (first | refine Look.here (of_decide_eq_true rfl) rfl ?_ | refine Look.next ?_)); (with_reducible show wpList _ _ _ _ _ _); simp only [nA])
  | ((with_reducible refine to_bsl ?_); refine Wl_bslV hS (M.srL (L2.length : Int) mt) (by decide) (by kernel_rfl) ?_; clear hS; intro b7 wW hge7 hS; simp only [nA])
  | ((with_reducible refine to_alloc 29 rfl ?_); refine Wl_alloc hS (fun _ => by rfl) _ dmZ ?_; clear hS; intro bD wW hS; simp only [nA])
  | ((with_reducible refine to_alloc 32 rfl ?_); refine Wl_alloc hS (fun _ => by rfl) _ cyZ ?_; clear hS; intro bC wW hS; simp only [nA])
  | ((with_reducible refine to_load 29 rfl ?_); refine Wl_load hS (fun _ => by rfl) _ _ rfl _ Try.underlying29 rfl ?_; (repeat (first | (refine Row.here ⟨(dmI.trans rfl), ?_⟩) | refine Row.next ?_)); (with_reducible show wpList _ _ _ _ _ _); simp only [nA])
  | ((with_reducible refine to_store 29 rfl ?_); refine Wl_store hS (fun _ => by rfl) _ _ _ rfl rfl (dmI.trans rfl) (dm_one _ _ _ _) ?_; (repeat (first | refine Turn.here rfl ?_ | refine Turn.next ?_)); clear hS; intro wW hS; try simp only [nA])
  | ((with_reducible refine to_store 32 rfl ?_); refine Wl_store hS (fun _ => by rfl) _ _ _ rfl rfl (cyI.trans rfl) (by simp [Value.oneCell']) ?_; (repeat (first | refine Turn.here rfl ?_ | refine Turn.next ?_)); clear hS; intro wW hS; try simp only [nA]))
      go_returns
      exact ⟨rfl, hS.below⟩
    · have t2 : decide ((60 : Int) < (L2.length : Int)) = false := decide_eq_false (by omega)
      have hat2 : ∀ i, i < L2.length → ∃ x q, A2 = some ⟨x, q, none⟩ ∧ L2.length ≤ c2 ∧ w.cell? ⟨x, q + i, none⟩ = some (.int .u8 (L2.getD i 0)) := fun i hi => by
        obtain ⟨x1, q1, k1, hs1, _, hk, hc1⟩ := r2.at_ hi
        simp only [Value.slice.injEq] at hs1
        exact ⟨x1, q1, hs1.1, by omega, hc1⟩
      have HA2 := Lib.hid hat2
      clear hat2 r2
      have hlen : (0 : Int) ≤ (L2.length : Int) ∧ (L2.length : Int) ≤ 255 := by omega
      have ewl : IntKind.u8.wrap (L2.length : Int) = (L2.length : Int) := by
        show (L2.length : Int) % 256 = _
        omega
      go_enter Try.func3, Try.ntmps3
      go_wp2_with (first
  | ((with_reducible first | refine to_load 3 rfl ?_ | refine to_load 4 rfl ?_ | refine to_load 5 rfl ?_ | refine to_load 24 rfl ?_ | refine to_load 25 rfl ?_); refine Wl_load1 hS (fun _ => by rfl) _ _ rfl (scT _ rfl) ?_; (repeat (first | refine Look.here (of_decide_eq_true rfl) rfl ?_ | refine Look.next ?_)); (with_reducible show wpList _ _ _ _ _ _); simp only [nA])
  | ((with_reducible refine to_bsl ?_); refine Wl_bslV hS (M.srL (L2.length : Int) mt) (by decide) (by kernel_rfl) ?_; clear hS; intro b7 wW hge7 hS; simp only [nA])
  | ((with_reducible refine to_alloc 29 rfl ?_); refine Wl_alloc hS (fun _ => by rfl) _ dmZ ?_; clear hS; intro bD wW hS; simp only [nA])
  | ((with_reducible refine to_alloc 32 rfl ?_); refine Wl_alloc hS (fun _ => by rfl) _ cyZ ?_; clear hS; intro bC wW hS; simp only [nA])
  | ((with_reducible refine to_load 29 rfl ?_); refine Wl_load hS (fun _ => by rfl) _ _ rfl _ Try.underlying29 rfl ?_; (repeat (first | (refine Row.here ⟨(dmI.trans rfl), ?_⟩) | refine Row.next ?_)); (with_reducible show wpList _ _ _ _ _ _); simp only [nA])
  | ((with_reducible refine to_store 29 rfl ?_); refine Wl_store hS (fun _ => by rfl) _ _ _ rfl rfl (dmI.trans rfl) (dm_one _ _ _ _) ?_; (repeat (first | refine Turn.here rfl ?_ | refine Turn.next ?_)); clear hS; intro wW hS; try simp only [nA])
  | ((with_reducible refine to_store 32 rfl ?_); refine Wl_store hS (fun _ => by rfl) _ _ _ rfl rfl (cyI.trans rfl) (by simp [Value.oneCell']) ?_; (repeat (first | refine Turn.here rfl ?_ | refine Turn.next ?_)); clear hS; intro wW hS; try simp only [nA]))
      refine (dmawake_any _).mono ?_
      rintro e w1 ⟨rfl, hb⟩
      replace hS := hS.call hb
      clear hb
      go_wp2_with (first
  | ((with_reducible first | refine to_load 3 rfl ?_ | refine to_load 4 rfl ?_ | refine to_load 5 rfl ?_ | refine to_load 24 rfl ?_ | refine to_load 25 rfl ?_); refine Wl_load1 hS (fun _ => by rfl) _ _ rfl (scT _ rfl) ?_; (repeat (first | refine Look.here (of_decide_eq_true rfl) rfl ?_ | refine Look.next ?_)); (with_reducible show wpList _ _ _ _ _ _); simp only [nA])
  | ((with_reducible refine to_bsl ?_); refine Wl_bslV hS (M.srL (L2.length : Int) mt) (by decide) (by kernel_rfl) ?_; clear hS; intro b7 wW hge7 hS; simp only [nA])
  | ((with_reducible refine to_alloc 29 rfl ?_); refine Wl_alloc hS (fun _ => by rfl) _ dmZ ?_; clear hS; intro bD wW hS; simp only [nA])
  | ((with_reducible refine to_alloc 32 rfl ?_); refine Wl_alloc hS (fun _ => by rfl) _ cyZ ?_; clear hS; intro bC wW hS; simp only [nA])
  | ((with_reducible refine to_load 29 rfl ?_); refine Wl_load hS (fun _ => by rfl) _ _ rfl _ Try.underlying29 rfl ?_; (repeat (first | (refine Row.here ⟨(dmI.trans rfl), ?_⟩) | refine Row.next ?_)); (with_reducible show wpList _ _ _ _ _ _); simp only [nA])
  | ((with_reducible refine to_store 29 rfl ?_); refine Wl_store hS (fun _ => by rfl) _ _ _ rfl rfl (dmI.trans rfl) (dm_one _ _ _ _) ?_; (repeat (first | refine Turn.here rfl ?_ | refine Turn.next ?_)); clear hS; intro wW hS; try simp only [nA])
  | ((with_reducible refine to_store 32 rfl ?_); refine Wl_store hS (fun _ => by rfl) _ _ _ rfl rfl (cyI.trans rfl) (by simp [Value.oneCell']) ?_; (repeat (first | refine Turn.here rfl ?_ | refine Turn.next ?_)); clear hS; intro wW hS; try simp only [nA]))
      refine (told_any (M.srL (L2.length : Int) mt) (by simp [M.srL]) (M.sr_bytes _ mt (by omega) m0 m1) (some ⟨b7, 0, none⟩) 12 _ (hS.lsOwn (F := 0) (k := .u8) (zs := M.srL (L2.length : Int) mt) (Nat.zero_le _) (.head _) (by simp [M.srL, maxLen]))).mono ?_
      rintro e w1 ⟨A1, c1, rfl, hl, hbl⟩
      replace hS := hS.call hbl
      clear hl hbl
      obtain ⟨hC, hM0, hW0⟩ := M.sr_told (L2.length : Int) mt (by omega)
      have hPok := M.dTold_ok (M.sr_bytes (L2.length : Int) mt (by omega) m0 m1)
      have hPl := M.dTold_left (M.sr_bytes (L2.length : Int) mt (by omega) m0 m1)
      rw [hW0]
      clear hW0
      generalize M.dTold (M.srL (L2.length : Int) mt) = P at hC hM0 hPok hPl ⊢
      go_wp2_with (first
  | ((with_reducible first | refine to_load 3 rfl ?_ | refine to_load 4 rfl ?_ | refine to_load 5 rfl ?_ | refine to_load 24 rfl ?_ | refine to_load 25 rfl ?_); refine Wl_load1 hS (fun _ => by rfl) _ _ rfl (scT _ rfl) ?_; (repeat (first | refine Look.here (of_decide_eq_true rfl) rfl ?_ | refine Look.next ?_)); (with_reducible show wpList _ _ _ _ _ _); simp only [nA])
  | ((with_reducible refine to_bsl ?_); refine Wl_bslV hS (M.srL (L2.length : Int) mt) (by decide) (by kernel_rfl) ?_; clear hS; intro b7 wW hge7 hS; simp only [nA])
  | ((with_reducible refine to_alloc 29 rfl ?_); refine Wl_alloc hS (fun _ => by rfl) _ dmZ ?_; clear hS; intro bD wW hS; simp only [nA])
  | ((with_reducible refine to_alloc 32 rfl ?_); refine Wl_alloc hS (fun _ => by rfl) _ cyZ ?_; clear hS; intro bC wW hS; simp only [nA])
  | ((with_reducible refine to_load 29 rfl ?_); refine Wl_load hS (fun _ => by rfl) _ _ rfl _ Try.underlying29 rfl ?_; (repeat (first | (refine Row.here ⟨(dmI.trans rfl), ?_⟩) | refine Row.next ?_)); (with_reducible show wpList _ _ _ _ _ _); simp only [nA])
  | ((with_reducible refine to_store 29 rfl ?_); refine Wl_store hS (fun _ => by rfl) _ _ _ rfl rfl (dmI.trans rfl) (dm_one _ _ _ _) ?_; (repeat (first | refine Turn.here rfl ?_ | refine Turn.next ?_)); clear hS; intro wW hS; try simp only [nA])
  | ((with_reducible refine to_store 32 rfl ?_); refine Wl_store hS (fun _ => by rfl) _ _ _ rfl rfl (cyI.trans rfl) (by simp [Value.oneCell']) ?_; (repeat (first | refine Turn.here rfl ?_ | refine Turn.next ?_)); clear hS; intro wW hS; try simp only [nA]))
      have HS0 := Lib.hid (show St w.heap.size 0 0 w [⟨bD, 0, true, P.c (.slice A1 0 c1)⟩] wW from (hS.sub (by repeat (first | exact List.Sublist.slnil | exact List.nil_sublist _ | apply List.Sublist.cons_cons | apply List.Sublist.cons))))
      clear hS
      go_loopw [7, 8, 9] (fun n fd i wr => ∃ (j : Nat) (fl : Bool), n = .int .i64 j ∧ fd = .bool fl ∧ i = .int .i64 j ∧ j ≤ L2.length ∧ (∀ x, x < j - 1 → L2.getD x 0 ≠ mt) ∧ (fl = true → 0 < j ∧ L2.getD (j - 1) 0 = mt) ∧ (fl = false → ∀ x, x < j → L2.getD x 0 ≠ mt) ∧ St w.heap.size 0 0 w [⟨bD, 0, true, P.c (.slice A1 0 c1)⟩] wr) (fun _ _ i _ => L2.length - (intOf i).toNat)
      case atStart => exact ⟨0, false, rfl, rfl, rfl, Nat.zero_le _, fun x hx => (by omega), fun h => (by cases h), fun _ x hx => (by omega), HS0.out⟩
      case round =>
        clear HS0
        obtain ⟨j, fl, rfl, rfl, rfl, hj, hq1, hq2, hq3, hS⟩ := hrel
        have k0' : (0 : Int) ≤ (j : Int) := by omega
        by_cases k1 : j < L2.length ∧ fl = false
        · obtain ⟨k1, rfl⟩ := k1
          have k1' : (j : Int) < (L2.length : Int) := by omega
          have k3' : (j : Int) < 2000 := by omega
          obtain ⟨x1, q1, rfl, hkc, hcell⟩ := HA2.out j k1
          have hq4 := hq3 rfl
          have hbv := hb2 _ (getD_mem k1)
          have hrel2 : ∀ (fl2 : Bool) W, (L2.getD j 0 == mt) = fl2 → St w.heap.size 0 0 w [⟨bD, 0, true, P.c (.slice (A1) 0 c1)⟩] W → ∃ (j2 : Nat) (fl : Bool), (Value.int .i64 ((j : Int) + 1)) = .int .i64 j2 ∧ Value.bool fl2 = .bool fl ∧ (Value.int .i64 ((j : Int) + 1)) = .int .i64 j2 ∧ j2 ≤ L2.length ∧ (∀ x, x < j2 - 1 → L2.getD x 0 ≠ mt) ∧ (fl = true → 0 < j2 ∧ L2.getD (j2 - 1) 0 = mt) ∧ (fl = false → ∀ x, x < j2 → L2.getD x 0 ≠ mt) ∧ St w.heap.size 0 0 w [⟨bD, 0, true, P.c (.slice A1 0 c1)⟩] W := by
            intro fl2 W hfl h
            refine ⟨j + 1, fl2, by simp, rfl, by simp, by omega, fun x hx => hq4 x (by omega), fun e => ⟨by omega, ?_⟩, fun e x hx => ?_, h⟩
            · rw [e] at hfl
              simpa using hfl
            · by_cases hxj : x = j
              · rw [e] at hfl
                rw [hxj]
                simpa using hfl
              · exact hq4 x (by omega)
          have HR := Lib.hid hrel2
          clear hrel2 hq1 hq2 hq3 hq4
          replace hS := hS.oneAt hcell
          generalize hv : L2.getD j 0 = v at hS HR
          clear hv hcell hbv
          cases hfl : (v == mt)
          · have hfl' : decide (v = mt) = false := by simpa using hfl
            have HFF := Lib.hid (fun W h => HR.out false W hfl h)
            clear HR
            go_wp2_with (first
  | ((with_reducible first | refine to_load 3 rfl ?_ | refine to_load 4 rfl ?_ | refine to_load 5 rfl ?_ | refine to_load 24 rfl ?_ | refine to_load 25 rfl ?_); refine Wl_load1 hS (fun _ => by rfl) _ _ rfl (scT _ rfl) ?_; (repeat (first | refine Look.here (of_decide_eq_true rfl) rfl ?_ | refine Look.self rfl ?_ | refine Look.next ?_)); (with_reducible show wpList _ _ _ _ _ _); simp only [nA]))
            go_round
            case rel => exact HFF.out _ (hS.sub (by repeat (first | exact List.Sublist.slnil | exact List.nil_sublist _ | apply List.Sublist.cons_cons | apply List.Sublist.cons)))
            case measure => simp [intOf]; omega
          · have hfl' : decide (v = mt) = true := by simpa using hfl
            have HFF := Lib.hid (fun W h => HR.out true W hfl h)
            clear HR
            go_wp2_with (first
  | ((with_reducible first | refine to_load 3 rfl ?_ | refine to_load 4 rfl ?_ | refine to_load 5 rfl ?_ | refine to_load 24 rfl ?_ | refine to_load 25 rfl ?_); refine Wl_load1 hS (fun _ => by rfl) _ _ rfl (scT _ rfl) ?_; (repeat (first | refine Look.here (of_decide_eq_true rfl) rfl ?_ | refine Look.self rfl ?_ | refine Look.next ?_)); (with_reducible show wpList _ _ _ _ _ _); simp only [nA]))
            go_round
            case rel => exact HFF.out _ (hS.sub (by repeat (first | exact List.Sublist.slnil | exact List.nil_sublist _ | apply List.Sublist.cons_cons | apply List.Sublist.cons)))
            case measure => simp [intOf]; omega
        · have hex : (j < L2.length ∧ fl = true) ∨ ¬ j < L2.length := by
            by_cases h : j < L2.length
            · cases fl
              · exact absurd ⟨h, rfl⟩ k1
              · exact .inl ⟨h, rfl⟩
            · exact .inr h
          have hN : 0 < j := by
            rcases hex with ⟨_, h⟩ | h
            · exact (hq2 h).1
            · omega
          have hfin := M.sr_fin hb2 m0 m1 hC hM0 j fl hN hj hq1 (fun e => (hq2 e).2) (fun e => ⟨by
            rcases hex with ⟨_, h⟩ | h
            · rw [e] at h; cases h
            · omega, hq3 e (j - 1) (by omega)⟩)
          have hsr := fun (i : Nat) (hi : i < j) => M.sr_state hb2 m0 m1 hC hM0 i (by omega) (fun x hx => hq1 x (by omega))
          have HSR := Lib.hid hsr
          have HFIN := Lib.hid hfin
          have k3' : (j : Int) < 2000 := by omega
          clear hq1 hq2 hq3 hsr hfin k1
          rcases hex with ⟨k2, rfl⟩ | k2
          all_goals
            first
              | have k2' : (j : Int) < (L2.length : Int) := by omega
              | have k2' : ¬ ((j : Int) < (L2.length : Int)) := by omega
            go_wp2_with (first
  | ((with_reducible first | refine to_load 3 rfl ?_ | refine to_load 4 rfl ?_ | refine to_load 5 rfl ?_ | refine to_load 24 rfl ?_ | refine to_load 25 rfl ?_); refine Wl_load1 hS (fun _ => by rfl) _ _ rfl (scT _ rfl) ?_; (repeat (first | refine Look.here (of_decide_eq_true rfl) rfl ?_ | refine Look.next ?_)); (with_reducible show wpList _ _ _ _ _ _); simp only [nA])
  | ((with_reducible refine to_bsl ?_); refine Wl_bslV hS (M.srL (L2.length : Int) mt) (by decide) (by kernel_rfl) ?_; clear hS; intro b7 wW hge7 hS; simp only [nA])
  | ((with_reducible refine to_alloc 29 rfl ?_); refine Wl_alloc hS (fun _ => by rfl) _ dmZ ?_; clear hS; intro bD wW hS; simp only [nA])
  | ((with_reducible refine to_alloc 32 rfl ?_); refine Wl_alloc hS (fun _ => by rfl) _ cyZ ?_; clear hS; intro bC wW hS; simp only [nA])
  | ((with_reducible refine to_load 29 rfl ?_); refine Wl_load hS (fun _ => by rfl) _ _ rfl _ Try.underlying29 rfl ?_; (repeat (first | (refine Row.here ⟨(dmI.trans rfl), ?_⟩) | refine Row.next ?_)); (with_reducible show wpList _ _ _ _ _ _); simp only [nA])
  | ((with_reducible refine to_store 29 rfl ?_); refine Wl_store hS (fun _ => by rfl) _ _ _ rfl rfl (dmI.trans rfl) (dm_one _ _ _ _) ?_; (repeat (first | refine Turn.here rfl ?_ | refine Turn.next ?_)); clear hS; intro wW hS; try simp only [nA])
  | ((with_reducible refine to_store 32 rfl ?_); refine Wl_store hS (fun _ => by rfl) _ _ _ rfl rfl (cyI.trans rfl) (by simp [Value.oneCell']) ?_; (repeat (first | refine Turn.here rfl ?_ | refine Turn.next ?_)); clear hS; intro wW hS; try simp only [nA]))
            have HS1 := Lib.hid hS
            clear hS
            go_loopw [10] (fun s wr => ∃ i : Nat, s = .int .i64 i ∧ i ≤ j ∧ St w.heap.size 0 0 w [⟨bD, 0, true, (M.dTakes P (L2.take i)).c (.slice A1 0 c1)⟩] wr) (fun s _ => j - (intOf s).toNat)
            case atStart => exact ⟨0, rfl, Nat.zero_le _, HS1.out⟩
            case round =>
              clear HS1
              obtain ⟨i, rfl, hi, hS⟩ := hrel
              have hlt : (L2.take i).length ≤ L2.length := by simp; omega
              have hDk := M.dTakes_ok (L2.take i) P 0 hPok (by omega) (by omega) (by omega) (fun x hx => hb2 x (List.mem_of_mem_take hx))
              have i0' : (0 : Int) ≤ (i : Int) := by omega
              by_cases g : i < j
              · have i1' : (i : Int) < (j : Int) := by omega
                have i2' : i < L2.length := by omega
                have i3' : (i : Int) < (L2.length : Int) := by omega
                have i4' : (i : Int) < 60 := by omega
                have sr := HSR.out i g
                obtain ⟨x1, q1, rfl, hkc, hcell⟩ := HA2.out i i2'
                have hbv := hb2 _ (getD_mem i2')
                have e1 := M.dTakes_next P i2'
                have hll : -9223372036854775807 ≤ (M.dTakes P (L2.take i)).left := by have := hDk.2; omega
                have ht := fun W => dmtake_any (M.dTakes P (L2.take i)) hDk.1 hll A1 0 c1 (L2.getD i 0) hbv.1 hbv.2 W
                have hn := fun W => dnext_any (M.dTakes P (L2.take i)) hDk.1 A1 0 c1 W
                have hx := sr.next hC
                rw [show (4096 + (i : Int)) % 65536 = 4096 + (i : Int) by omega] at hx
                rw [hx] at hn
                have ew4 : IntKind.u16.wrap (i : Int) = (i : Int) := by
                  show (i : Int) % 65536 = _
                  omega
                have ew5 : IntKind.u16.wrap (4096 + (i : Int)) = 4096 + (i : Int) := by
                  show (4096 + (i : Int)) % 65536 = _
                  omega
                have d1 := sr.done
                have d2 := sr.held
                have hrel2 : ∀ W, St w.heap.size 0 0 w [⟨bD, 0, true, (M.dTake (M.dTakes P (L2.take i)) (L2.getD i 0)).c (.slice A1 0 c1)⟩] W → ∃ i2 : Nat, (Value.int .i64 ((i : Int) + 1)) = .int .i64 i2 ∧ i2 ≤ j ∧ St w.heap.size 0 0 w [⟨bD, 0, true, (M.dTakes P (L2.take i2)).c (.slice A1 0 c1)⟩] W := fun W h => ⟨i + 1, by simp, by omega, by rw [e1]; exact h⟩
                have HR := Lib.hid hrel2
                replace hS := hS.oneAt hcell
                clear e1 hrel2 hcell hbv hDk hll hlt hx sr
                generalize L2.getD i 0 = v at ht HR hS
                generalize M.dTake (M.dTakes P (L2.take i)) v = R at ht HR
                generalize M.dTakes P (L2.take i) = D at ht hn hS d1 d2
                have eD : D = { D with done := false, held := false } := by
                  cases D
                  simp only at d1 d2
                  subst d1 d2
                  rfl
                rw [eD] at ht hn hS
                clear eD d1 d2
                have HT := Lib.hid ht
                have HN := Lib.hid hn
                clear ht hn
                go_wp2_with (first
  | ((with_reducible first | refine to_load 3 rfl ?_ | refine to_load 4 rfl ?_ | refine to_load 5 rfl ?_ | refine to_load 24 rfl ?_ | refine to_load 25 rfl ?_); refine Wl_load1 hS (fun _ => by rfl) _ _ rfl (scT _ rfl) ?_; (repeat (first | refine Look.here (of_decide_eq_true rfl) rfl ?_ | refine Look.next ?_)); (with_reducible show wpList _ _ _ _ _ _); simp only [nA])
  | ((with_reducible refine to_bsl ?_); refine Wl_bslV hS (M.srL (L2.length : Int) mt) (by decide) (by kernel_rfl) ?_; clear hS; intro b7 wW hge7 hS; simp only [nA])
  | ((with_reducible refine to_alloc 29 rfl ?_); refine Wl_alloc hS (fun _ => by rfl) _ dmZ ?_; clear hS; intro bD wW hS; simp only [nA])
  | ((with_reducible refine to_alloc 32 rfl ?_); refine Wl_alloc hS (fun _ => by rfl) _ cyZ ?_; clear hS; intro bC wW hS; simp only [nA])
  | ((with_reducible refine to_load 29 rfl ?_); refine Wl_load hS (fun _ => by rfl) _ _ rfl _ Try.underlying29 rfl ?_; (repeat (first | (refine Row.here ⟨(dmI.trans rfl), ?_⟩) | refine Row.next ?_)); (with_reducible show wpList _ _ _ _ _ _); simp only [nA])
  | ((with_reducible refine to_store 29 rfl ?_); refine Wl_store hS (fun _ => by rfl) _ _ _ rfl rfl (dmI.trans rfl) (dm_one _ _ _ _) ?_; (repeat (first | refine Turn.here rfl ?_ | refine Turn.next ?_)); clear hS; intro wW hS; try simp only [nA])
  | ((with_reducible refine to_store 32 rfl ?_); refine Wl_store hS (fun _ => by rfl) _ _ _ rfl rfl (cyI.trans rfl) (by simp [Value.oneCell']) ?_; (repeat (first | refine Turn.here rfl ?_ | refine Turn.next ?_)); clear hS; intro wW hS; try simp only [nA]))
                refine (HN.out _).mono ?_
                rintro e w1 ⟨rfl, hb⟩
                replace hS := hS.call hb
                clear hb
                go_wp2_with (first
  | ((with_reducible first | refine to_load 3 rfl ?_ | refine to_load 4 rfl ?_ | refine to_load 5 rfl ?_ | refine to_load 24 rfl ?_ | refine to_load 25 rfl ?_); refine Wl_load1 hS (fun _ => by rfl) _ _ rfl (scT _ rfl) ?_; (repeat (first | refine Look.here (of_decide_eq_true rfl) rfl ?_ | refine Look.next ?_)); (with_reducible show wpList _ _ _ _ _ _); simp only [nA])
  | ((with_reducible refine to_bsl ?_); refine Wl_bslV hS (M.srL (L2.length : Int) mt) (by decide) (by kernel_rfl) ?_; clear hS; intro b7 wW hge7 hS; simp only [nA])
  | ((with_reducible refine to_alloc 29 rfl ?_); refine Wl_alloc hS (fun _ => by rfl) _ dmZ ?_; clear hS; intro bD wW hS; simp only [nA])
  | ((with_reducible refine to_alloc 32 rfl ?_); refine Wl_alloc hS (fun _ => by rfl) _ cyZ ?_; clear hS; intro bC wW hS; simp only [nA])
  | ((with_reducible refine to_load 29 rfl ?_); refine Wl_load hS (fun _ => by rfl) _ _ rfl _ Try.underlying29 rfl ?_; (repeat (first | (refine Row.here ⟨(dmI.trans rfl), ?_⟩) | refine Row.next ?_)); (with_reducible show wpList _ _ _ _ _ _); simp only [nA])
  | ((with_reducible refine to_store 29 rfl ?_); refine Wl_store hS (fun _ => by rfl) _ _ _ rfl rfl (dmI.trans rfl) (dm_one _ _ _ _) ?_; (repeat (first | refine Turn.here rfl ?_ | refine Turn.next ?_)); clear hS; intro wW hS; try simp only [nA])
  | ((with_reducible refine to_store 32 rfl ?_); refine Wl_store hS (fun _ => by rfl) _ _ _ rfl rfl (cyI.trans rfl) (by simp [Value.oneCell']) ?_; (repeat (first | refine Turn.here rfl ?_ | refine Turn.next ?_)); clear hS; intro wW hS; try simp only [nA]))
                refine wp_region_held_drew (S := fun W => St w.heap.size 0 0 w [⟨x1, q1 + i, false, #[.int .u8 v]⟩] W) (by kernel_rfl) (hS.drew.sub (by repeat (first | exact List.Sublist.slnil | exact List.nil_sublist _ | apply List.Sublist.cons_cons | apply List.Sublist.cons))) ?_
                intro _
                replace hS := hS.drew
                generalize World.drew _ = wX at hS ⊢
                refine wpAnyH_take (i := 1) (v := ?_) rfl (by kernel_rfl) (by kernel_rfl) (by kernel_rfl) (fun _ _ _ h => h) (Or.inl ⟨by rfl, ?_⟩) (hS.sub (by repeat (first | exact List.Sublist.slnil | exact List.nil_sublist _ | apply List.Sublist.cons_cons | apply List.Sublist.cons))) ?_
                rotate_left 1
                · intro W hW
                  clear hW
                  go_simp
                  all_goals with_reducible rfl
                try simp only [nR]
                refine wpAnyH_take (i := 2) (v := ?_) rfl (by kernel_rfl) (by kernel_rfl) (by kernel_rfl) (fun _ _ _ h => h) (Or.inl ⟨by rfl, ?_⟩) (hS.sub (by repeat (first | exact List.Sublist.slnil | exact List.nil_sublist _ | apply List.Sublist.cons_cons | apply List.Sublist.cons))) ?_
                rotate_left 1
                · intro W hW
                  clear hW
                  go_simp
                  all_goals with_reducible rfl
                try simp only [nR]
                refine wpAnyH_take (i := 3) (v := ?_) rfl (by kernel_rfl) (by kernel_rfl) (by kernel_rfl) (fun _ _ _ h => h) (Or.inl ⟨by rfl, ?_⟩) (hS.sub (by repeat (first | exact List.Sublist.slnil | exact List.nil_sublist _ | apply List.Sublist.cons_cons | apply List.Sublist.cons))) ?_
                rotate_left 1
                · intro W hW
                  clear hW
                  go_simp
                  all_goals with_reducible rfl
                try simp only [nR]
                refine wpAnyH_take (i := 4) rfl (by kernel_rfl) (by kernel_rfl) (by kernel_rfl) (fun _ _ _ h => h) (yields_one (by rfl) _ _ rfl _ _ rfl sc5 _ (fun W hW => hW.cell (j := 0) (.head _) rfl)) (hS.sub (by repeat (first | exact List.Sublist.slnil | exact List.nil_sublist _ | apply List.Sublist.cons_cons | apply List.Sublist.cons))) ?_
                try simp only [nR]
                refine wpAnyH_ready (rs := [0]) (by kernel_rfl) (by simp) (AllReadyH.cons rfl ?_ AllReadyH.nil)
                intro K1 hK1
                rw [if_pos (by rfl)]
                try simp only [nR]
                refine wp_load_st hS _ _ rfl _ _ rfl _ Try.underlying29 rfl ?_
                repeat (first | (refine Row.here ⟨dmI.trans rfl, ?_⟩) | refine Row.next ?_)
                refine hK1.out _ _ (hS.sub (by repeat (first | exact List.Sublist.slnil | exact List.nil_sublist _ | apply List.Sublist.cons_cons | apply List.Sublist.cons))) (fun _ => ?_)
                clear hK1
                try simp only [nR]
                refine wpAnyH_ready (rs := [5]) (by kernel_rfl) (by simp) (AllReadyH.cons rfl ?_ AllReadyH.nil)
                intro K1 hK1
                rw [if_pos (by rfl)]
                try simp only [nR]
                go_simp
                refine (HT.out _).mono ?_
                rintro e1 v2 ⟨rfl, hb⟩
                replace hS := hS.call hb
                clear hb
                refine hK1.out _ _ (hS.sub (by repeat (first | exact List.Sublist.slnil | exact List.nil_sublist _ | apply List.Sublist.cons_cons | apply List.Sublist.cons))) (fun _ => ?_)
                clear hK1
                try simp only [nR]
                refine wpAnyH_ready (rs := [6]) (by kernel_rfl) (by simp) (AllReadyH.cons rfl ?_ AllReadyH.nil)
                intro K1 hK1
                rw [if_pos (by rfl)]
                try simp only [nR]
                refine wp_store_st hS _ _ _ rfl _ _ _ rfl rfl (dmI.trans rfl) (dm_one _ _ _ _) ?_
                repeat (first | refine Turn.here rfl ?_ | refine Turn.next ?_)
                clear hS
                intro wW hS
                refine hK1.out _ _ (hS.sub (by repeat (first | exact List.Sublist.slnil | exact List.nil_sublist _ | apply List.Sublist.cons_cons | apply List.Sublist.cons))) (fun _ => ?_)
                clear hK1
                try simp only [nR]
                refine wpAnyH_done (by kernel_rfl) ?_ _
                go_wp2_with fail
                go_round
                case rel => exact HR.out _ (hS.sub (by repeat (first | exact List.Sublist.slnil | exact List.nil_sublist _ | apply List.Sublist.cons_cons | apply List.Sublist.cons)))
                case measure => simp [intOf]; omega
              · have i1' : ¬ ((i : Int) < (j : Int)) := by omega
                obtain rfl : i = j := by omega
                obtain ⟨f1, f2, f3⟩ := HFIN.out
                have hwa := fun W => dwants_any (M.dTakes P (L2.take i)) A1 0 c1 false W
                rw [show M.dWants (M.dTakes P (L2.take i)) false = false by simp [M.dWants, M.dOpen, f1]] at hwa
                generalize M.dTakes P (L2.take i) = D at hwa hS f1 f2 f3
                obtain ⟨dp, da, db, dl, dh, dho, dfo, ddn, dm, dr, dpe, dask⟩ := D
                obtain rfl : ddn = true := f1
                obtain rfl : dl = (L2.length : Int) - (i : Int) := f3
                first
                  | obtain rfl : dm = fl := f2
                  | obtain rfl : dm = true := f2
                clear HFIN hDk
                have HWA := Lib.hid hwa
                clear hwa
                go_wp2_with (first
  | ((with_reducible first | refine to_load 3 rfl ?_ | refine to_load 4 rfl ?_ | refine to_load 5 rfl ?_ | refine to_load 24 rfl ?_ | refine to_load 25 rfl ?_); refine Wl_load1 hS (fun _ => by rfl) _ _ rfl (scT _ rfl) ?_; (repeat (first | refine Look.here (of_decide_eq_true rfl) rfl ?_ | refine Look.next ?_)); (with_reducible show wpList _ _ _ _ _ _); simp only [nA])
  | ((with_reducible refine to_bsl ?_); refine Wl_bslV hS (M.srL (L2.length : Int) mt) (by decide) (by kernel_rfl) ?_; clear hS; intro b7 wW hge7 hS; simp only [nA])
  | ((with_reducible refine to_alloc 29 rfl ?_); refine Wl_alloc hS (fun _ => by rfl) _ dmZ ?_; clear hS; intro bD wW hS; simp only [nA])
  | ((with_reducible refine to_alloc 32 rfl ?_); refine Wl_alloc hS (fun _ => by rfl) _ cyZ ?_; clear hS; intro bC wW hS; simp only [nA])
  | ((with_reducible refine to_load 29 rfl ?_); refine Wl_load hS (fun _ => by rfl) _ _ rfl _ Try.underlying29 rfl ?_; (repeat (first | (refine Row.here ⟨(dmI.trans rfl), ?_⟩) | refine Row.next ?_)); (with_reducible show wpList _ _ _ _ _ _); simp only [nA])
  | ((with_reducible refine to_store 29 rfl ?_); refine Wl_store hS (fun _ => by rfl) _ _ _ rfl rfl (dmI.trans rfl) (dm_one _ _ _ _) ?_; (repeat (first | refine Turn.here rfl ?_ | refine Turn.next ?_)); clear hS; intro wW hS; try simp only [nA])
  | ((with_reducible refine to_store 32 rfl ?_); refine Wl_store hS (fun _ => by rfl) _ _ _ rfl rfl (cyI.trans rfl) (by simp [Value.oneCell']) ?_; (repeat (first | refine Turn.here rfl ?_ | refine Turn.next ?_)); clear hS; intro wW hS; try simp only [nA]))
                refine (HWA.out _).mono ?_
                rintro e w1 ⟨rfl, hb⟩
                replace hS := hS.call hb
                clear hb
                go_wp2_with (first
  | ((with_reducible first | refine to_load 3 rfl ?_ | refine to_load 4 rfl ?_ | refine to_load 5 rfl ?_ | refine to_load 24 rfl ?_ | refine to_load 25 rfl ?_); refine Wl_load1 hS (fun _ => by rfl) _ _ rfl (scT _ rfl) ?_; (repeat (first | refine Look.here (of_decide_eq_true rfl) rfl ?_ | refine Look.next ?_)); (with_reducible show wpList _ _ _ _ _ _); simp only [nA])
  | ((with_reducible refine to_bsl ?_); refine Wl_bslV hS (M.srL (L2.length : Int) mt) (by decide) (by kernel_rfl) ?_; clear hS; intro b7 wW hge7 hS; simp only [nA])
  | ((with_reducible refine to_alloc 29 rfl ?_); refine Wl_alloc hS (fun _ => by rfl) _ dmZ ?_; clear hS; intro bD wW hS; simp only [nA])
  | ((with_reducible refine to_alloc 32 rfl ?_); refine Wl_alloc hS (fun _ => by rfl) _ cyZ ?_; clear hS; intro bC wW hS; simp only [nA])
  | ((with_reducible refine to_load 29 rfl ?_); refine Wl_load hS (fun _ => by rfl) _ _ rfl _ Try.underlying29 rfl ?_; (repeat (first | (refine Row.here ⟨(dmI.trans rfl), ?_⟩) | refine Row.next ?_)); (with_reducible show wpList _ _ _ _ _ _); simp only [nA])
  | ((with_reducible refine to_store 29 rfl ?_); refine Wl_store hS (fun _ => by rfl) _ _ _ rfl rfl (dmI.trans rfl) (dm_one _ _ _ _) ?_; (repeat (first | refine Turn.here rfl ?_ | refine Turn.next ?_)); clear hS; intro wW hS; try simp only [nA])
  | ((with_reducible refine to_store 32 rfl ?_); refine Wl_store hS (fun _ => by rfl) _ _ _ rfl rfl (cyI.trans rfl) (by simp [Value.oneCell']) ?_; (repeat (first | refine Turn.here rfl ?_ | refine Turn.next ?_)); clear hS; intro wW hS; try simp only [nA]))
                go_returns
                exact ⟨rfl, hS.below⟩
end Go.Proofs.Ytkkkjdbcckaedaa
