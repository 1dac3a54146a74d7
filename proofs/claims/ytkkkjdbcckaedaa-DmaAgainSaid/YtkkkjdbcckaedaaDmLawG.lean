/- charabanclaw22.DmaAgain is true whatever the address, the number and the bytes. -/
import Derived.Test.YtkkkjdbcckaedaaDmLawM
namespace Go.Proofs.Ytkkkjdbcckaedaa
open Go.RowKit
set_option linter.unusedVariables false
set_option linter.unusedSimpArgs false
set_option maxRecDepth 100000
theorem M.ag_bytes (f0 f1 x : Int) (h0 : 0 ≤ f0 ∧ f0 ≤ 255) (h1 : 0 ≤ f1 ∧ f1 ≤ 255) (hx : 1 ≤ x ∧ x ≤ 255) : ∀ z ∈ M.agL f0 f1 x, 0 ≤ z ∧ z ≤ 255 := by
  intro z hz
  simp only [M.agL, List.mem_cons, List.not_mem_nil, or_false] at hz
  omega
set_option maxHeartbeats 16000000 in
theorem dmagain_true (f : Int) (g0 : 0 ≤ f) (g1 : f ≤ 65535) (n : Int) (n0 : 0 ≤ n) (n1 : n ≤ 255) (A2 : Option Addr) (n2 c2 : Nat) (L2 : List Int) (w : World) (hn2 : L2.length = n2) (hm2 : n2 ≤ maxLen) (r2 : Ls 0 w (.slice A2 n2 c2) (ints .u8 L2)) (hb2 : ∀ x ∈ L2, 0 ≤ x ∧ x ≤ 255) :
    Calls Try.prog 4 #[.int .u16 f, .int .u8 n, .slice A2 n2 c2] w fun e w' => e = .returned (.bool true) ∧ Below w.heap.size w w' := by
  subst hn2
  clear hm2
  have hS := St.start w.heap.size 0 0 w
  by_cases g2 : 100 < L2.length
  · have t1 : decide ((100 : Int) < (L2.length : Int)) = true := decide_eq_true (by omega)
    clear r2
    go_enter Try.func4, Try.ntmps4
    go_wp2_with (first
  | ((with_reducible first | refine to_load 3 rfl ?_ | refine to_load 4 rfl ?_ | refine to_load 5 rfl ?_ | refine to_load 24 rfl ?_ | refine to_load 25 rfl ?_); refine Wl_load1 hS (fun _ => by rfl) _ _ rfl (scT _ rfl) ?_; (repeat (first | refine Look.here (of_decide_eq_true rfl) rfl ?_ | refine Look.next ?_)); (with_reducible show wpList _ _ _ _ _ _); simp only [nA])
  | ((with_reducible refine to_bsl ?_); refine Wl_bslV hS (M.agL lo hi (Mm + 1)) (by decide) (by kernel_rfl) ?_; clear hS; intro b7 wW hge7 hS; simp only [nA])
  | ((with_reducible refine to_alloc 29 rfl ?_); refine Wl_alloc hS (fun _ => by rfl) _ dmZ ?_; clear hS; intro bD wW hS; simp only [nA])
  | ((with_reducible refine to_alloc 32 rfl ?_); refine Wl_alloc hS (fun _ => by rfl) _ cyZ ?_; clear hS; intro bC wW hS; simp only [nA])
  | ((with_reducible refine to_load 29 rfl ?_); refine Wl_load hS (fun _ => by rfl) _ _ rfl _ Try.underlying29 rfl ?_; (repeat (first | (refine Row.here ⟨(dmI.trans rfl), ?_⟩) | refine Row.next ?_)); (with_reducible show wpList _ _ _ _ _ _); simp only [nA])
  | ((with_reducible refine to_load 32 rfl ?_); refine Wl_load hS (fun _ => by rfl) _ _ rfl _ Try.underlying32 rfl ?_; (repeat (first | (refine Row.here ⟨(cyI.trans rfl), ?_⟩) | refine Row.next ?_)); (with_reducible show wpList _ _ _ _ _ _); simp only [nA])
  | ((with_reducible refine to_store 29 rfl ?_); refine Wl_store hS (fun _ => by rfl) _ _ _ rfl rfl (dmI.trans rfl) (dm_one _ _ _ _) ?_; (repeat (first | refine Turn.here rfl ?_ | refine Turn.next ?_)); clear hS; intro wW hS; try simp only [nA])
  | ((with_reducible refine to_store 32 rfl ?_); refine Wl_store hS (fun _ => by rfl) _ _ _ rfl rfl (cyI.trans rfl) (by simp [Value.oneCell']) ?_; (repeat (first | refine Turn.here rfl ?_ | refine Turn.next ?_)); clear hS; intro wW hS; try simp only [nA]))
    refine (dmawake_any _).mono ?_
    rintro e w1 ⟨rfl, hb⟩
    replace hS := hS.call hb
    clear hb
    go_wp2_with (first
  | ((with_reducible first | refine to_load 3 rfl ?_ | refine to_load 4 rfl ?_ | refine to_load 5 rfl ?_ | refine to_load 24 rfl ?_ | refine to_load 25 rfl ?_); refine Wl_load1 hS (fun _ => by rfl) _ _ rfl (scT _ rfl) ?_; (repeat (first | refine Look.here (of_decide_eq_true rfl) rfl ?_ | refine Look.next ?_)); (with_reducible show wpList _ _ _ _ _ _); simp only [nA])
  | ((with_reducible refine to_bsl ?_); refine Wl_bslV hS (M.agL lo hi (Mm + 1)) (by decide) (by kernel_rfl) ?_; clear hS; intro b7 wW hge7 hS; simp only [nA])
  | ((with_reducible refine to_alloc 29 rfl ?_); refine Wl_alloc hS (fun _ => by rfl) _ dmZ ?_; clear hS; intro bD wW hS; simp only [nA])
  | ((with_reducible refine to_alloc 32 rfl ?_); refine Wl_alloc hS (fun _ => by rfl) _ cyZ ?_; clear hS; intro bC wW hS; simp only [nA])
  | ((with_reducible refine to_load 29 rfl ?_); refine Wl_load hS (fun _ => by rfl) _ _ rfl _ Try.underlying29 rfl ?_; (repeat (first | (refine Row.here ⟨(dmI.trans rfl), ?_⟩) | refine Row.next ?_)); (with_reducible show wpList _ _ _ _ _ _); simp only [nA])
  | ((with_reducible refine to_load 32 rfl ?_); refine Wl_load hS (fun _ => by rfl) _ _ rfl _ Try.underlying32 rfl ?_; (repeat (first | (refine Row.here ⟨(cyI.trans rfl), ?_⟩) | refine Row.next ?_)); (with_reducible show wpList _ _ _ _ _ _); simp only [nA])
  | ((with_reducible refine to_store 29 rfl ?_); refine Wl_store hS (fun _ => by rfl) _ _ _ rfl rfl (dmI.trans rfl) (dm_one _ _ _ _) ?_; (repeat (first | refine Turn.here rfl ?_ | refine Turn.next ?_)); clear hS; intro wW hS; try simp only [nA])
  | ((with_reducible refine to_store 32 rfl ?_); refine Wl_store hS (fun _ => by rfl) _ _ _ rfl rfl (cyI.trans rfl) (by simp [Value.oneCell']) ?_; (repeat (first | refine Turn.here rfl ?_ | refine Turn.next ?_)); clear hS; intro wW hS; try simp only [nA]))
    go_returns
    exact ⟨rfl, hS.below⟩
  · have t1 : decide ((100 : Int) < (L2.length : Int)) = false := decide_eq_false (by omega)
    have hat2 : ∀ i, i < L2.length → ∃ x q, A2 = some ⟨x, q, none⟩ ∧ L2.length ≤ c2 ∧ w.cell? ⟨x, q + i, none⟩ = some (.int .u8 (L2.getD i 0)) := fun i hi => by
      obtain ⟨x1, q1, k1, hs1, _, hk, hc1⟩ := r2.at_ hi
      simp only [Value.slice.injEq] at hs1
      exact ⟨x1, q1, hs1.1, by omega, hc1⟩
    have HA2 := Lib.hid hat2
    clear hat2 r2
    have eM : n.tmod 5 = n % 5 := Int.tmod_eq_emod_of_nonneg n0
    have hM : 0 ≤ n % 5 ∧ n % 5 ≤ 4 := by omega
    generalize n % 5 = Mm at eM hM
    have ef : f.tdiv 256 = f / 256 := Int.tdiv_eq_ediv_of_nonneg g0
    have ew : IntKind.u8.wrap f = f % 256 := rfl
    have hhi : 0 ≤ f / 256 ∧ f / 256 ≤ 255 := by omega
    have hlo : 0 ≤ f % 256 ∧ f % 256 ≤ 255 := by omega
    have hff := Lib.hid (show f / 256 * 256 + f % 256 = f by omega)
    generalize f / 256 = hi at ef hhi hff
    generalize f % 256 = lo at ew hlo hff
    have hmm := Lib.hid (show ∃ m : Nat, Mm = m from ⟨Mm.toNat, by omega⟩)
    have hz : ¬ (Mm + 1 = 0) := by omega
    go_enter Try.func4, Try.ntmps4
    go_wp2_with (first
  | ((with_reducible first | refine to_load 3 rfl ?_ | refine to_load 4 rfl ?_ | refine to_load 5 rfl ?_ | refine to_load 24 rfl ?_ | refine to_load 25 rfl ?_); refine Wl_load1 hS (fun _ => by rfl) _ _ rfl (scT _ rfl) ?_; (repeat (first | refine Look.here (of_decide_eq_true rfl) rfl ?_ | refine Look.next ?_)); (with_reducible show wpList _ _ _ _ _ _); simp only [nA])
  | ((with_reducible refine to_bsl ?_); refine Wl_bslV hS (M.agL lo hi (Mm + 1)) (by decide) (by kernel_rfl) ?_; clear hS; intro b7 wW hge7 hS; simp only [nA])
  | ((with_reducible refine to_alloc 29 rfl ?_); refine Wl_alloc hS (fun _ => by rfl) _ dmZ ?_; clear hS; intro bD wW hS; simp only [nA])
  | ((with_reducible refine to_alloc 32 rfl ?_); refine Wl_alloc hS (fun _ => by rfl) _ cyZ ?_; clear hS; intro bC wW hS; simp only [nA])
  | ((with_reducible refine to_load 29 rfl ?_); refine Wl_load hS (fun _ => by rfl) _ _ rfl _ Try.underlying29 rfl ?_; (repeat (first | (refine Row.here ⟨(dmI.trans rfl), ?_⟩) | refine Row.next ?_)); (with_reducible show wpList _ _ _ _ _ _); simp only [nA])
  | ((with_reducible refine to_load 32 rfl ?_); refine Wl_load hS (fun _ => by rfl) _ _ rfl _ Try.underlying32 rfl ?_; (repeat (first | (refine Row.here ⟨(cyI.trans rfl), ?_⟩) | refine Row.next ?_)); (with_reducible show wpList _ _ _ _ _ _); simp only [nA])
  | ((with_reducible refine to_store 29 rfl ?_); refine Wl_store hS (fun _ => by rfl) _ _ _ rfl rfl (dmI.trans rfl) (dm_one _ _ _ _) ?_; (repeat (first | refine Turn.here rfl ?_ | refine Turn.next ?_)); clear hS; intro wW hS; try simp only [nA])
  | ((with_reducible refine to_store 32 rfl ?_); refine Wl_store hS (fun _ => by rfl) _ _ _ rfl rfl (cyI.trans rfl) (by simp [Value.oneCell']) ?_; (repeat (first | refine Turn.here rfl ?_ | refine Turn.next ?_)); clear hS; intro wW hS; try simp only [nA]))
    refine (dmawake_any _).mono ?_
    rintro e w1 ⟨rfl, hb⟩
    replace hS := hS.call hb
    clear hb
    go_wp2_with (first
  | ((with_reducible first | refine to_load 3 rfl ?_ | refine to_load 4 rfl ?_ | refine to_load 5 rfl ?_ | refine to_load 24 rfl ?_ | refine to_load 25 rfl ?_); refine Wl_load1 hS (fun _ => by rfl) _ _ rfl (scT _ rfl) ?_; (repeat (first | refine Look.here (of_decide_eq_true rfl) rfl ?_ | refine Look.next ?_)); (with_reducible show wpList _ _ _ _ _ _); simp only [nA])
  | ((with_reducible refine to_bsl ?_); refine Wl_bslV hS (M.agL lo hi (Mm + 1)) (by decide) (by kernel_rfl) ?_; clear hS; intro b7 wW hge7 hS; simp only [nA])
  | ((with_reducible refine to_alloc 29 rfl ?_); refine Wl_alloc hS (fun _ => by rfl) _ dmZ ?_; clear hS; intro bD wW hS; simp only [nA])
  | ((with_reducible refine to_alloc 32 rfl ?_); refine Wl_alloc hS (fun _ => by rfl) _ cyZ ?_; clear hS; intro bC wW hS; simp only [nA])
  | ((with_reducible refine to_load 29 rfl ?_); refine Wl_load hS (fun _ => by rfl) _ _ rfl _ Try.underlying29 rfl ?_; (repeat (first | (refine Row.here ⟨(dmI.trans rfl), ?_⟩) | refine Row.next ?_)); (with_reducible show wpList _ _ _ _ _ _); simp only [nA])
  | ((with_reducible refine to_load 32 rfl ?_); refine Wl_load hS (fun _ => by rfl) _ _ rfl _ Try.underlying32 rfl ?_; (repeat (first | (refine Row.here ⟨(cyI.trans rfl), ?_⟩) | refine Row.next ?_)); (with_reducible show wpList _ _ _ _ _ _); simp only [nA])
  | ((with_reducible refine to_store 29 rfl ?_); refine Wl_store hS (fun _ => by rfl) _ _ _ rfl rfl (dmI.trans rfl) (dm_one _ _ _ _) ?_; (repeat (first | refine Turn.here rfl ?_ | refine Turn.next ?_)); clear hS; intro wW hS; try simp only [nA])
  | ((with_reducible refine to_store 32 rfl ?_); refine Wl_store hS (fun _ => by rfl) _ _ _ rfl rfl (cyI.trans rfl) (by simp [Value.oneCell']) ?_; (repeat (first | refine Turn.here rfl ?_ | refine Turn.next ?_)); clear hS; intro wW hS; try simp only [nA]))
    refine (told_any (M.agL lo hi (Mm + 1)) (by simp [M.agL]) (M.ag_bytes lo hi (Mm + 1) hlo hhi (by omega)) (some ⟨b7, 0, none⟩) 13 _ (hS.lsOwn (F := 0) (k := .u8) (zs := M.agL lo hi (Mm + 1)) (Nat.zero_le _) (.head _) (by simp [M.agL, maxLen]))).mono ?_
    rintro e w1 ⟨A1, c1, rfl, hl, hbl⟩
    replace hS := hS.call hbl
    clear hl hbl
    obtain ⟨hC, hM0, hW0⟩ := M.ag_told lo hi (Mm + 1) hlo hhi (by omega)
    have hPok := M.dTold_ok (M.ag_bytes lo hi (Mm + 1) hlo hhi (by omega))
    have hPl := M.dTold_left (M.ag_bytes lo hi (Mm + 1) hlo hhi (by omega))
    rw [hff.out] at hC hM0
    rw [hW0]
    clear hW0
    generalize M.dTold (M.agL lo hi (Mm + 1)) = P at hC hM0 hPok hPl ⊢
    go_wp2_with (first
  | ((with_reducible first | refine to_load 3 rfl ?_ | refine to_load 4 rfl ?_ | refine to_load 5 rfl ?_ | refine to_load 24 rfl ?_ | refine to_load 25 rfl ?_); refine Wl_load1 hS (fun _ => by rfl) _ _ rfl (scT _ rfl) ?_; (repeat (first | refine Look.here (of_decide_eq_true rfl) rfl ?_ | refine Look.next ?_)); (with_reducible show wpList _ _ _ _ _ _); simp only [nA])
  | ((with_reducible refine to_bsl ?_); refine Wl_bslV hS (M.agL lo hi (Mm + 1)) (by decide) (by kernel_rfl) ?_; clear hS; intro b7 wW hge7 hS; simp only [nA])
  | ((with_reducible refine to_alloc 29 rfl ?_); refine Wl_alloc hS (fun _ => by rfl) _ dmZ ?_; clear hS; intro bD wW hS; simp only [nA])
  | ((with_reducible refine to_alloc 32 rfl ?_); refine Wl_alloc hS (fun _ => by rfl) _ cyZ ?_; clear hS; intro bC wW hS; simp only [nA])
  | ((with_reducible refine to_load 29 rfl ?_); refine Wl_load hS (fun _ => by rfl) _ _ rfl _ Try.underlying29 rfl ?_; (repeat (first | (refine Row.here ⟨(dmI.trans rfl), ?_⟩) | refine Row.next ?_)); (with_reducible show wpList _ _ _ _ _ _); simp only [nA])
  | ((with_reducible refine to_load 32 rfl ?_); refine Wl_load hS (fun _ => by rfl) _ _ rfl _ Try.underlying32 rfl ?_; (repeat (first | (refine Row.here ⟨(cyI.trans rfl), ?_⟩) | refine Row.next ?_)); (with_reducible show wpList _ _ _ _ _ _); simp only [nA])
  | ((with_reducible refine to_store 29 rfl ?_); refine Wl_store hS (fun _ => by rfl) _ _ _ rfl rfl (dmI.trans rfl) (dm_one _ _ _ _) ?_; (repeat (first | refine Turn.here rfl ?_ | refine Turn.next ?_)); clear hS; intro wW hS; try simp only [nA])
  | ((with_reducible refine to_store 32 rfl ?_); refine Wl_store hS (fun _ => by rfl) _ _ _ rfl rfl (cyI.trans rfl) (by simp [Value.oneCell']) ?_; (repeat (first | refine Turn.here rfl ?_ | refine Turn.next ?_)); clear hS; intro wW hS; try simp only [nA]))
    have HS0 := Lib.hid (show St w.heap.size 0 0 w [⟨bD, 0, true, P.c (.slice A1 0 c1)⟩] wW from (hS.sub (by repeat (first | exact List.Sublist.slnil | exact List.nil_sublist _ | apply List.Sublist.cons_cons | apply List.Sublist.cons))))
    clear hS
    go_loopw [10] (fun i wr => ∃ j : Nat, i = .int .i64 j ∧ j ≤ L2.length ∧ St w.heap.size 0 0 w [⟨bD, 0, true, (M.dTakes P (L2.take j)).c (.slice A1 0 c1)⟩] wr) (fun i _ => L2.length - (intOf i).toNat)
    case atStart => exact ⟨0, rfl, Nat.zero_le _, HS0.out⟩
    case round =>
      clear HS0
      obtain ⟨j, rfl, hj, hS⟩ := hrel
      by_cases k1 : j < L2.length
      · have k1' : (j : Int) < (L2.length : Int) := by omega
        have k0' : (0 : Int) ≤ (j : Int) := by omega
        have k3' : (j : Int) < 2000 := by omega
        obtain ⟨m, hm⟩ := hmm.out
        have hlt : (L2.take j).length ≤ L2.length := by simp; omega
        have hDk := M.dTakes_ok (L2.take j) P 0 hPok (by omega) (by omega) (by omega) (fun x hx => hb2 x (List.mem_of_mem_take hx))
        rw [hm] at hC hM0
        obtain ⟨s1, s2⟩ := M.ag_state (L := L2) hC ⟨g0, g1⟩ hM0 j (by omega)
        obtain ⟨s3, _⟩ := M.ag_state (L := L2) hC ⟨g0, g1⟩ hM0 (j + 1) (by omega)
        have hkk := Nat.mod_lt (j / 2) (show 0 < m + 1 by omega)
        have hkk2 := Nat.mod_lt ((j + 1) / 2) (show 0 < m + 1 by omega)
        have d2 := s3.done
        have w2 := s3.wants hC (by omega)
        have e1 := M.dTakes_next P k1
        rw [e1] at d2 w2
        obtain ⟨x1, q1, rfl, hkc, hcell⟩ := HA2.out j k1
        have hbv := hb2 _ (getD_mem k1)
        have hll : -9223372036854775807 ≤ (M.dTakes P (L2.take j)).left := by have := hDk.2; omega
        have ht := fun W => dmtake_any (M.dTakes P (L2.take j)) hDk.1 hll A1 0 c1 (L2.getD j 0) hbv.1 hbv.2 W
        have hn := fun W => dnext_any (M.dTakes P (L2.take j)) hDk.1 A1 0 c1 W
        have hrel2 : ∀ W, St w.heap.size 0 0 w [⟨bD, 0, true, (M.dTake (M.dTakes P (L2.take j)) (L2.getD j 0)).c (.slice A1 0 c1)⟩] W → ∃ j2 : Nat, (Value.int .i64 ((j : Int) + 1)) = .int .i64 j2 ∧ j2 ≤ L2.length ∧ St w.heap.size 0 0 w [⟨bD, 0, true, (M.dTakes P (L2.take j2)).c (.slice A1 0 c1)⟩] W := fun W h => ⟨j + 1, by simp, by omega, by rw [e1]; exact h⟩
        have HR := Lib.hid hrel2
        have hwa := fun W => dwants_any (M.dTake (M.dTakes P (L2.take j)) (L2.getD j 0)) A1 0 c1 false W
        rw [w2] at hwa
        have q1' : (j : Int).tdiv 2 = ((j / 2 : Nat) : Int) := by rw [Int.tdiv_eq_ediv_of_nonneg k0']; omega
        have q2' : ((j / 2 : Nat) : Int).tmod (Mm + 1) = ((j / 2 % (m + 1) : Nat) : Int) := by
          rw [Int.tmod_eq_emod_of_nonneg (by omega), hm]
          exact (Int.natCast_emod _ _).symm
        have q3' : (j : Int).tmod 2 = ((j % 2 : Nat) : Int) := by rw [Int.tmod_eq_emod_of_nonneg k0']; omega
        have hkb : 0 ≤ ((j / 2 % (m + 1) : Nat) : Int) ∧ ((j / 2 % (m + 1) : Nat) : Int) ≤ 4 := by omega
        have hjb : 0 ≤ ((j / 2 : Nat) : Int) ∧ ((j / 2 : Nat) : Int) ≤ 2000 := by omega
        clear e1 hrel2 w2 hDk hll s3 hkk hkk2 hlt hbv hm
        generalize L2.getD j 0 = v at ht HR hcell d2 hwa
        generalize M.dTake (M.dTakes P (L2.take j)) v = R at ht HR d2 hwa
        generalize ((j / 2 % (m + 1) : Nat) : Int) = kk at s1 q2' hkb
        generalize ((j / 2 : Nat) : Int) = jh at q1' q2' hjb
        have eR : R = { R with done := false } := by rw [← d2]
        rw [eR] at ht HR hwa
        clear eR d2
        have HWA := Lib.hid hwa
        have HT := Lib.hid ht
        clear hwa ht
        replace hS := hS.oneAt hcell
        rcases Nat.mod_two_eq_zero_or_one j with hp | hp
        · rw [hp] at s1 q3'
          have hx := s1.next_rd hC
          rw [hx] at hn
          have a1 : IntKind.u16.wrap (f + kk) = (f + kk) % 65536 := rfl
          generalize (f + kk) % 65536 = ad at hn a1
          have HN := Lib.hid hn
          clear hn hx s1 s2
          generalize M.dTakes P (L2.take j) = D at hS HT HN
          go_wp2_with (first
  | ((with_reducible first | refine to_load 3 rfl ?_ | refine to_load 4 rfl ?_ | refine to_load 5 rfl ?_ | refine to_load 24 rfl ?_ | refine to_load 25 rfl ?_); refine Wl_load1 hS (fun _ => by rfl) _ _ rfl (scT _ rfl) ?_; (repeat (first | refine Look.here (of_decide_eq_true rfl) rfl ?_ | refine Look.next ?_)); (with_reducible show wpList _ _ _ _ _ _); simp only [nA])
  | ((with_reducible refine to_bsl ?_); refine Wl_bslV hS (M.agL lo hi (Mm + 1)) (by decide) (by kernel_rfl) ?_; clear hS; intro b7 wW hge7 hS; simp only [nA])
  | ((with_reducible refine to_alloc 29 rfl ?_); refine Wl_alloc hS (fun _ => by rfl) _ dmZ ?_; clear hS; intro bD wW hS; simp only [nA])
  | ((with_reducible refine to_alloc 32 rfl ?_); refine Wl_alloc hS (fun _ => by rfl) _ cyZ ?_; clear hS; intro bC wW hS; simp only [nA])
  | ((with_reducible refine to_load 29 rfl ?_); refine Wl_load hS (fun _ => by rfl) _ _ rfl _ Try.underlying29 rfl ?_; (repeat (first | (refine Row.here ⟨(dmI.trans rfl), ?_⟩) | refine Row.next ?_)); (with_reducible show wpList _ _ _ _ _ _); simp only [nA])
  | ((with_reducible refine to_load 32 rfl ?_); refine Wl_load hS (fun _ => by rfl) _ _ rfl _ Try.underlying32 rfl ?_; (repeat (first | (refine Row.here ⟨(cyI.trans rfl), ?_⟩) | refine Row.next ?_)); (with_reducible show wpList _ _ _ _ _ _); simp only [nA])
  | ((with_reducible refine to_store 29 rfl ?_); refine Wl_store hS (fun _ => by rfl) _ _ _ rfl rfl (dmI.trans rfl) (dm_one _ _ _ _) ?_; (repeat (first | refine Turn.here rfl ?_ | refine Turn.next ?_)); clear hS; intro wW hS; try simp only [nA])
  | ((with_reducible refine to_store 32 rfl ?_); refine Wl_store hS (fun _ => by rfl) _ _ _ rfl rfl (cyI.trans rfl) (by simp [Value.oneCell']) ?_; (repeat (first | refine Turn.here rfl ?_ | refine Turn.next ?_)); clear hS; intro wW hS; try simp only [nA]))
          refine (HN.out _).mono ?_
          rintro e w1 ⟨rfl, hb⟩
          replace hS := hS.call hb
          clear hb
          go_wp2_with (first
  | ((with_reducible first | refine to_load 3 rfl ?_ | refine to_load 4 rfl ?_ | refine to_load 5 rfl ?_ | refine to_load 24 rfl ?_ | refine to_load 25 rfl ?_); refine Wl_load1 hS (fun _ => by rfl) _ _ rfl (scT _ rfl) ?_; (repeat (first | refine Look.here (of_decide_eq_true rfl) rfl ?_ | refine Look.next ?_)); (with_reducible show wpList _ _ _ _ _ _); simp only [nA])
  | ((with_reducible refine to_bsl ?_); refine Wl_bslV hS (M.agL lo hi (Mm + 1)) (by decide) (by kernel_rfl) ?_; clear hS; intro b7 wW hge7 hS; simp only [nA])
  | ((with_reducible refine to_alloc 29 rfl ?_); refine Wl_alloc hS (fun _ => by rfl) _ dmZ ?_; clear hS; intro bD wW hS; simp only [nA])
  | ((with_reducible refine to_alloc 32 rfl ?_); refine Wl_alloc hS (fun _ => by rfl) _ cyZ ?_; clear hS; intro bC wW hS; simp only [nA])
  | ((with_reducible refine to_load 29 rfl ?_); refine Wl_load hS (fun _ => by rfl) _ _ rfl _ Try.underlying29 rfl ?_; (repeat (first | (refine Row.here ⟨(dmI.trans rfl), ?_⟩) | refine Row.next ?_)); (with_reducible show wpList _ _ _ _ _ _); simp only [nA])
  | ((with_reducible refine to_load 32 rfl ?_); refine Wl_load hS (fun _ => by rfl) _ _ rfl _ Try.underlying32 rfl ?_; (repeat (first | (refine Row.here ⟨(cyI.trans rfl), ?_⟩) | refine Row.next ?_)); (with_reducible show wpList _ _ _ _ _ _); simp only [nA])
  | ((with_reducible refine to_store 29 rfl ?_); refine Wl_store hS (fun _ => by rfl) _ _ _ rfl rfl (dmI.trans rfl) (dm_one _ _ _ _) ?_; (repeat (first | refine Turn.here rfl ?_ | refine Turn.next ?_)); clear hS; intro wW hS; try simp only [nA])
  | ((with_reducible refine to_store 32 rfl ?_); refine Wl_store hS (fun _ => by rfl) _ _ _ rfl rfl (cyI.trans rfl) (by simp [Value.oneCell']) ?_; (repeat (first | refine Turn.here rfl ?_ | refine Turn.next ?_)); clear hS; intro wW hS; try simp only [nA]))
          refine wp_region_held_drew (S := fun W => St w.heap.size 0 0 w [] W) (by kernel_rfl) (hS.drew.sub (by repeat (first | exact List.Sublist.slnil | exact List.nil_sublist _ | apply List.Sublist.cons_cons | apply List.Sublist.cons))) ?_
          intro _
          replace hS := hS.drew
          generalize World.drew _ = wX at hS ⊢
          refine wpAnyH_take (i := 0) (v := ?_) rfl (by kernel_rfl) (by kernel_rfl) (by kernel_rfl) (fun _ _ _ h => h) (Or.inl ⟨by rfl, ?_⟩) (hS.sub (by repeat (first | exact List.Sublist.slnil | exact List.nil_sublist _ | apply List.Sublist.cons_cons | apply List.Sublist.cons))) ?_
          rotate_left 1
          · intro W hW
            clear hW
            go_simp
            all_goals with_reducible rfl
          try simp only [nR]
          refine wpAnyH_take (i := 1) (v := ?_) rfl (by kernel_rfl) (by kernel_rfl) (by kernel_rfl) (fun _ _ _ h => h) (Or.inl ⟨by rfl, ?_⟩) (hS.sub (by repeat (first | exact List.Sublist.slnil | exact List.nil_sublist _ | apply List.Sublist.cons_cons | apply List.Sublist.cons))) ?_
          rotate_left 1
          · intro W hW
            clear hW
            go_simp
            all_goals with_reducible rfl
          try simp only [nR]
          refine wpAnyH_take (i := 2) (v := ?_) rfl (by kernel_rfl) (by kernel_rfl) (by kernel_rfl) (fun _ _ _ h => h) (Or.inl ⟨by rfl, ?_⟩) (hS.sub (by repeat (first | exact List.Sublist.slnil | exact List.nil_sublist _ | apply List.Sublist.cons_cons | apply List.Sublist.cons))) ?_
          rotate_left 1
          · intro W hW
            clear hW
            go_simp
            all_goals with_reducible rfl
          try simp only [nR]
          refine wpAnyH_take (i := 3) (v := ?_) rfl (by kernel_rfl) (by kernel_rfl) (by kernel_rfl) (fun _ _ _ h => h) (Or.inl ⟨by rfl, ?_⟩) (hS.sub (by repeat (first | exact List.Sublist.slnil | exact List.nil_sublist _ | apply List.Sublist.cons_cons | apply List.Sublist.cons))) ?_
          rotate_left 1
          · intro W hW
            clear hW
            go_simp
            all_goals with_reducible rfl
          try simp only [nR]
          refine wpAnyH_take (i := 4) (v := undef) rfl (by kernel_rfl) (by kernel_rfl) (by kernel_rfl) (fun _ _ _ h => h) (Or.inr ⟨by rfl, rfl⟩) (hS.sub (by repeat (first | exact List.Sublist.slnil | exact List.nil_sublist _ | apply List.Sublist.cons_cons | apply List.Sublist.cons))) ?_
          try simp only [nR]
          refine wpAnyH_take (i := 5) (v := undef) rfl (by kernel_rfl) (by kernel_rfl) (by kernel_rfl) (fun _ _ _ h => h) (Or.inr ⟨by rfl, rfl⟩) (hS.sub (by repeat (first | exact List.Sublist.slnil | exact List.nil_sublist _ | apply List.Sublist.cons_cons | apply List.Sublist.cons))) ?_
          try simp only [nR]
          refine wpAnyH_take (i := 6) (v := undef) rfl (by kernel_rfl) (by kernel_rfl) (by kernel_rfl) (fun _ _ _ h => h) (Or.inr ⟨by rfl, rfl⟩) (hS.sub (by repeat (first | exact List.Sublist.slnil | exact List.nil_sublist _ | apply List.Sublist.cons_cons | apply List.Sublist.cons))) ?_
          try simp only [nR]
          refine wpAnyH_take (i := 7) (v := undef) rfl (by kernel_rfl) (by kernel_rfl) (by kernel_rfl) (fun _ _ _ h => h) (Or.inr ⟨by rfl, rfl⟩) (hS.sub (by repeat (first | exact List.Sublist.slnil | exact List.nil_sublist _ | apply List.Sublist.cons_cons | apply List.Sublist.cons))) ?_
          try simp only [nR]
          refine wpAnyH_take (i := 8) (v := undef) rfl (by kernel_rfl) (by kernel_rfl) (by kernel_rfl) (fun _ _ _ h => h) (Or.inr ⟨by rfl, rfl⟩) (hS.sub (by repeat (first | exact List.Sublist.slnil | exact List.nil_sublist _ | apply List.Sublist.cons_cons | apply List.Sublist.cons))) ?_
          try simp only [nR]
          refine wpAnyH_take (i := 9) (v := undef) rfl (by kernel_rfl) (by kernel_rfl) (by kernel_rfl) (fun _ _ _ h => h) (Or.inr ⟨by rfl, rfl⟩) (hS.sub (by repeat (first | exact List.Sublist.slnil | exact List.nil_sublist _ | apply List.Sublist.cons_cons | apply List.Sublist.cons))) ?_
          try simp only [nR]
          refine wpAnyH_take (i := 10) (v := undef) rfl (by kernel_rfl) (by kernel_rfl) (by kernel_rfl) (fun _ _ _ h => h) (Or.inr ⟨by rfl, rfl⟩) (hS.sub (by repeat (first | exact List.Sublist.slnil | exact List.nil_sublist _ | apply List.Sublist.cons_cons | apply List.Sublist.cons))) ?_
          try simp only [nR]
          refine wpAnyH_take (i := 11) (v := undef) rfl (by kernel_rfl) (by kernel_rfl) (by kernel_rfl) (fun _ _ _ h => h) (Or.inr ⟨by rfl, rfl⟩) (hS.sub (by repeat (first | exact List.Sublist.slnil | exact List.nil_sublist _ | apply List.Sublist.cons_cons | apply List.Sublist.cons))) ?_
          try simp only [nR]
          refine wpAnyH_take (i := 12) (v := undef) rfl (by kernel_rfl) (by kernel_rfl) (by kernel_rfl) (fun _ _ _ h => h) (Or.inr ⟨by rfl, rfl⟩) (hS.sub (by repeat (first | exact List.Sublist.slnil | exact List.nil_sublist _ | apply List.Sublist.cons_cons | apply List.Sublist.cons))) ?_
          try simp only [nR]
          refine wpAnyH_take (i := 13) (v := undef) rfl (by kernel_rfl) (by kernel_rfl) (by kernel_rfl) (fun _ _ _ h => h) (Or.inr ⟨by rfl, rfl⟩) (hS.sub (by repeat (first | exact List.Sublist.slnil | exact List.nil_sublist _ | apply List.Sublist.cons_cons | apply List.Sublist.cons))) ?_
          try simp only [nR]
          refine wpAnyH_take (i := 14) (v := undef) rfl (by kernel_rfl) (by kernel_rfl) (by kernel_rfl) (fun _ _ _ h => h) (Or.inr ⟨by rfl, rfl⟩) (hS.sub (by repeat (first | exact List.Sublist.slnil | exact List.nil_sublist _ | apply List.Sublist.cons_cons | apply List.Sublist.cons))) ?_
          try simp only [nR]
          refine wpAnyH_take (i := 15) (v := ?_) rfl (by kernel_rfl) (by kernel_rfl) (by kernel_rfl) (fun _ _ _ h => h) (Or.inl ⟨by rfl, ?_⟩) (hS.sub (by repeat (first | exact List.Sublist.slnil | exact List.nil_sublist _ | apply List.Sublist.cons_cons | apply List.Sublist.cons))) ?_
          rotate_left 1
          · intro W hW
            clear hW
            go_simp
            all_goals with_reducible rfl
          try simp only [nR]
          refine wpAnyH_done (by kernel_rfl) ?_ _
          go_wp2_with fail
          refine wp_region_held_drew (S := fun W => St w.heap.size 0 0 w [⟨x1, q1 + j, false, #[.int .u8 v]⟩] W) (by kernel_rfl) (hS.drew.sub (by repeat (first | exact List.Sublist.slnil | exact List.nil_sublist _ | apply List.Sublist.cons_cons | apply List.Sublist.cons))) ?_
          intro _
          replace hS := hS.drew
          generalize World.drew _ = wX at hS ⊢
          refine wpAnyH_take (i := 1) (v := ?_) rfl (by kernel_rfl) (by kernel_rfl) (by kernel_rfl) (fun _ _ _ h => h) (Or.inl ⟨by rfl, ?_⟩) (hS.sub (by repeat (first | exact List.Sublist.slnil | exact List.nil_sublist _ | apply List.Sublist.cons_cons | apply List.Sublist.cons))) ?_
          rotate_left 1
          · intro W hW
            clear hW
            go_simp
            all_goals with_reducible rfl
          try simp only [nR]
          refine wpAnyH_take (i := 2) (v := ?_) rfl (by kernel_rfl) (by kernel_rfl) (by kernel_rfl) (fun _ _ _ h => h) (Or.inl ⟨by rfl, ?_⟩) (hS.sub (by repeat (first | exact List.Sublist.slnil | exact List.nil_sublist _ | apply List.Sublist.cons_cons | apply List.Sublist.cons))) ?_
          rotate_left 1
          · intro W hW
            clear hW
            go_simp
            all_goals with_reducible rfl
          try simp only [nR]
          refine wpAnyH_take (i := 3) (v := ?_) rfl (by kernel_rfl) (by kernel_rfl) (by kernel_rfl) (fun _ _ _ h => h) (Or.inl ⟨by rfl, ?_⟩) (hS.sub (by repeat (first | exact List.Sublist.slnil | exact List.nil_sublist _ | apply List.Sublist.cons_cons | apply List.Sublist.cons))) ?_
          rotate_left 1
          · intro W hW
            clear hW
            go_simp
            all_goals with_reducible rfl
          try simp only [nR]
          refine wpAnyH_take (i := 4) rfl (by kernel_rfl) (by kernel_rfl) (by kernel_rfl) (fun _ _ _ h => h) (yields_one (by rfl) _ _ rfl _ _ rfl sc5 _ (fun W hW => hW.cell (j := 0) (.head _) rfl)) (hS.sub (by repeat (first | exact List.Sublist.slnil | exact List.nil_sublist _ | apply List.Sublist.cons_cons | apply List.Sublist.cons))) ?_
          try simp only [nR]
          refine wpAnyH_ready (rs := [0]) (by kernel_rfl) (by simp) (AllReadyH.cons rfl ?_ AllReadyH.nil)
          intro K1 hK1
          rw [if_pos (by rfl)]
          try simp only [nR]
          refine wp_load_st hS _ _ rfl _ _ rfl _ Try.underlying29 rfl ?_
          repeat (first | (refine Row.here ⟨dmI.trans rfl, ?_⟩) | refine Row.next ?_)
          refine hK1.out _ _ (hS.sub (by repeat (first | exact List.Sublist.slnil | exact List.nil_sublist _ | apply List.Sublist.cons_cons | apply List.Sublist.cons))) (fun _ => ?_)
          clear hK1
          try simp only [nR]
          refine wpAnyH_ready (rs := [5]) (by kernel_rfl) (by simp) (AllReadyH.cons rfl ?_ AllReadyH.nil)
          intro K1 hK1
          rw [if_pos (by rfl)]
          try simp only [nR]
          go_simp
          refine (HT.out _).mono ?_
          rintro e1 v2 ⟨rfl, hb⟩
          replace hS := hS.call hb
          clear hb
          refine hK1.out _ _ (hS.sub (by repeat (first | exact List.Sublist.slnil | exact List.nil_sublist _ | apply List.Sublist.cons_cons | apply List.Sublist.cons))) (fun _ => ?_)
          clear hK1
          try simp only [nR]
          refine wpAnyH_ready (rs := [6]) (by kernel_rfl) (by simp) (AllReadyH.cons rfl ?_ AllReadyH.nil)
          intro K1 hK1
          rw [if_pos (by rfl)]
          try simp only [nR]
          refine wp_store_st hS _ _ _ rfl _ _ _ rfl rfl (dmI.trans rfl) (dm_one _ _ _ _) ?_
          repeat (first | refine Turn.here rfl ?_ | refine Turn.next ?_)
          clear hS
          intro wW hS
          refine hK1.out _ _ (hS.sub (by repeat (first | exact List.Sublist.slnil | exact List.nil_sublist _ | apply List.Sublist.cons_cons | apply List.Sublist.cons))) (fun _ => ?_)
          clear hK1
          try simp only [nR]
          refine wpAnyH_done (by kernel_rfl) ?_ _
          go_wp2_with (first
  | ((with_reducible first | refine to_load 3 rfl ?_ | refine to_load 4 rfl ?_ | refine to_load 5 rfl ?_ | refine to_load 24 rfl ?_ | refine to_load 25 rfl ?_); refine Wl_load1 hS (fun _ => by rfl) _ _ rfl (scT _ rfl) ?_; (repeat (first | refine Look.here (of_decide_eq_true rfl) rfl ?_ | refine Look.next ?_)); (with_reducible show wpList _ _ _ _ _ _); simp only [nA])
  | ((with_reducible refine to_bsl ?_); refine Wl_bslV hS (M.agL lo hi (Mm + 1)) (by decide) (by kernel_rfl) ?_; clear hS; intro b7 wW hge7 hS; simp only [nA])
  | ((with_reducible refine to_alloc 29 rfl ?_); refine Wl_alloc hS (fun _ => by rfl) _ dmZ ?_; clear hS; intro bD wW hS; simp only [nA])
  | ((with_reducible refine to_alloc 32 rfl ?_); refine Wl_alloc hS (fun _ => by rfl) _ cyZ ?_; clear hS; intro bC wW hS; simp only [nA])
  | ((with_reducible refine to_load 29 rfl ?_); refine Wl_load hS (fun _ => by rfl) _ _ rfl _ Try.underlying29 rfl ?_; (repeat (first | (refine Row.here ⟨(dmI.trans rfl), ?_⟩) | refine Row.next ?_)); (with_reducible show wpList _ _ _ _ _ _); simp only [nA])
  | ((with_reducible refine to_load 32 rfl ?_); refine Wl_load hS (fun _ => by rfl) _ _ rfl _ Try.underlying32 rfl ?_; (repeat (first | (refine Row.here ⟨(cyI.trans rfl), ?_⟩) | refine Row.next ?_)); (with_reducible show wpList _ _ _ _ _ _); simp only [nA])
  | ((with_reducible refine to_store 29 rfl ?_); refine Wl_store hS (fun _ => by rfl) _ _ _ rfl rfl (dmI.trans rfl) (dm_one _ _ _ _) ?_; (repeat (first | refine Turn.here rfl ?_ | refine Turn.next ?_)); clear hS; intro wW hS; try simp only [nA])
  | ((with_reducible refine to_store 32 rfl ?_); refine Wl_store hS (fun _ => by rfl) _ _ _ rfl rfl (cyI.trans rfl) (by simp [Value.oneCell']) ?_; (repeat (first | refine Turn.here rfl ?_ | refine Turn.next ?_)); clear hS; intro wW hS; try simp only [nA]))
          refine (HWA.out _).mono ?_
          rintro e w1 ⟨rfl, hb⟩
          replace hS := hS.call hb
          clear hb
          go_wp2_with (first
  | ((with_reducible first | refine to_load 3 rfl ?_ | refine to_load 4 rfl ?_ | refine to_load 5 rfl ?_ | refine to_load 24 rfl ?_ | refine to_load 25 rfl ?_); refine Wl_load1 hS (fun _ => by rfl) _ _ rfl (scT _ rfl) ?_; (repeat (first | refine Look.here (of_decide_eq_true rfl) rfl ?_ | refine Look.next ?_)); (with_reducible show wpList _ _ _ _ _ _); simp only [nA])
  | ((with_reducible refine to_bsl ?_); refine Wl_bslV hS (M.agL lo hi (Mm + 1)) (by decide) (by kernel_rfl) ?_; clear hS; intro b7 wW hge7 hS; simp only [nA])
  | ((with_reducible refine to_alloc 29 rfl ?_); refine Wl_alloc hS (fun _ => by rfl) _ dmZ ?_; clear hS; intro bD wW hS; simp only [nA])
  | ((with_reducible refine to_alloc 32 rfl ?_); refine Wl_alloc hS (fun _ => by rfl) _ cyZ ?_; clear hS; intro bC wW hS; simp only [nA])
  | ((with_reducible refine to_load 29 rfl ?_); refine Wl_load hS (fun _ => by rfl) _ _ rfl _ Try.underlying29 rfl ?_; (repeat (first | (refine Row.here ⟨(dmI.trans rfl), ?_⟩) | refine Row.next ?_)); (with_reducible show wpList _ _ _ _ _ _); simp only [nA])
  | ((with_reducible refine to_load 32 rfl ?_); refine Wl_load hS (fun _ => by rfl) _ _ rfl _ Try.underlying32 rfl ?_; (repeat (first | (refine Row.here ⟨(cyI.trans rfl), ?_⟩) | refine Row.next ?_)); (with_reducible show wpList _ _ _ _ _ _); simp only [nA])
  | ((with_reducible refine to_store 29 rfl ?_); refine Wl_store hS (fun _ => by rfl) _ _ _ rfl rfl (dmI.trans rfl) (dm_one _ _ _ _) ?_; (repeat (first | refine Turn.here rfl ?_ | refine Turn.next ?_)); clear hS; intro wW hS; try simp only [nA])
  | ((with_reducible refine to_store 32 rfl ?_); refine Wl_store hS (fun _ => by rfl) _ _ _ rfl rfl (cyI.trans rfl) (by simp [Value.oneCell']) ?_; (repeat (first | refine Turn.here rfl ?_ | refine Turn.next ?_)); clear hS; intro wW hS; try simp only [nA]))
          go_round
          case rel => exact HR.out _ (hS.sub (by repeat (first | exact List.Sublist.slnil | exact List.nil_sublist _ | apply List.Sublist.cons_cons | apply List.Sublist.cons)))
          case measure => simp [intOf]; omega
        · rw [hp] at s1 q3'
          have hx := s1.next_wr hC
          rw [s2 hp] at hx
          rw [hx] at hn
          have a0 : IntKind.u16.wrap kk = kk := by
            rw [IntKind.wrap_u16]
            omega
          have a1 : IntKind.u16.wrap (8192 + kk) = (8192 + kk) % 65536 := rfl
          generalize (8192 + kk) % 65536 = ad at hn a1
          have hj1 : j - 1 < L2.length := by omega
          obtain ⟨x3, q3, hA3, _, hcell3⟩ := HA2.out (j - 1) hj1
          obtain ⟨rfl, rfl⟩ : x1 = x3 ∧ q1 = q3 := by
            simp only [Option.some.injEq, Addr.mk.injEq] at hA3
            exact ⟨hA3.1, hA3.2.1⟩
          replace hS := hS.oneAt hcell3
          have e5 : (j : Int) - 1 = ((j - 1 : Nat) : Int) := by omega
          have l5 : ((j - 1 : Nat) : Int) < (L2.length : Int) := by omega
          have l6 : (0 : Int) ≤ ((j - 1 : Nat) : Int) := by omega
          generalize L2.getD (j - 1) 0 = u at hn hS
          have e6 : IntKind.i64.wrap ((j - 1 : Nat) : Int) = ((j - 1 : Nat) : Int) := by
            have l7 : ((j - 1 : Nat) : Int) < 2000 := by omega
            rw [IntKind.wrap_i64]
            omega
          generalize j - 1 = jp at hS e5 e6 l5 l6
          have HN := Lib.hid hn
          clear hn hx s1 s2 hcell3 hA3
          generalize M.dTakes P (L2.take j) = D at hS HT HN
          go_wp2_with (first
  | ((with_reducible first | refine to_load 3 rfl ?_ | refine to_load 4 rfl ?_ | refine to_load 5 rfl ?_ | refine to_load 24 rfl ?_ | refine to_load 25 rfl ?_); refine Wl_load1 hS (fun _ => by rfl) _ _ rfl (scT _ rfl) ?_; (repeat (first | refine Look.here (of_decide_eq_true rfl) rfl ?_ | refine Look.next ?_)); (with_reducible show wpList _ _ _ _ _ _); simp only [nA])
  | ((with_reducible refine to_bsl ?_); refine Wl_bslV hS (M.agL lo hi (Mm + 1)) (by decide) (by kernel_rfl) ?_; clear hS; intro b7 wW hge7 hS; simp only [nA])
  | ((with_reducible refine to_alloc 29 rfl ?_); refine Wl_alloc hS (fun _ => by rfl) _ dmZ ?_; clear hS; intro bD wW hS; simp only [nA])
  | ((with_reducible refine to_alloc 32 rfl ?_); refine Wl_alloc hS (fun _ => by rfl) _ cyZ ?_; clear hS; intro bC wW hS; simp only [nA])
  | ((with_reducible refine to_load 29 rfl ?_); refine Wl_load hS (fun _ => by rfl) _ _ rfl _ Try.underlying29 rfl ?_; (repeat (first | (refine Row.here ⟨(dmI.trans rfl), ?_⟩) | refine Row.next ?_)); (with_reducible show wpList _ _ _ _ _ _); simp only [nA])
  | ((with_reducible refine to_load 32 rfl ?_); refine Wl_load hS (fun _ => by rfl) _ _ rfl _ Try.underlying32 rfl ?_; (repeat (first | (refine Row.here ⟨(cyI.trans rfl), ?_⟩) | refine Row.next ?_)); (with_reducible show wpList _ _ _ _ _ _); simp only [nA])
  | ((with_reducible refine to_store 29 rfl ?_); refine Wl_store hS (fun _ => by rfl) _ _ _ rfl rfl (dmI.trans rfl) (dm_one _ _ _ _) ?_; (repeat (first | refine Turn.here rfl ?_ | refine Turn.next ?_)); clear hS; intro wW hS; try simp only [nA])
  | ((with_reducible refine to_store 32 rfl ?_); refine Wl_store hS (fun _ => by rfl) _ _ _ rfl rfl (cyI.trans rfl) (by simp [Value.oneCell']) ?_; (repeat (first | refine Turn.here rfl ?_ | refine Turn.next ?_)); clear hS; intro wW hS; try simp only [nA]))
          refine (HN.out _).mono ?_
          rintro e w1 ⟨rfl, hb⟩
          replace hS := hS.call hb
          clear hb
          go_wp2_with (first
  | ((with_reducible first | refine to_load 3 rfl ?_ | refine to_load 4 rfl ?_ | refine to_load 5 rfl ?_ | refine to_load 24 rfl ?_ | refine to_load 25 rfl ?_); refine Wl_load1 hS (fun _ => by rfl) _ _ rfl (scT _ rfl) ?_; (repeat (first | refine Look.here (of_decide_eq_true rfl) rfl ?_ | refine Look.next ?_)); (with_reducible show wpList _ _ _ _ _ _); simp only [nA])
  | ((with_reducible refine to_bsl ?_); refine Wl_bslV hS (M.agL lo hi (Mm + 1)) (by decide) (by kernel_rfl) ?_; clear hS; intro b7 wW hge7 hS; simp only [nA])
  | ((with_reducible refine to_alloc 29 rfl ?_); refine Wl_alloc hS (fun _ => by rfl) _ dmZ ?_; clear hS; intro bD wW hS; simp only [nA])
  | ((with_reducible refine to_alloc 32 rfl ?_); refine Wl_alloc hS (fun _ => by rfl) _ cyZ ?_; clear hS; intro bC wW hS; simp only [nA])
  | ((with_reducible refine to_load 29 rfl ?_); refine Wl_load hS (fun _ => by rfl) _ _ rfl _ Try.underlying29 rfl ?_; (repeat (first | (refine Row.here ⟨(dmI.trans rfl), ?_⟩) | refine Row.next ?_)); (with_reducible show wpList _ _ _ _ _ _); simp only [nA])
  | ((with_reducible refine to_load 32 rfl ?_); refine Wl_load hS (fun _ => by rfl) _ _ rfl _ Try.underlying32 rfl ?_; (repeat (first | (refine Row.here ⟨(cyI.trans rfl), ?_⟩) | refine Row.next ?_)); (with_reducible show wpList _ _ _ _ _ _); simp only [nA])
  | ((with_reducible refine to_store 29 rfl ?_); refine Wl_store hS (fun _ => by rfl) _ _ _ rfl rfl (dmI.trans rfl) (dm_one _ _ _ _) ?_; (repeat (first | refine Turn.here rfl ?_ | refine Turn.next ?_)); clear hS; intro wW hS; try simp only [nA])
  | ((with_reducible refine to_store 32 rfl ?_); refine Wl_store hS (fun _ => by rfl) _ _ _ rfl rfl (cyI.trans rfl) (by simp [Value.oneCell']) ?_; (repeat (first | refine Turn.here rfl ?_ | refine Turn.next ?_)); clear hS; intro wW hS; try simp only [nA]))
          refine wp_region_held_drew (S := fun W => St w.heap.size 0 0 w [⟨bC, 0, true, #[.int .i64 3, .int .u16 ad, .int .u8 u, .int .i64 3]⟩, ⟨x1, q1 + jp, false, #[.int .u8 u]⟩] W) (by kernel_rfl) (hS.drew.sub (by repeat (first | exact List.Sublist.slnil | exact List.nil_sublist _ | apply List.Sublist.cons_cons | apply List.Sublist.cons))) ?_
          intro _
          replace hS := hS.drew
          generalize World.drew _ = wX at hS ⊢
          refine wpAnyH_take (i := 0) (v := ?_) rfl (by kernel_rfl) (by kernel_rfl) (by kernel_rfl) (fun _ _ _ h => h) (Or.inl ⟨by rfl, ?_⟩) (hS.sub (by repeat (first | exact List.Sublist.slnil | exact List.nil_sublist _ | apply List.Sublist.cons_cons | apply List.Sublist.cons))) ?_
          rotate_left 1
          · intro W hW
            clear hW
            go_simp
            all_goals with_reducible rfl
          try simp only [nR]
          refine wpAnyH_take (i := 1) (v := ?_) rfl (by kernel_rfl) (by kernel_rfl) (by kernel_rfl) (fun _ _ _ h => h) (Or.inl ⟨by rfl, ?_⟩) (hS.sub (by repeat (first | exact List.Sublist.slnil | exact List.nil_sublist _ | apply List.Sublist.cons_cons | apply List.Sublist.cons))) ?_
          rotate_left 1
          · intro W hW
            clear hW
            go_simp
            all_goals with_reducible rfl
          try simp only [nR]
          refine wpAnyH_take (i := 2) (v := ?_) rfl (by kernel_rfl) (by kernel_rfl) (by kernel_rfl) (fun _ _ _ h => h) (Or.inl ⟨by rfl, ?_⟩) (hS.sub (by repeat (first | exact List.Sublist.slnil | exact List.nil_sublist _ | apply List.Sublist.cons_cons | apply List.Sublist.cons))) ?_
          rotate_left 1
          · intro W hW
            clear hW
            go_simp
            all_goals with_reducible rfl
          try simp only [nR]
          refine wpAnyH_take (i := 3) (v := ?_) rfl (by kernel_rfl) (by kernel_rfl) (by kernel_rfl) (fun _ _ _ h => h) (Or.inl ⟨by rfl, ?_⟩) (hS.sub (by repeat (first | exact List.Sublist.slnil | exact List.nil_sublist _ | apply List.Sublist.cons_cons | apply List.Sublist.cons))) ?_
          rotate_left 1
          · intro W hW
            clear hW
            go_simp
            all_goals with_reducible rfl
          try simp only [nR]
          first
            | refine wpAnyH_take (i := 4) rfl (by kernel_rfl) (by kernel_rfl) (by kernel_rfl) (fun _ _ _ h => h) (yields_row (by rfl) _ _ rfl _ _ rfl _ Try.underlying32 rfl _ (fun W hW => hW.range (.head _)) (cyI.trans rfl)) (hS.sub (by repeat (first | exact List.Sublist.slnil | exact List.nil_sublist _ | apply List.Sublist.cons_cons | apply List.Sublist.cons))) ?_
            | refine wpAnyH_take (i := 4) rfl (by kernel_rfl) (by kernel_rfl) (by kernel_rfl) (fun _ _ _ h => h) (yields_row (by rfl) _ _ rfl _ _ rfl _ Try.underlying32 rfl _ (fun W hW => hW.range (.tail _ (.head _))) (cyI.trans rfl)) (hS.sub (by repeat (first | exact List.Sublist.slnil | exact List.nil_sublist _ | apply List.Sublist.cons_cons | apply List.Sublist.cons))) ?_
            | refine wpAnyH_take (i := 4) rfl (by kernel_rfl) (by kernel_rfl) (by kernel_rfl) (fun _ _ _ h => h) (yields_row (by rfl) _ _ rfl _ _ rfl _ Try.underlying32 rfl _ (fun W hW => hW.range (.tail _ (.tail _ (.head _)))) (cyI.trans rfl)) (hS.sub (by repeat (first | exact List.Sublist.slnil | exact List.nil_sublist _ | apply List.Sublist.cons_cons | apply List.Sublist.cons))) ?_
            | refine wpAnyH_take (i := 4) rfl (by kernel_rfl) (by kernel_rfl) (by kernel_rfl) (fun _ _ _ h => h) (yields_row (by rfl) _ _ rfl _ _ rfl _ Try.underlying32 rfl _ (fun W hW => hW.range (.tail _ (.tail _ (.tail _ (.head _))))) (cyI.trans rfl)) (hS.sub (by repeat (first | exact List.Sublist.slnil | exact List.nil_sublist _ | apply List.Sublist.cons_cons | apply List.Sublist.cons))) ?_
            | refine wpAnyH_take (i := 4) rfl (by kernel_rfl) (by kernel_rfl) (by kernel_rfl) (fun _ _ _ h => h) (yields_row (by rfl) _ _ rfl _ _ rfl _ Try.underlying32 rfl _ (fun W hW => hW.range (.tail _ (.tail _ (.tail _ (.tail _ (.head _)))))) (cyI.trans rfl)) (hS.sub (by repeat (first | exact List.Sublist.slnil | exact List.nil_sublist _ | apply List.Sublist.cons_cons | apply List.Sublist.cons))) ?_
            | refine wpAnyH_take (i := 4) rfl (by kernel_rfl) (by kernel_rfl) (by kernel_rfl) (fun _ _ _ h => h) (yields_row (by rfl) _ _ rfl _ _ rfl _ Try.underlying32 rfl _ (fun W hW => hW.range (.tail _ (.tail _ (.tail _ (.tail _ (.tail _ (.head _))))))) (cyI.trans rfl)) (hS.sub (by repeat (first | exact List.Sublist.slnil | exact List.nil_sublist _ | apply List.Sublist.cons_cons | apply List.Sublist.cons))) ?_
          try simp only [nR]
          refine wpAnyH_take (i := 5) (v := ?_) rfl (by kernel_rfl) (by kernel_rfl) (by kernel_rfl) (fun _ _ _ h => h) (Or.inl ⟨by rfl, ?_⟩) (hS.sub (by repeat (first | exact List.Sublist.slnil | exact List.nil_sublist _ | apply List.Sublist.cons_cons | apply List.Sublist.cons))) ?_
          rotate_left 1
          · intro W hW
            clear hW
            go_simp
            all_goals with_reducible rfl
          try simp only [nR]
          refine wpAnyH_take (i := 6) (v := ?_) rfl (by kernel_rfl) (by kernel_rfl) (by kernel_rfl) (fun _ _ _ h => h) (Or.inl ⟨by rfl, ?_⟩) (hS.sub (by repeat (first | exact List.Sublist.slnil | exact List.nil_sublist _ | apply List.Sublist.cons_cons | apply List.Sublist.cons))) ?_
          rotate_left 1
          · intro W hW
            clear hW
            go_simp
            all_goals with_reducible rfl
          try simp only [nR]
          refine wpAnyH_take (i := 7) (v := ?_) rfl (by kernel_rfl) (by kernel_rfl) (by kernel_rfl) (fun _ _ _ h => h) (Or.inl ⟨by rfl, ?_⟩) (hS.sub (by repeat (first | exact List.Sublist.slnil | exact List.nil_sublist _ | apply List.Sublist.cons_cons | apply List.Sublist.cons))) ?_
          rotate_left 1
          · intro W hW
            clear hW
            go_simp
            all_goals with_reducible rfl
          try simp only [nR]
          refine wpAnyH_take (i := 8) (v := ?_) rfl (by kernel_rfl) (by kernel_rfl) (by kernel_rfl) (fun _ _ _ h => h) (Or.inl ⟨by rfl, ?_⟩) (hS.sub (by repeat (first | exact List.Sublist.slnil | exact List.nil_sublist _ | apply List.Sublist.cons_cons | apply List.Sublist.cons))) ?_
          rotate_left 1
          · intro W hW
            clear hW
            go_simp
            all_goals with_reducible rfl
          try simp only [nR]
          refine wpAnyH_take (i := 9) (v := ?_) rfl (by kernel_rfl) (by kernel_rfl) (by kernel_rfl) (fun _ _ _ h => h) (Or.inl ⟨by rfl, ?_⟩) (hS.sub (by repeat (first | exact List.Sublist.slnil | exact List.nil_sublist _ | apply List.Sublist.cons_cons | apply List.Sublist.cons))) ?_
          rotate_left 1
          · intro W hW
            clear hW
            go_simp
            all_goals with_reducible rfl
          try simp only [nR]
          refine wpAnyH_take (i := 10) (v := ?_) rfl (by kernel_rfl) (by kernel_rfl) (by kernel_rfl) (fun _ _ _ h => h) (Or.inl ⟨by rfl, ?_⟩) (hS.sub (by repeat (first | exact List.Sublist.slnil | exact List.nil_sublist _ | apply List.Sublist.cons_cons | apply List.Sublist.cons))) ?_
          rotate_left 1
          · intro W hW
            clear hW
            go_simp
            all_goals with_reducible rfl
          try simp only [nR]
          refine wpAnyH_take (i := 11) (v := ?_) rfl (by kernel_rfl) (by kernel_rfl) (by kernel_rfl) (fun _ _ _ h => h) (Or.inl ⟨by rfl, ?_⟩) (hS.sub (by repeat (first | exact List.Sublist.slnil | exact List.nil_sublist _ | apply List.Sublist.cons_cons | apply List.Sublist.cons))) ?_
          rotate_left 1
          · intro W hW
            clear hW
            go_simp
            all_goals with_reducible rfl
          try simp only [nR]
          refine wpAnyH_take (i := 12) rfl (by kernel_rfl) (by kernel_rfl) (by kernel_rfl) (fun _ _ _ h => h) (yields_one (by rfl) _ _ rfl _ _ rfl sc5 _ (fun W hW => hW.cell (j := 0) (.tail _ (.head _)) rfl)) (hS.sub (by repeat (first | exact List.Sublist.slnil | exact List.nil_sublist _ | apply List.Sublist.cons_cons | apply List.Sublist.cons))) ?_
          try simp only [nR]
          refine wpAnyH_take (i := 13) (v := ?_) rfl (by kernel_rfl) (by kernel_rfl) (by kernel_rfl) (fun _ _ _ h => h) (Or.inl ⟨by rfl, ?_⟩) (hS.sub (by repeat (first | exact List.Sublist.slnil | exact List.nil_sublist _ | apply List.Sublist.cons_cons | apply List.Sublist.cons))) ?_
          rotate_left 1
          · intro W hW
            clear hW
            go_simp
            all_goals with_reducible rfl
          try simp only [nR]
          refine wpAnyH_take (i := 14) (v := ?_) rfl (by kernel_rfl) (by kernel_rfl) (by kernel_rfl) (fun _ _ _ h => h) (Or.inl ⟨by rfl, ?_⟩) (hS.sub (by repeat (first | exact List.Sublist.slnil | exact List.nil_sublist _ | apply List.Sublist.cons_cons | apply List.Sublist.cons))) ?_
          rotate_left 1
          · intro W hW
            clear hW
            go_simp
            all_goals with_reducible rfl
          try simp only [nR]
          refine wpAnyH_take (i := 15) (v := ?_) rfl (by kernel_rfl) (by kernel_rfl) (by kernel_rfl) (fun _ _ _ h => h) (Or.inl ⟨by rfl, ?_⟩) (hS.sub (by repeat (first | exact List.Sublist.slnil | exact List.nil_sublist _ | apply List.Sublist.cons_cons | apply List.Sublist.cons))) ?_
          rotate_left 1
          · intro W hW
            clear hW
            go_simp
            all_goals with_reducible rfl
          try simp only [nR]
          refine wpAnyH_done (by kernel_rfl) ?_ _
          go_wp2_with fail
          refine wp_region_held_drew (S := fun W => St w.heap.size 0 0 w [⟨x1, q1 + j, false, #[.int .u8 v]⟩] W) (by kernel_rfl) (hS.drew.sub (by repeat (first | exact List.Sublist.slnil | exact List.nil_sublist _ | apply List.Sublist.cons_cons | apply List.Sublist.cons))) ?_
          intro _
          replace hS := hS.drew
          generalize World.drew _ = wX at hS ⊢
          refine wpAnyH_take (i := 1) (v := ?_) rfl (by kernel_rfl) (by kernel_rfl) (by kernel_rfl) (fun _ _ _ h => h) (Or.inl ⟨by rfl, ?_⟩) (hS.sub (by repeat (first | exact List.Sublist.slnil | exact List.nil_sublist _ | apply List.Sublist.cons_cons | apply List.Sublist.cons))) ?_
          rotate_left 1
          · intro W hW
            clear hW
            go_simp
            all_goals with_reducible rfl
          try simp only [nR]
          refine wpAnyH_take (i := 2) (v := ?_) rfl (by kernel_rfl) (by kernel_rfl) (by kernel_rfl) (fun _ _ _ h => h) (Or.inl ⟨by rfl, ?_⟩) (hS.sub (by repeat (first | exact List.Sublist.slnil | exact List.nil_sublist _ | apply List.Sublist.cons_cons | apply List.Sublist.cons))) ?_
          rotate_left 1
          · intro W hW
            clear hW
            go_simp
            all_goals with_reducible rfl
          try simp only [nR]
          refine wpAnyH_take (i := 3) (v := ?_) rfl (by kernel_rfl) (by kernel_rfl) (by kernel_rfl) (fun _ _ _ h => h) (Or.inl ⟨by rfl, ?_⟩) (hS.sub (by repeat (first | exact List.Sublist.slnil | exact List.nil_sublist _ | apply List.Sublist.cons_cons | apply List.Sublist.cons))) ?_
          rotate_left 1
          · intro W hW
            clear hW
            go_simp
            all_goals with_reducible rfl
          try simp only [nR]
          refine wpAnyH_take (i := 4) rfl (by kernel_rfl) (by kernel_rfl) (by kernel_rfl) (fun _ _ _ h => h) (yields_one (by rfl) _ _ rfl _ _ rfl sc5 _ (fun W hW => hW.cell (j := 0) (.head _) rfl)) (hS.sub (by repeat (first | exact List.Sublist.slnil | exact List.nil_sublist _ | apply List.Sublist.cons_cons | apply List.Sublist.cons))) ?_
          try simp only [nR]
          refine wpAnyH_ready (rs := [0]) (by kernel_rfl) (by simp) (AllReadyH.cons rfl ?_ AllReadyH.nil)
          intro K1 hK1
          rw [if_pos (by rfl)]
          try simp only [nR]
          refine wp_load_st hS _ _ rfl _ _ rfl _ Try.underlying29 rfl ?_
          repeat (first | (refine Row.here ⟨dmI.trans rfl, ?_⟩) | refine Row.next ?_)
          refine hK1.out _ _ (hS.sub (by repeat (first | exact List.Sublist.slnil | exact List.nil_sublist _ | apply List.Sublist.cons_cons | apply List.Sublist.cons))) (fun _ => ?_)
          clear hK1
          try simp only [nR]
          refine wpAnyH_ready (rs := [5]) (by kernel_rfl) (by simp) (AllReadyH.cons rfl ?_ AllReadyH.nil)
          intro K1 hK1
          rw [if_pos (by rfl)]
          try simp only [nR]
          go_simp
          refine (HT.out _).mono ?_
          rintro e1 v2 ⟨rfl, hb⟩
          replace hS := hS.call hb
          clear hb
          refine hK1.out _ _ (hS.sub (by repeat (first | exact List.Sublist.slnil | exact List.nil_sublist _ | apply List.Sublist.cons_cons | apply List.Sublist.cons))) (fun _ => ?_)
          clear hK1
          try simp only [nR]
          refine wpAnyH_ready (rs := [6]) (by kernel_rfl) (by simp) (AllReadyH.cons rfl ?_ AllReadyH.nil)
          intro K1 hK1
          rw [if_pos (by rfl)]
          try simp only [nR]
          refine wp_store_st hS _ _ _ rfl _ _ _ rfl rfl (dmI.trans rfl) (dm_one _ _ _ _) ?_
          repeat (first | refine Turn.here rfl ?_ | refine Turn.next ?_)
          clear hS
          intro wW hS
          refine hK1.out _ _ (hS.sub (by repeat (first | exact List.Sublist.slnil | exact List.nil_sublist _ | apply List.Sublist.cons_cons | apply List.Sublist.cons))) (fun _ => ?_)
          clear hK1
          try simp only [nR]
          refine wpAnyH_done (by kernel_rfl) ?_ _
          go_wp2_with (first
  | ((with_reducible first | refine to_load 3 rfl ?_ | refine to_load 4 rfl ?_ | refine to_load 5 rfl ?_ | refine to_load 24 rfl ?_ | refine to_load 25 rfl ?_); refine Wl_load1 hS (fun _ => by rfl) _ _ rfl (scT _ rfl) ?_; (repeat (first | refine Look.here (of_decide_eq_true rfl) rfl ?_ | refine Look.next ?_)); (with_reducible show wpList _ _ _ _ _ _); simp only [nA])
  | ((with_reducible refine to_bsl ?_); refine Wl_bslV hS (M.agL lo hi (Mm + 1)) (by decide) (by kernel_rfl) ?_; clear hS; intro b7 wW hge7 hS; simp only [nA])
  | ((with_reducible refine to_alloc 29 rfl ?_); refine Wl_alloc hS (fun _ => by rfl) _ dmZ ?_; clear hS; intro bD wW hS; simp only [nA])
  | ((with_reducible refine to_alloc 32 rfl ?_); refine Wl_alloc hS (fun _ => by rfl) _ cyZ ?_; clear hS; intro bC wW hS; simp only [nA])
  | ((with_reducible refine to_load 29 rfl ?_); refine Wl_load hS (fun _ => by rfl) _ _ rfl _ Try.underlying29 rfl ?_; (repeat (first | (refine Row.here ⟨(dmI.trans rfl), ?_⟩) | refine Row.next ?_)); (with_reducible show wpList _ _ _ _ _ _); simp only [nA])
  | ((with_reducible refine to_load 32 rfl ?_); refine Wl_load hS (fun _ => by rfl) _ _ rfl _ Try.underlying32 rfl ?_; (repeat (first | (refine Row.here ⟨(cyI.trans rfl), ?_⟩) | refine Row.next ?_)); (with_reducible show wpList _ _ _ _ _ _); simp only [nA])
  | ((with_reducible refine to_store 29 rfl ?_); refine Wl_store hS (fun _ => by rfl) _ _ _ rfl rfl (dmI.trans rfl) (dm_one _ _ _ _) ?_; (repeat (first | refine Turn.here rfl ?_ | refine Turn.next ?_)); clear hS; intro wW hS; try simp only [nA])
  | ((with_reducible refine to_store 32 rfl ?_); refine Wl_store hS (fun _ => by rfl) _ _ _ rfl rfl (cyI.trans rfl) (by simp [Value.oneCell']) ?_; (repeat (first | refine Turn.here rfl ?_ | refine Turn.next ?_)); clear hS; intro wW hS; try simp only [nA]))
          refine (HWA.out _).mono ?_
          rintro e w1 ⟨rfl, hb⟩
          replace hS := hS.call hb
          clear hb
          go_wp2_with (first
  | ((with_reducible first | refine to_load 3 rfl ?_ | refine to_load 4 rfl ?_ | refine to_load 5 rfl ?_ | refine to_load 24 rfl ?_ | refine to_load 25 rfl ?_); refine Wl_load1 hS (fun _ => by rfl) _ _ rfl (scT _ rfl) ?_; (repeat (first | refine Look.here (of_decide_eq_true rfl) rfl ?_ | refine Look.next ?_)); (with_reducible show wpList _ _ _ _ _ _); simp only [nA])
  | ((with_reducible refine to_bsl ?_); refine Wl_bslV hS (M.agL lo hi (Mm + 1)) (by decide) (by kernel_rfl) ?_; clear hS; intro b7 wW hge7 hS; simp only [nA])
  | ((with_reducible refine to_alloc 29 rfl ?_); refine Wl_alloc hS (fun _ => by rfl) _ dmZ ?_; clear hS; intro bD wW hS; simp only [nA])
  | ((with_reducible refine to_alloc 32 rfl ?_); refine Wl_alloc hS (fun _ => by rfl) _ cyZ ?_; clear hS; intro bC wW hS; simp only [nA])
  | ((with_reducible refine to_load 29 rfl ?_); refine Wl_load hS (fun _ => by rfl) _ _ rfl _ Try.underlying29 rfl ?_; (repeat (first | (refine Row.here ⟨(dmI.trans rfl), ?_⟩) | refine Row.next ?_)); (with_reducible show wpList _ _ _ _ _ _); simp only [nA])
  | ((with_reducible refine to_load 32 rfl ?_); refine Wl_load hS (fun _ => by rfl) _ _ rfl _ Try.underlying32 rfl ?_; (repeat (first | (refine Row.here ⟨(cyI.trans rfl), ?_⟩) | refine Row.next ?_)); (with_reducible show wpList _ _ _ _ _ _); simp only [nA])
  | ((with_reducible refine to_store 29 rfl ?_); refine Wl_store hS (fun _ => by rfl) _ _ _ rfl rfl (dmI.trans rfl) (dm_one _ _ _ _) ?_; (repeat (first | refine Turn.here rfl ?_ | refine Turn.next ?_)); clear hS; intro wW hS; try simp only [nA])
  | ((with_reducible refine to_store 32 rfl ?_); refine Wl_store hS (fun _ => by rfl) _ _ _ rfl rfl (cyI.trans rfl) (by simp [Value.oneCell']) ?_; (repeat (first | refine Turn.here rfl ?_ | refine Turn.next ?_)); clear hS; intro wW hS; try simp only [nA]))
          go_round
          case rel => exact HR.out _ (hS.sub (by repeat (first | exact List.Sublist.slnil | exact List.nil_sublist _ | apply List.Sublist.cons_cons | apply List.Sublist.cons)))
          case measure => simp [intOf]; omega
      · have k1' : ¬ ((j : Int) < (L2.length : Int)) := by omega
        go_wp2_with (first
  | ((with_reducible first | refine to_load 3 rfl ?_ | refine to_load 4 rfl ?_ | refine to_load 5 rfl ?_ | refine to_load 24 rfl ?_ | refine to_load 25 rfl ?_); refine Wl_load1 hS (fun _ => by rfl) _ _ rfl (scT _ rfl) ?_; (repeat (first | refine Look.here (of_decide_eq_true rfl) rfl ?_ | refine Look.next ?_)); (with_reducible show wpList _ _ _ _ _ _); simp only [nA])
  | ((with_reducible refine to_bsl ?_); refine Wl_bslV hS (M.agL lo hi (Mm + 1)) (by decide) (by kernel_rfl) ?_; clear hS; intro b7 wW hge7 hS; simp only [nA])
  | ((with_reducible refine to_alloc 29 rfl ?_); refine Wl_alloc hS (fun _ => by rfl) _ dmZ ?_; clear hS; intro bD wW hS; simp only [nA])
  | ((with_reducible refine to_alloc 32 rfl ?_); refine Wl_alloc hS (fun _ => by rfl) _ cyZ ?_; clear hS; intro bC wW hS; simp only [nA])
  | ((with_reducible refine to_load 29 rfl ?_); refine Wl_load hS (fun _ => by rfl) _ _ rfl _ Try.underlying29 rfl ?_; (repeat (first | (refine Row.here ⟨(dmI.trans rfl), ?_⟩) | refine Row.next ?_)); (with_reducible show wpList _ _ _ _ _ _); simp only [nA])
  | ((with_reducible refine to_load 32 rfl ?_); refine Wl_load hS (fun _ => by rfl) _ _ rfl _ Try.underlying32 rfl ?_; (repeat (first | (refine Row.here ⟨(cyI.trans rfl), ?_⟩) | refine Row.next ?_)); (with_reducible show wpList _ _ _ _ _ _); simp only [nA])
  | ((with_reducible refine to_store 29 rfl ?_); refine Wl_store hS (fun _ => by rfl) _ _ _ rfl rfl (dmI.trans rfl) (dm_one _ _ _ _) ?_; (repeat (first | refine Turn.here rfl ?_ | refine Turn.next ?_)); clear hS; intro wW hS; try simp only [nA])
  | ((with_reducible refine to_store 32 rfl ?_); refine Wl_store hS (fun _ => by rfl) _ _ _ rfl rfl (cyI.trans rfl) (by simp [Value.oneCell']) ?_; (repeat (first | refine Turn.here rfl ?_ | refine Turn.next ?_)); clear hS; intro wW hS; try simp only [nA]))
        go_returns
        exact ⟨rfl, hS.below⟩
end Go.Proofs.Ytkkkjdbcckaedaa
