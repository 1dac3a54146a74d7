/- charabanclaw22.DmaMoves is true whatever the addresses and the number. -/
import Derived.Test.YtkkkjdbcckaedaaDmCell
namespace Go.Proofs.Ytkkkjdbcckaedaa
open Go.RowKit
set_option linter.unusedVariables false
set_option linter.unusedSimpArgs false
set_option maxRecDepth 100000
theorem M.mv_bytes (f0 f1 x k t0 t1 : Int) (h0 : 0 ≤ f0 ∧ f0 ≤ 255) (h1 : 0 ≤ f1 ∧ f1 ≤ 255) (hx : 0 ≤ x ∧ x ≤ 255) (hk : 0 ≤ k ∧ k ≤ 255) (g0 : 0 ≤ t0 ∧ t0 ≤ 255) (g1 : 0 ≤ t1 ∧ t1 ≤ 255) : ∀ z ∈ M.mvL f0 f1 x k t0 t1, 0 ≤ z ∧ z ≤ 255 := by
  intro z hz
  simp only [M.mvL, List.mem_cons, List.not_mem_nil, or_false] at hz
  omega
/-- The bytes that the mover is answered. -/
def M.mvV (f t : Int) (m j : Nat) : Int := if j % 2 = 0 then ((j / 2 : Nat) : Int) + 1 else M.get (M.run f (m + 1) ++ M.run t (j / 2)) ((t + ((j / 2 : Nat) : Int)) % 65536)
def M.mvD (P : M.Dm) (f t : Int) (m : Nat) : Nat → M.Dm
  | 0 => P
  | j + 1 => M.dTake (M.mvD P f t m j) (M.mvV f t m j)
theorem M.mvV_range (f t : Int) (m j : Nat) (hm : m ≤ 19) (hj : j ≤ 60) : 0 ≤ M.mvV f t m j ∧ M.mvV f t m j ≤ 255 := by
  unfold M.mvV
  split
  · omega
  · refine M.get_range _ (fun p hp => ?_) _
    rcases List.mem_append.1 hp with h | h
    · exact M.run_bytes f (m + 1) (by omega) p h
    · exact M.run_bytes t (j / 2) (by omega) p h
theorem M.mvD_ok {P : M.Dm} (f t : Int) (m : Nat) (hm : m ≤ 19) (h : P.ok) (hl : 0 ≤ P.left) : ∀ j : Nat, j ≤ 60 → (M.mvD P f t m j).ok ∧ -(j : Int) ≤ (M.mvD P f t m j).left
  | 0, _ => ⟨h, by show _ ≤ P.left; omega⟩
  | j + 1, hj => by
    have ih := M.mvD_ok f t m hm h hl j (by omega)
    have hv := M.mvV_range f t m j hm (by omega)
    refine ⟨M.dTake_ok ih.1 (by have := ih.2; omega) hv.1 hv.2, ?_⟩
    have h := M.dTake_left ih.1 hv.1 hv.2 (j : Int) (by omega) ih.2
    show -(((j + 1 : Nat)) : Int) ≤ (M.dTake (M.mvD P f t m j) (M.mvV f t m j)).left
    have e : (((j + 1 : Nat)) : Int) = (j : Int) + 1 := by omega
    rw [e]; exact h
theorem M.mvD_st {P : M.Dm} {f t : Int} {m : Nat} (c : M.Cf P.p f t ((m : Int) + 1) false) (h : M.Mv P.p f t ((m : Int) + 1) 0 false P) (j : Nat) (hj : j < 2 * (m + 1)) :
    M.Mv P.p f t ((m : Int) + 1) ((j / 2 : Nat) : Int) (j % 2 == 1) (M.mvD P f t m j) ∧ (j % 2 = 1 → (M.mvD P f t m j).hold = ((j / 2 : Nat) : Int) + 1) := by
  have g := M.mo_state c h (M.mvD P f t m) (M.mvV f t m) rfl (fun _ => rfl) j hj
  refine ⟨g.1, fun e => ?_⟩
  rw [g.2 e]
  unfold M.mvV
  rw [if_pos (by omega)]
  have e2 : (j - 1) / 2 = j / 2 := by omega
  rw [e2]
theorem M.mvD_end {P : M.Dm} {f t : Int} {m : Nat} (c : M.Cf P.p f t ((m : Int) + 1) false) (h : M.Mv P.p f t ((m : Int) + 1) 0 false P) : (M.mvD P f t m (2 * m + 1 + 1)).done = true :=
  (M.mo_end c h (M.mvD P f t m) (M.mvV f t m) rfl (fun _ => rfl)).2.1
set_option maxHeartbeats 16000000 in
theorem dmmoves_true (f : Int) (f0 : 0 ≤ f) (f1 : f ≤ 65535) (t : Int) (t0 : 0 ≤ t) (t1 : t ≤ 65535) (n : Int) (n0 : 0 ≤ n) (n1 : n ≤ 255) (w : World) :
    Calls Try.prog 8 #[.int .u16 f, .int .u16 t, .int .u8 n] w fun e w' => e = .returned (.bool true) ∧ Below w.heap.size w w' := by
  have hS := St.start w.heap.size 0 0 w
  have eM : n.tmod 20 = n % 20 := Int.tmod_eq_emod_of_nonneg n0
  have hM : 0 ≤ n % 20 ∧ n % 20 ≤ 19 := by omega
  generalize n % 20 = Mm at eM hM
  have ed : IntKind.u16.wrap (t - f) = (t - f) % 65536 := rfl
  have ee : IntKind.u16.wrap (f - t) = (f - t) % 65536 := rfl
  by_cases c1 : (t - f) % 65536 < 40
  · have s1 : decide ((t - f) % 65536 < 40) = true := decide_eq_true c1
    generalize (t - f) % 65536 = dd at ed s1 c1
    go_enter Try.func8, Try.ntmps8
    go_wp2_with (first
  | ((with_reducible first | refine to_load 3 rfl ?_ | refine to_load 4 rfl ?_ | refine to_load 5 rfl ?_ | refine to_load 24 rfl ?_ | refine to_load 25 rfl ?_); refine Wl_load1 hS (fun _ => by rfl) _ _ rfl (scT _ rfl) ?_; (repeat (first | refine Look.here (of_decide_eq_true rfl) rfl ?_ | refine Look.next ?_)); (with_reducible show wpList _ _ _ _ _ _); simp only [nA])
  | ((with_reducible refine to_bsl ?_); refine Wl_bsl0 hS ?_; clear hS; intro vv EE wW hO hS; simp only [nA])
  | ((with_reducible refine to_bsl ?_); refine Wl_bslV hS (M.mvL lo hi (Mm + 1) 173 tl th) (by decide) (by kernel_rfl) ?_; clear hS; intro b7 wW hge7 hS; simp only [nA])
  | ((with_reducible refine to_alloc 29 rfl ?_); refine Wl_alloc hS (fun _ => by rfl) _ dmZ ?_; clear hS; intro bD wW hS; simp only [nA])
  | ((with_reducible refine to_alloc 32 rfl ?_); refine Wl_alloc hS (fun _ => by rfl) _ cyZ ?_; clear hS; intro bC wW hS; simp only [nA])
  | ((with_reducible refine to_load 29 rfl ?_); refine Wl_load hS (fun _ => by rfl) _ _ rfl _ Try.underlying29 rfl ?_; (repeat (first | (refine Row.here ⟨(dmI.trans rfl), ?_⟩) | refine Row.next ?_)); (with_reducible show wpList _ _ _ _ _ _); simp only [nA])
  | ((with_reducible refine to_store 29 rfl ?_); refine Wl_store hS (fun _ => by rfl) _ _ _ rfl rfl (dmI.trans rfl) (dm_one _ _ _ _) ?_; (repeat (first | refine Turn.here rfl ?_ | refine Turn.next ?_)); clear hS; intro wW hS; try simp only [nA])
  | ((with_reducible refine to_store 32 rfl ?_); refine Wl_store hS (fun _ => by rfl) _ _ _ rfl rfl (cyI.trans rfl) (by simp [Value.oneCell']) ?_; (repeat (first | refine Turn.here rfl ?_ | refine Turn.next ?_)); clear hS; intro wW hS; try simp only [nA]))
    refine (dmawake_any _).mono ?_
    rintro e w1 ⟨rfl, hb⟩
    replace hS := hS.call hb
    clear hb
    go_wp2_with (first
  | ((with_reducible first | refine to_load 3 rfl ?_ | refine to_load 4 rfl ?_ | refine to_load 5 rfl ?_ | refine to_load 24 rfl ?_ | refine to_load 25 rfl ?_); refine Wl_load1 hS (fun _ => by rfl) _ _ rfl (scT _ rfl) ?_; (repeat (first | refine Look.here (of_decide_eq_true rfl) rfl ?_ | refine Look.next ?_)); (with_reducible show wpList _ _ _ _ _ _); simp only [nA])
  | ((with_reducible refine to_bsl ?_); refine Wl_bsl0 hS ?_; clear hS; intro vv EE wW hO hS; simp only [nA])
  | ((with_reducible refine to_bsl ?_); refine Wl_bslV hS (M.mvL lo hi (Mm + 1) 173 tl th) (by decide) (by kernel_rfl) ?_; clear hS; intro b7 wW hge7 hS; simp only [nA])
  | ((with_reducible refine to_alloc 29 rfl ?_); refine Wl_alloc hS (fun _ => by rfl) _ dmZ ?_; clear hS; intro bD wW hS; simp only [nA])
  | ((with_reducible refine to_alloc 32 rfl ?_); refine Wl_alloc hS (fun _ => by rfl) _ cyZ ?_; clear hS; intro bC wW hS; simp only [nA])
  | ((with_reducible refine to_load 29 rfl ?_); refine Wl_load hS (fun _ => by rfl) _ _ rfl _ Try.underlying29 rfl ?_; (repeat (first | (refine Row.here ⟨(dmI.trans rfl), ?_⟩) | refine Row.next ?_)); (with_reducible show wpList _ _ _ _ _ _); simp only [nA])
  | ((with_reducible refine to_store 29 rfl ?_); refine Wl_store hS (fun _ => by rfl) _ _ _ rfl rfl (dmI.trans rfl) (dm_one _ _ _ _) ?_; (repeat (first | refine Turn.here rfl ?_ | refine Turn.next ?_)); clear hS; intro wW hS; try simp only [nA])
  | ((with_reducible refine to_store 32 rfl ?_); refine Wl_store hS (fun _ => by rfl) _ _ _ rfl rfl (cyI.trans rfl) (by simp [Value.oneCell']) ?_; (repeat (first | refine Turn.here rfl ?_ | refine Turn.next ?_)); clear hS; intro wW hS; try simp only [nA]))
    go_returns
    exact ⟨rfl, hS.below⟩
  · by_cases c2 : (f - t) % 65536 < 40
    · have s1 : decide ((t - f) % 65536 < 40) = false := decide_eq_false c1
      have s2 : decide ((f - t) % 65536 < 40) = true := decide_eq_true c2
      generalize (t - f) % 65536 = dd at ed s1 c1
      generalize (f - t) % 65536 = de at ee s2 c2
      go_enter Try.func8, Try.ntmps8
      go_wp2_with (first
  | ((with_reducible first | refine to_load 3 rfl ?_ | refine to_load 4 rfl ?_ | refine to_load 5 rfl ?_ | refine to_load 24 rfl ?_ | refine to_load 25 rfl ?_); refine Wl_load1 hS (fun _ => by rfl) _ _ rfl (scT _ rfl) ?_; (repeat (first | refine Look.here (of_decide_eq_true rfl) rfl ?_ | refine Look.next ?_)); (with_reducible show wpList _ _ _ _ _ _); simp only [nA])
  | ((with_reducible refine to_bsl ?_); refine Wl_bsl0 hS ?_; clear hS; intro vv EE wW hO hS; simp only [nA])
  | ((with_reducible refine to_bsl ?_); refine Wl_bslV hS (M.mvL lo hi (Mm + 1) 173 tl th) (by decide) (by kernel_rfl) ?_; clear hS; intro b7 wW hge7 hS; simp only [nA])
  | ((with_reducible refine to_alloc 29 rfl ?_); refine Wl_alloc hS (fun _ => by rfl) _ dmZ ?_; clear hS; intro bD wW hS; simp only [nA])
  | ((with_reducible refine to_alloc 32 rfl ?_); refine Wl_alloc hS (fun _ => by rfl) _ cyZ ?_; clear hS; intro bC wW hS; simp only [nA])
  | ((with_reducible refine to_load 29 rfl ?_); refine Wl_load hS (fun _ => by rfl) _ _ rfl _ Try.underlying29 rfl ?_; (repeat (first | (refine Row.here ⟨(dmI.trans rfl), ?_⟩) | refine Row.next ?_)); (with_reducible show wpList _ _ _ _ _ _); simp only [nA])
  | ((with_reducible refine to_store 29 rfl ?_); refine Wl_store hS (fun _ => by rfl) _ _ _ rfl rfl (dmI.trans rfl) (dm_one _ _ _ _) ?_; (repeat (first | refine Turn.here rfl ?_ | refine Turn.next ?_)); clear hS; intro wW hS; try simp only [nA])
  | ((with_reducible refine to_store 32 rfl ?_); refine Wl_store hS (fun _ => by rfl) _ _ _ rfl rfl (cyI.trans rfl) (by simp [Value.oneCell']) ?_; (repeat (first | refine Turn.here rfl ?_ | refine Turn.next ?_)); clear hS; intro wW hS; try simp only [nA]))
      refine (dmawake_any _).mono ?_
      rintro e w1 ⟨rfl, hb⟩
      replace hS := hS.call hb
      clear hb
      go_wp2_with (first
  | ((with_reducible first | refine to_load 3 rfl ?_ | refine to_load 4 rfl ?_ | refine to_load 5 rfl ?_ | refine to_load 24 rfl ?_ | refine to_load 25 rfl ?_); refine Wl_load1 hS (fun _ => by rfl) _ _ rfl (scT _ rfl) ?_; (repeat (first | refine Look.here (of_decide_eq_true rfl) rfl ?_ | refine Look.next ?_)); (with_reducible show wpList _ _ _ _ _ _); simp only [nA])
  | ((with_reducible refine to_bsl ?_); refine Wl_bsl0 hS ?_; clear hS; intro vv EE wW hO hS; simp only [nA])
  | ((with_reducible refine to_bsl ?_); refine Wl_bslV hS (M.mvL lo hi (Mm + 1) 173 tl th) (by decide) (by kernel_rfl) ?_; clear hS; intro b7 wW hge7 hS; simp only [nA])
  | ((with_reducible refine to_alloc 29 rfl ?_); refine Wl_alloc hS (fun _ => by rfl) _ dmZ ?_; clear hS; intro bD wW hS; simp only [nA])
  | ((with_reducible refine to_alloc 32 rfl ?_); refine Wl_alloc hS (fun _ => by rfl) _ cyZ ?_; clear hS; intro bC wW hS; simp only [nA])
  | ((with_reducible refine to_load 29 rfl ?_); refine Wl_load hS (fun _ => by rfl) _ _ rfl _ Try.underlying29 rfl ?_; (repeat (first | (refine Row.here ⟨(dmI.trans rfl), ?_⟩) | refine Row.next ?_)); (with_reducible show wpList _ _ _ _ _ _); simp only [nA])
  | ((with_reducible refine to_store 29 rfl ?_); refine Wl_store hS (fun _ => by rfl) _ _ _ rfl rfl (dmI.trans rfl) (dm_one _ _ _ _) ?_; (repeat (first | refine Turn.here rfl ?_ | refine Turn.next ?_)); clear hS; intro wW hS; try simp only [nA])
  | ((with_reducible refine to_store 32 rfl ?_); refine Wl_store hS (fun _ => by rfl) _ _ _ rfl rfl (cyI.trans rfl) (by simp [Value.oneCell']) ?_; (repeat (first | refine Turn.here rfl ?_ | refine Turn.next ?_)); clear hS; intro wW hS; try simp only [nA]))
      go_returns
      exact ⟨rfl, hS.below⟩
    · have hd1 := Lib.hid (show 40 ≤ (t - f) % 65536 by omega)
      have hd2 := Lib.hid (show 40 ≤ (f - t) % 65536 by omega)
      have s1 : decide ((t - f) % 65536 < 40) = false := decide_eq_false c1
      have s2 : decide ((f - t) % 65536 < 40) = false := decide_eq_false c2
      generalize (t - f) % 65536 = dd at ed s1 c1
      generalize (f - t) % 65536 = de at ee s2 c2
      clear c1 c2
      have ef : f.tdiv 256 = f / 256 := Int.tdiv_eq_ediv_of_nonneg f0
      have ew : IntKind.u8.wrap f = f % 256 := rfl
      have hhi : 0 ≤ f / 256 ∧ f / 256 ≤ 255 := by omega
      have hlo : 0 ≤ f % 256 ∧ f % 256 ≤ 255 := by omega
      have hff := Lib.hid (show f / 256 * 256 + f % 256 = f by omega)
      generalize f / 256 = hi at ef hhi hff
      generalize f % 256 = lo at ew hlo hff
      have et : t.tdiv 256 = t / 256 := Int.tdiv_eq_ediv_of_nonneg t0
      have ev : IntKind.u8.wrap t = t % 256 := rfl
      have hth : 0 ≤ t / 256 ∧ t / 256 ≤ 255 := by omega
      have htl : 0 ≤ t % 256 ∧ t % 256 ≤ 255 := by omega
      have htt := Lib.hid (show t / 256 * 256 + t % 256 = t by omega)
      generalize t / 256 = th at et hth htt
      generalize t % 256 = tl at ev htl htt
      obtain ⟨i0, hi0, hz0, hz1, hz2⟩ := info_get ceI
      obtain ⟨m, hm⟩ : ∃ m : Nat, Mm = m := ⟨Mm.toNat, by omega⟩
      have hm19 : m ≤ 19 := by omega
      have HM := Lib.hid hm
      clear hm
      go_enter Try.func8, Try.ntmps8
      go_wp2_with (first
  | ((with_reducible first | refine to_load 3 rfl ?_ | refine to_load 4 rfl ?_ | refine to_load 5 rfl ?_ | refine to_load 24 rfl ?_ | refine to_load 25 rfl ?_); refine Wl_load1 hS (fun _ => by rfl) _ _ rfl (scT _ rfl) ?_; (repeat (first | refine Look.here (of_decide_eq_true rfl) rfl ?_ | refine Look.next ?_)); (with_reducible show wpList _ _ _ _ _ _); simp only [nA])
  | ((with_reducible refine to_bsl ?_); refine Wl_bsl0 hS ?_; clear hS; intro vv EE wW hO hS; simp only [nA])
  | ((with_reducible refine to_bsl ?_); refine Wl_bslV hS (M.mvL lo hi (Mm + 1) 173 tl th) (by decide) (by kernel_rfl) ?_; clear hS; intro b7 wW hge7 hS; simp only [nA])
  | ((with_reducible refine to_alloc 29 rfl ?_); refine Wl_alloc hS (fun _ => by rfl) _ dmZ ?_; clear hS; intro bD wW hS; simp only [nA])
  | ((with_reducible refine to_alloc 32 rfl ?_); refine Wl_alloc hS (fun _ => by rfl) _ cyZ ?_; clear hS; intro bC wW hS; simp only [nA])
  | ((with_reducible refine to_load 29 rfl ?_); refine Wl_load hS (fun _ => by rfl) _ _ rfl _ Try.underlying29 rfl ?_; (repeat (first | (refine Row.here ⟨(dmI.trans rfl), ?_⟩) | refine Row.next ?_)); (with_reducible show wpList _ _ _ _ _ _); simp only [nA])
  | ((with_reducible refine to_store 29 rfl ?_); refine Wl_store hS (fun _ => by rfl) _ _ _ rfl rfl (dmI.trans rfl) (dm_one _ _ _ _) ?_; (repeat (first | refine Turn.here rfl ?_ | refine Turn.next ?_)); clear hS; intro wW hS; try simp only [nA])
  | ((with_reducible refine to_store 32 rfl ?_); refine Wl_store hS (fun _ => by rfl) _ _ _ rfl rfl (cyI.trans rfl) (by simp [Value.oneCell']) ?_; (repeat (first | refine Turn.here rfl ?_ | refine Turn.next ?_)); clear hS; intro wW hS; try simp only [nA]))
      refine (dmawake_any _).mono ?_
      rintro e w1 ⟨rfl, hb⟩
      replace hS := hS.call hb
      clear hb
      go_wp2_with (first
  | ((with_reducible first | refine to_load 3 rfl ?_ | refine to_load 4 rfl ?_ | refine to_load 5 rfl ?_ | refine to_load 24 rfl ?_ | refine to_load 25 rfl ?_); refine Wl_load1 hS (fun _ => by rfl) _ _ rfl (scT _ rfl) ?_; (repeat (first | refine Look.here (of_decide_eq_true rfl) rfl ?_ | refine Look.next ?_)); (with_reducible show wpList _ _ _ _ _ _); simp only [nA])
  | ((with_reducible refine to_bsl ?_); refine Wl_bsl0 hS ?_; clear hS; intro vv EE wW hO hS; simp only [nA])
  | ((with_reducible refine to_bsl ?_); refine Wl_bslV hS (M.mvL lo hi (Mm + 1) 173 tl th) (by decide) (by kernel_rfl) ?_; clear hS; intro b7 wW hge7 hS; simp only [nA])
  | ((with_reducible refine to_alloc 29 rfl ?_); refine Wl_alloc hS (fun _ => by rfl) _ dmZ ?_; clear hS; intro bD wW hS; simp only [nA])
  | ((with_reducible refine to_alloc 32 rfl ?_); refine Wl_alloc hS (fun _ => by rfl) _ cyZ ?_; clear hS; intro bC wW hS; simp only [nA])
  | ((with_reducible refine to_load 29 rfl ?_); refine Wl_load hS (fun _ => by rfl) _ _ rfl _ Try.underlying29 rfl ?_; (repeat (first | (refine Row.here ⟨(dmI.trans rfl), ?_⟩) | refine Row.next ?_)); (with_reducible show wpList _ _ _ _ _ _); simp only [nA])
  | ((with_reducible refine to_store 29 rfl ?_); refine Wl_store hS (fun _ => by rfl) _ _ _ rfl rfl (dmI.trans rfl) (dm_one _ _ _ _) ?_; (repeat (first | refine Turn.here rfl ?_ | refine Turn.next ?_)); clear hS; intro wW hS; try simp only [nA])
  | ((with_reducible refine to_store 32 rfl ?_); refine Wl_store hS (fun _ => by rfl) _ _ _ rfl rfl (cyI.trans rfl) (by simp [Value.oneCell']) ?_; (repeat (first | refine Turn.here rfl ?_ | refine Turn.next ?_)); clear hS; intro wW hS; try simp only [nA]))
      have HO0 := Lib.hid hO
      have HS0 := Lib.hid hS
      clear hO hS
      go_loopw [9, 10] (fun v i wr => ∃ (j : Nat) (E : List Ent), i = .int .i64 j ∧ (j : Int) ≤ Mm + 1 ∧ Own2 v (M.run f j) E ∧ St w.heap.size 0 0 w E wr) (fun _ i _ => (Mm + 1).toNat - (intOf i).toNat)
      case atStart => exact ⟨0, EE, rfl, by omega, HO0.out, HS0.out⟩
      case round =>
        clear HO0 HS0
        obtain ⟨j, E, rfl, hj, hO, hS⟩ := hrel
        have k0' : (0 : Int) ≤ (j : Int) := by omega
        by_cases k1 : (j : Int) < Mm + 1
        · have k3' : (j : Int) < 20 := by omega
          have a0 : IntKind.u16.wrap (j : Int) = (j : Int) := by
            rw [IntKind.wrap_u16]
            omega
          have a2 : IntKind.u8.wrap ((j : Int) + 1) = (j : Int) + 1 := by
            rw [IntKind.wrap_u8]
            omega
          have a1 : IntKind.u16.wrap (f + (j : Int)) = (f + (j : Int)) % 65536 := rfl
          have hrel2 : ∀ v E W, Own2 v (M.run f j ++ [((f + (j : Int)) % 65536, (j : Int) + 1)]) E → St w.heap.size 0 0 w E W → ∃ (j2 : Nat) (E : List Ent), (Value.int .i64 ((j : Int) + 1)) = .int .i64 j2 ∧ (j2 : Int) ≤ Mm + 1 ∧ Own2 v (M.run f j2) E ∧ St w.heap.size 0 0 w E W := fun v E W h1 h2 => ⟨j + 1, E, by simp, by omega, by rw [M.run_succ]; exact h1, h2⟩
          generalize (f + (j : Int)) % 65536 = ad at a1 hrel2
          have HR := Lib.hid hrel2
          clear hrel2
          go_wp2_with (first | ((with_reducible refine to_bsl ?_); refine Wl_bsl1 hS #[.int .u16 ad, .int .u8 ((j : Int) + 1)] (by kernel_rfl) ?_; clear hS; intro b1 wW hge1 hS; simp only [nA]) | ((with_reducible refine to_app ?_); refine Wl_app2 (es := [_]) (E := E) hS hO 58 i0 (.agg #[.int .u16 0, .int .u8 0]) 4 Try.underlying56 hi0 hz0 hz1 hz2 rfl rfl (ad, (j : Int) + 1) (hS.src2 (.head _) Try.underlying56 rfl rfl 1) (by simp [maxLen, M.run_len]; omega) (by simp [M.run_len]; omega) ?_; clear hO hS; intro vv EE wW hO hS; simp only [nA]) | first
  | ((with_reducible first | refine to_load 3 rfl ?_ | refine to_load 4 rfl ?_ | refine to_load 5 rfl ?_ | refine to_load 24 rfl ?_ | refine to_load 25 rfl ?_); refine Wl_load1 hS (fun _ => by rfl) _ _ rfl (scT _ rfl) ?_; (repeat (first | refine Look.here (of_decide_eq_true rfl) rfl ?_ | refine Look.next ?_)); (with_reducible show wpList _ _ _ _ _ _); simp only [nA])
  | ((with_reducible refine to_bsl ?_); refine Wl_bsl0 hS ?_; clear hS; intro vv EE wW hO hS; simp only [nA])
  | ((with_reducible refine to_bsl ?_); refine Wl_bslV hS (M.mvL lo hi (Mm + 1) 173 tl th) (by decide) (by kernel_rfl) ?_; clear hS; intro b7 wW hge7 hS; simp only [nA])
  | ((with_reducible refine to_alloc 29 rfl ?_); refine Wl_alloc hS (fun _ => by rfl) _ dmZ ?_; clear hS; intro bD wW hS; simp only [nA])
  | ((with_reducible refine to_alloc 32 rfl ?_); refine Wl_alloc hS (fun _ => by rfl) _ cyZ ?_; clear hS; intro bC wW hS; simp only [nA])
  | ((with_reducible refine to_load 29 rfl ?_); refine Wl_load hS (fun _ => by rfl) _ _ rfl _ Try.underlying29 rfl ?_; (repeat (first | (refine Row.here ⟨(dmI.trans rfl), ?_⟩) | refine Row.next ?_)); (with_reducible show wpList _ _ _ _ _ _); simp only [nA])
  | ((with_reducible refine to_store 29 rfl ?_); refine Wl_store hS (fun _ => by rfl) _ _ _ rfl rfl (dmI.trans rfl) (dm_one _ _ _ _) ?_; (repeat (first | refine Turn.here rfl ?_ | refine Turn.next ?_)); clear hS; intro wW hS; try simp only [nA])
  | ((with_reducible refine to_store 32 rfl ?_); refine Wl_store hS (fun _ => by rfl) _ _ _ rfl rfl (cyI.trans rfl) (by simp [Value.oneCell']) ?_; (repeat (first | refine Turn.here rfl ?_ | refine Turn.next ?_)); clear hS; intro wW hS; try simp only [nA]))
          go_round
          case rel => exact HR.out _ _ _ hO (hS.sub (List.Sublist.cons _ (List.Sublist.refl _)))
          case measure => simp [intOf]; omega
        · have hje : (j : Int) = Mm + 1 := by omega
          have hjm : j = m + 1 := by have := HM.out; omega
          rw [hjm] at hO
          clear hjm
          go_wp2_with (first
  | ((with_reducible first | refine to_load 3 rfl ?_ | refine to_load 4 rfl ?_ | refine to_load 5 rfl ?_ | refine to_load 24 rfl ?_ | refine to_load 25 rfl ?_); refine Wl_load1 hS (fun _ => by rfl) _ _ rfl (scT _ rfl) ?_; (repeat (first | refine Look.here (of_decide_eq_true rfl) rfl ?_ | refine Look.next ?_)); (with_reducible show wpList _ _ _ _ _ _); simp only [nA])
  | ((with_reducible refine to_bsl ?_); refine Wl_bsl0 hS ?_; clear hS; intro vv EE wW hO hS; simp only [nA])
  | ((with_reducible refine to_bsl ?_); refine Wl_bslV hS (M.mvL lo hi (Mm + 1) 173 tl th) (by decide) (by kernel_rfl) ?_; clear hS; intro b7 wW hge7 hS; simp only [nA])
  | ((with_reducible refine to_alloc 29 rfl ?_); refine Wl_alloc hS (fun _ => by rfl) _ dmZ ?_; clear hS; intro bD wW hS; simp only [nA])
  | ((with_reducible refine to_alloc 32 rfl ?_); refine Wl_alloc hS (fun _ => by rfl) _ cyZ ?_; clear hS; intro bC wW hS; simp only [nA])
  | ((with_reducible refine to_load 29 rfl ?_); refine Wl_load hS (fun _ => by rfl) _ _ rfl _ Try.underlying29 rfl ?_; (repeat (first | (refine Row.here ⟨(dmI.trans rfl), ?_⟩) | refine Row.next ?_)); (with_reducible show wpList _ _ _ _ _ _); simp only [nA])
  | ((with_reducible refine to_store 29 rfl ?_); refine Wl_store hS (fun _ => by rfl) _ _ _ rfl rfl (dmI.trans rfl) (dm_one _ _ _ _) ?_; (repeat (first | refine Turn.here rfl ?_ | refine Turn.next ?_)); clear hS; intro wW hS; try simp only [nA])
  | ((with_reducible refine to_store 32 rfl ?_); refine Wl_store hS (fun _ => by rfl) _ _ _ rfl rfl (cyI.trans rfl) (by simp [Value.oneCell']) ?_; (repeat (first | refine Turn.here rfl ?_ | refine Turn.next ?_)); clear hS; intro wW hS; try simp only [nA]))
          refine (told_any (M.mvL lo hi (Mm + 1) 173 tl th) (by simp [M.mvL]) (M.mv_bytes lo hi (Mm + 1) 173 tl th hlo hhi (by omega) (by decide) htl hth) (some ⟨b7, 0, none⟩) 12 _ (hS.lsOwn (F := 0) (k := .u8) (zs := M.mvL lo hi (Mm + 1) 173 tl th) (Nat.zero_le _) (.head _) (by simp [M.mvL, maxLen]))).mono ?_
          rintro e w1 ⟨A1, c1, rfl, hl, hbl⟩
          replace hS := hS.call hbl
          clear hl hbl
          obtain ⟨hC, hM0, hW0, _, _⟩ := M.mv_told lo hi (Mm + 1) 173 tl th hlo hhi (by omega) htl hth (.inr (.inl rfl))
          have hPok := M.dTold_ok (M.mv_bytes lo hi (Mm + 1) 173 tl th hlo hhi (by omega) (by decide) htl hth)
          have hPl := M.dTold_left (M.mv_bytes lo hi (Mm + 1) 173 tl th hlo hhi (by omega) (by decide) htl hth)
          rw [hff.out, htt.out] at hC hM0
          rw [hW0]
          clear hW0
          generalize M.dTold (M.mvL lo hi (Mm + 1) 173 tl th) = P at hC hM0 hPok hPl ⊢
          rw [HM.out] at hC hM0
          go_wp2_with (first
  | ((with_reducible first | refine to_load 3 rfl ?_ | refine to_load 4 rfl ?_ | refine to_load 5 rfl ?_ | refine to_load 24 rfl ?_ | refine to_load 25 rfl ?_); refine Wl_load1 hS (fun _ => by rfl) _ _ rfl (scT _ rfl) ?_; (repeat (first | refine Look.here (of_decide_eq_true rfl) rfl ?_ | refine Look.next ?_)); (with_reducible show wpList _ _ _ _ _ _); simp only [nA])
  | ((with_reducible refine to_bsl ?_); refine Wl_bsl0 hS ?_; clear hS; intro vv EE wW hO hS; simp only [nA])
  | ((with_reducible refine to_bsl ?_); refine Wl_bslV hS (M.mvL lo hi (Mm + 1) 173 tl th) (by decide) (by kernel_rfl) ?_; clear hS; intro b7 wW hge7 hS; simp only [nA])
  | ((with_reducible refine to_alloc 29 rfl ?_); refine Wl_alloc hS (fun _ => by rfl) _ dmZ ?_; clear hS; intro bD wW hS; simp only [nA])
  | ((with_reducible refine to_alloc 32 rfl ?_); refine Wl_alloc hS (fun _ => by rfl) _ cyZ ?_; clear hS; intro bC wW hS; simp only [nA])
  | ((with_reducible refine to_load 29 rfl ?_); refine Wl_load hS (fun _ => by rfl) _ _ rfl _ Try.underlying29 rfl ?_; (repeat (first | (refine Row.here ⟨(dmI.trans rfl), ?_⟩) | refine Row.next ?_)); (with_reducible show wpList _ _ _ _ _ _); simp only [nA])
  | ((with_reducible refine to_store 29 rfl ?_); refine Wl_store hS (fun _ => by rfl) _ _ _ rfl rfl (dmI.trans rfl) (dm_one _ _ _ _) ?_; (repeat (first | refine Turn.here rfl ?_ | refine Turn.next ?_)); clear hS; intro wW hS; try simp only [nA])
  | ((with_reducible refine to_store 32 rfl ?_); refine Wl_store hS (fun _ => by rfl) _ _ _ rfl rfl (cyI.trans rfl) (by simp [Value.oneCell']) ?_; (repeat (first | refine Turn.here rfl ?_ | refine Turn.next ?_)); clear hS; intro wW hS; try simp only [nA]))
          have HO0 := Lib.hid hO
          have HS0 := Lib.hid (show St w.heap.size 0 0 w (⟨bD, 0, true, P.c (.slice A1 0 c1)⟩ :: E) _ from hS.sub (List.Sublist.cons_cons _ (List.Sublist.cons _ (List.Sublist.refl _))))
          clear hO hS
          go_loopw [9, 12, 13, 14] (fun v r q i wr => ∃ (j : Nat) (E : List Ent), i = .int .i64 j ∧ j ≤ 2 * m + 1 + 1 ∧ r = .int .i64 (((j + 1) / 2 : Nat) : Int) ∧ q = .int .i64 ((j / 2 : Nat) : Int) ∧ Own2 v (M.run f (m + 1) ++ M.run t (j / 2)) E ∧ St w.heap.size 0 0 w (⟨bD, 0, true, (M.mvD P f t m j).c (.slice A1 0 c1)⟩ :: E) wr) (fun _ _ _ i _ => 100 - (intOf i).toNat)
          case atStart => exact ⟨0, E, rfl, Nat.zero_le _, rfl, rfl, by simpa [M.run] using HO0.out, HS0.out⟩
          case round =>
            clear HO0 HS0
            obtain ⟨j, E, rfl, hj2, rfl, rfl, hO, hS⟩ := hrel
            have j0' : (0 : Int) ≤ (j : Int) := by omega
            have j1' : (j : Int) < 100 := by omega
            obtain ⟨gb, gc, hv, hgl, _⟩ := hO.at_ (es := [_]) hS
            subst hv
            have hLL : (M.run f (m + 1) ++ M.run t (j / 2)).length ≤ 50 := by rw [List.length_append, M.run_len, M.run_len]; omega
            have hLb : ∀ p ∈ M.run f (m + 1) ++ M.run t (j / 2), 0 ≤ p.2 ∧ p.2 ≤ 255 := fun p hp => by
              rcases List.mem_append.1 hp with h | h
              · exact M.run_bytes f (m + 1) (by omega) p h
              · exact M.run_bytes t (j / 2) (by omega) p h
            by_cases g : j < 2 * m + 1 + 1
            · have st := M.mvD_st hC hM0 j (by omega)
              have hDk := M.mvD_ok f t m hm19 hPok hPl j (by omega)
              have hvr := M.mvV_range f t m j hm19 (by omega)
              have hll : -9223372036854775807 ≤ (M.mvD P f t m j).left := by have := hDk.2; omega
              have ht := fun W => dmtake_any (M.mvD P f t m j) hDk.1 hll A1 0 c1 (M.mvV f t m j) hvr.1 hvr.2 W
              have hn := fun W => dnext_any (M.mvD P f t m j) hDk.1 A1 0 c1 W
              have d1 := st.1.done
              have e1 : M.mvD P f t m (j + 1) = M.dTake (M.mvD P f t m j) (M.mvV f t m j) := rfl
              have hjh : 0 ≤ ((j / 2 : Nat) : Int) ∧ ((j / 2 : Nat) : Int) ≤ 60 := by omega
              rcases Nat.mod_two_eq_zero_or_one j with hp | hp
              · have hx := st.1
                rw [hp] at hx
                have hx2 := hx.next_rd hC
                rw [hx2] at hn
                have eV : M.mvV f t m j = ((j / 2 : Nat) : Int) + 1 := by unfold M.mvV; rw [if_pos hp]
                have hg := M.get_src hd1.out hd2.out m (j / 2) hm19 (by omega)
                rw [eV] at ht e1
                have hrel2 : ∀ v E W, Own2 v (M.run f (m + 1) ++ M.run t (j / 2)) E → St w.heap.size 0 0 w (⟨bD, 0, true, (M.dTake (M.mvD P f t m j) (((j / 2 : Nat) : Int) + 1)).c (.slice A1 0 c1)⟩ :: E) W → ∃ (j2 : Nat) (E : List Ent), (Value.int .i64 ((j : Int) + 1)) = .int .i64 j2 ∧ j2 ≤ 2 * m + 1 + 1 ∧ Value.int .i64 (((j / 2 : Nat) : Int) + 1) = .int .i64 (((j2 + 1) / 2 : Nat) : Int) ∧ Value.int .i64 ((j / 2 : Nat) : Int) = .int .i64 ((j2 / 2 : Nat) : Int) ∧ Own2 v (M.run f (m + 1) ++ M.run t (j2 / 2)) E ∧ St w.heap.size 0 0 w (⟨bD, 0, true, (M.mvD P f t m j2).c (.slice A1 0 c1)⟩ :: E) W := fun v E W h1 h2 => by
                  have q1 : (j + 1) / 2 = j / 2 := by omega
                  have q2 : (j + 1 + 1) / 2 = j / 2 + 1 := by omega
                  refine ⟨j + 1, E, by simp, by omega, by rw [q2]; simp, by rw [q1], by rw [q1]; exact h1, by rw [e1]; exact h2⟩
                rw [show (j + 1) / 2 = j / 2 by omega]
                have HR := Lib.hid hrel2
                clear hrel2 e1 eV hx hx2 st hDk hvr hll
                generalize M.mvD P f t m j = D at ht hn hS d1 HR
                have eD : D = { D with done := false } := by rw [← d1]
                rw [eD] at ht hn hS HR
                clear eD d1
                generalize ((j / 2 : Nat) : Int) = jh at ht hn HR hg hjh ⊢
                generalize (f + jh) % 65536 = ad at hn hg
                generalize M.run f (m + 1) ++ M.run t (j / 2) = LL at hO hLL hLb hg HR hgl ⊢
                have HT := Lib.hid ht
                have HN := Lib.hid hn
                have HG := Lib.hid hg
                have HLb := Lib.hid hLb
                clear ht hn hg hLb
                go_wp2_with (first
  | ((with_reducible first | refine to_load 3 rfl ?_ | refine to_load 4 rfl ?_ | refine to_load 5 rfl ?_ | refine to_load 24 rfl ?_ | refine to_load 25 rfl ?_); refine Wl_load1 hS (fun _ => by rfl) _ _ rfl (scT _ rfl) ?_; (repeat (first | refine Look.here (of_decide_eq_true rfl) rfl ?_ | refine Look.next ?_)); (with_reducible show wpList _ _ _ _ _ _); simp only [nA])
  | ((with_reducible refine to_bsl ?_); refine Wl_bsl0 hS ?_; clear hS; intro vv EE wW hO hS; simp only [nA])
  | ((with_reducible refine to_bsl ?_); refine Wl_bslV hS (M.mvL lo hi (Mm + 1) 173 tl th) (by decide) (by kernel_rfl) ?_; clear hS; intro b7 wW hge7 hS; simp only [nA])
  | ((with_reducible refine to_alloc 29 rfl ?_); refine Wl_alloc hS (fun _ => by rfl) _ dmZ ?_; clear hS; intro bD wW hS; simp only [nA])
  | ((with_reducible refine to_alloc 32 rfl ?_); refine Wl_alloc hS (fun _ => by rfl) _ cyZ ?_; clear hS; intro bC wW hS; simp only [nA])
  | ((with_reducible refine to_load 29 rfl ?_); refine Wl_load hS (fun _ => by rfl) _ _ rfl _ Try.underlying29 rfl ?_; (repeat (first | (refine Row.here ⟨(dmI.trans rfl), ?_⟩) | refine Row.next ?_)); (with_reducible show wpList _ _ _ _ _ _); simp only [nA])
  | ((with_reducible refine to_store 29 rfl ?_); refine Wl_store hS (fun _ => by rfl) _ _ _ rfl rfl (dmI.trans rfl) (dm_one _ _ _ _) ?_; (repeat (first | refine Turn.here rfl ?_ | refine Turn.next ?_)); clear hS; intro wW hS; try simp only [nA])
  | ((with_reducible refine to_store 32 rfl ?_); refine Wl_store hS (fun _ => by rfl) _ _ _ rfl rfl (cyI.trans rfl) (by simp [Value.oneCell']) ?_; (repeat (first | refine Turn.here rfl ?_ | refine Turn.next ?_)); clear hS; intro wW hS; try simp only [nA]))
                refine (HN.out _).mono ?_
                rintro e w1 ⟨rfl, hb⟩
                replace hS := hS.call hb
                clear hb
                go_wp2_with (first
  | ((with_reducible first | refine to_load 3 rfl ?_ | refine to_load 4 rfl ?_ | refine to_load 5 rfl ?_ | refine to_load 24 rfl ?_ | refine to_load 25 rfl ?_); refine Wl_load1 hS (fun _ => by rfl) _ _ rfl (scT _ rfl) ?_; (repeat (first | refine Look.here (of_decide_eq_true rfl) rfl ?_ | refine Look.next ?_)); (with_reducible show wpList _ _ _ _ _ _); simp only [nA])
  | ((with_reducible refine to_bsl ?_); refine Wl_bsl0 hS ?_; clear hS; intro vv EE wW hO hS; simp only [nA])
  | ((with_reducible refine to_bsl ?_); refine Wl_bslV hS (M.mvL lo hi (Mm + 1) 173 tl th) (by decide) (by kernel_rfl) ?_; clear hS; intro b7 wW hge7 hS; simp only [nA])
  | ((with_reducible refine to_alloc 29 rfl ?_); refine Wl_alloc hS (fun _ => by rfl) _ dmZ ?_; clear hS; intro bD wW hS; simp only [nA])
  | ((with_reducible refine to_alloc 32 rfl ?_); refine Wl_alloc hS (fun _ => by rfl) _ cyZ ?_; clear hS; intro bC wW hS; simp only [nA])
  | ((with_reducible refine to_load 29 rfl ?_); refine Wl_load hS (fun _ => by rfl) _ _ rfl _ Try.underlying29 rfl ?_; (repeat (first | (refine Row.here ⟨(dmI.trans rfl), ?_⟩) | refine Row.next ?_)); (with_reducible show wpList _ _ _ _ _ _); simp only [nA])
  | ((with_reducible refine to_store 29 rfl ?_); refine Wl_store hS (fun _ => by rfl) _ _ _ rfl rfl (dmI.trans rfl) (dm_one _ _ _ _) ?_; (repeat (first | refine Turn.here rfl ?_ | refine Turn.next ?_)); clear hS; intro wW hS; try simp only [nA])
  | ((with_reducible refine to_store 32 rfl ?_); refine Wl_store hS (fun _ => by rfl) _ _ _ rfl rfl (cyI.trans rfl) (by simp [Value.oneCell']) ?_; (repeat (first | refine Turn.here rfl ?_ | refine Turn.next ?_)); clear hS; intro wW hS; try simp only [nA]))
                obtain ⟨gb2, gc2, hv2, _, hcells⟩ := hO.at_ (es := [_, _]) hS
                simp only [Value.slice.injEq, Option.some.injEq, Addr.mk.injEq, and_true, true_and] at hv2
                obtain ⟨rfl, rfl⟩ := hv2
                refine (get_any LL (by omega) HLb.out ad gb gc hgl _ hcells).mono ?_
                rintro e w1 ⟨rfl, hb⟩
                replace hS := hS.call hb
                clear hb hcells
                rw [HG.out]
                go_wp2_with (first
  | ((with_reducible first | refine to_load 3 rfl ?_ | refine to_load 4 rfl ?_ | refine to_load 5 rfl ?_ | refine to_load 24 rfl ?_ | refine to_load 25 rfl ?_); refine Wl_load1 hS (fun _ => by rfl) _ _ rfl (scT _ rfl) ?_; (repeat (first | refine Look.here (of_decide_eq_true rfl) rfl ?_ | refine Look.next ?_)); (with_reducible show wpList _ _ _ _ _ _); simp only [nA])
  | ((with_reducible refine to_bsl ?_); refine Wl_bsl0 hS ?_; clear hS; intro vv EE wW hO hS; simp only [nA])
  | ((with_reducible refine to_bsl ?_); refine Wl_bslV hS (M.mvL lo hi (Mm + 1) 173 tl th) (by decide) (by kernel_rfl) ?_; clear hS; intro b7 wW hge7 hS; simp only [nA])
  | ((with_reducible refine to_alloc 29 rfl ?_); refine Wl_alloc hS (fun _ => by rfl) _ dmZ ?_; clear hS; intro bD wW hS; simp only [nA])
  | ((with_reducible refine to_alloc 32 rfl ?_); refine Wl_alloc hS (fun _ => by rfl) _ cyZ ?_; clear hS; intro bC wW hS; simp only [nA])
  | ((with_reducible refine to_load 29 rfl ?_); refine Wl_load hS (fun _ => by rfl) _ _ rfl _ Try.underlying29 rfl ?_; (repeat (first | (refine Row.here ⟨(dmI.trans rfl), ?_⟩) | refine Row.next ?_)); (with_reducible show wpList _ _ _ _ _ _); simp only [nA])
  | ((with_reducible refine to_store 29 rfl ?_); refine Wl_store hS (fun _ => by rfl) _ _ _ rfl rfl (dmI.trans rfl) (dm_one _ _ _ _) ?_; (repeat (first | refine Turn.here rfl ?_ | refine Turn.next ?_)); clear hS; intro wW hS; try simp only [nA])
  | ((with_reducible refine to_store 32 rfl ?_); refine Wl_store hS (fun _ => by rfl) _ _ _ rfl rfl (cyI.trans rfl) (by simp [Value.oneCell']) ?_; (repeat (first | refine Turn.here rfl ?_ | refine Turn.next ?_)); clear hS; intro wW hS; try simp only [nA]))
                refine (HT.out _).mono ?_
                rintro e w1 ⟨rfl, hb⟩
                replace hS := hS.call hb
                clear hb
                go_wp2_with (first
  | ((with_reducible first | refine to_load 3 rfl ?_ | refine to_load 4 rfl ?_ | refine to_load 5 rfl ?_ | refine to_load 24 rfl ?_ | refine to_load 25 rfl ?_); refine Wl_load1 hS (fun _ => by rfl) _ _ rfl (scT _ rfl) ?_; (repeat (first | refine Look.here (of_decide_eq_true rfl) rfl ?_ | refine Look.next ?_)); (with_reducible show wpList _ _ _ _ _ _); simp only [nA])
  | ((with_reducible refine to_bsl ?_); refine Wl_bsl0 hS ?_; clear hS; intro vv EE wW hO hS; simp only [nA])
  | ((with_reducible refine to_bsl ?_); refine Wl_bslV hS (M.mvL lo hi (Mm + 1) 173 tl th) (by decide) (by kernel_rfl) ?_; clear hS; intro b7 wW hge7 hS; simp only [nA])
  | ((with_reducible refine to_alloc 29 rfl ?_); refine Wl_alloc hS (fun _ => by rfl) _ dmZ ?_; clear hS; intro bD wW hS; simp only [nA])
  | ((with_reducible refine to_alloc 32 rfl ?_); refine Wl_alloc hS (fun _ => by rfl) _ cyZ ?_; clear hS; intro bC wW hS; simp only [nA])
  | ((with_reducible refine to_load 29 rfl ?_); refine Wl_load hS (fun _ => by rfl) _ _ rfl _ Try.underlying29 rfl ?_; (repeat (first | (refine Row.here ⟨(dmI.trans rfl), ?_⟩) | refine Row.next ?_)); (with_reducible show wpList _ _ _ _ _ _); simp only [nA])
  | ((with_reducible refine to_store 29 rfl ?_); refine Wl_store hS (fun _ => by rfl) _ _ _ rfl rfl (dmI.trans rfl) (dm_one _ _ _ _) ?_; (repeat (first | refine Turn.here rfl ?_ | refine Turn.next ?_)); clear hS; intro wW hS; try simp only [nA])
  | ((with_reducible refine to_store 32 rfl ?_); refine Wl_store hS (fun _ => by rfl) _ _ _ rfl rfl (cyI.trans rfl) (by simp [Value.oneCell']) ?_; (repeat (first | refine Turn.here rfl ?_ | refine Turn.next ?_)); clear hS; intro wW hS; try simp only [nA]))
                go_round
                case rel => exact HR.out _ _ _ hO (hS.sub (List.Sublist.cons _ (List.Sublist.refl _)))
                case measure => simp [intOf]; omega
              · have hx := st.1
                rw [hp] at hx
                have hx2 := hx.next_wr hC
                rw [st.2 hp] at hx2
                rw [hx2] at hn
                have eV : M.mvV f t m j = M.get (M.run f (m + 1) ++ M.run t (j / 2)) ((t + ((j / 2 : Nat) : Int)) % 65536) := by unfold M.mvV; rw [if_neg (by omega)]
                have hgr := M.get_range _ hLb ((t + ((j / 2 : Nat) : Int)) % 65536)
                rw [eV] at ht e1
                have hrel2 : ∀ v E W, Own2 v ((M.run f (m + 1) ++ M.run t (j / 2)) ++ [((t + ((j / 2 : Nat) : Int)) % 65536, ((j / 2 : Nat) : Int) + 1)]) E → St w.heap.size 0 0 w (⟨bD, 0, true, (M.dTake (M.mvD P f t m j) (M.get (M.run f (m + 1) ++ M.run t (j / 2)) ((t + ((j / 2 : Nat) : Int)) % 65536))).c (.slice A1 0 c1)⟩ :: E) W → ∃ (j2 : Nat) (E : List Ent), (Value.int .i64 ((j : Int) + 1)) = .int .i64 j2 ∧ j2 ≤ 2 * m + 1 + 1 ∧ Value.int .i64 (((j / 2 : Nat) : Int) + 1) = .int .i64 (((j2 + 1) / 2 : Nat) : Int) ∧ Value.int .i64 (((j / 2 : Nat) : Int) + 1) = .int .i64 ((j2 / 2 : Nat) : Int) ∧ Own2 v (M.run f (m + 1) ++ M.run t (j2 / 2)) E ∧ St w.heap.size 0 0 w (⟨bD, 0, true, (M.mvD P f t m j2).c (.slice A1 0 c1)⟩ :: E) W := fun v E W h1 h2 => by
                  have q1 : (j + 1) / 2 = j / 2 + 1 := by omega
                  have q2 : (j + 1 + 1) / 2 = j / 2 + 1 := by omega
                  refine ⟨j + 1, E, by simp, by omega, by rw [q2]; simp, by rw [q1]; simp, by rw [q1, M.run_succ t (j / 2), ← List.append_assoc]; exact h1, by rw [e1]; exact h2⟩
                rw [show (((j + 1) / 2 : Nat) : Int) = ((j / 2 : Nat) : Int) + 1 by omega]
                have HR := Lib.hid hrel2
                clear hrel2 e1 eV hx hx2 st hDk hvr hll
                generalize M.mvD P f t m j = D at ht hn hS d1 HR
                have eD : D = { D with done := false } := by rw [← d1]
                rw [eD] at ht hn hS HR
                clear eD d1
                generalize ((j / 2 : Nat) : Int) = jh at ht hn HR hgr hjh ⊢
                generalize (t + jh) % 65536 = ad at hn hgr ht HR
                generalize M.run f (m + 1) ++ M.run t (j / 2) = LL at hO hLL hLb hgr ht HR hgl ⊢
                obtain ⟨gv, hgv⟩ : ∃ gv, M.get LL ad = gv := ⟨_, rfl⟩
                rw [hgv] at ht HR hgr
                have HT := Lib.hid ht
                have HN := Lib.hid hn
                have HG := Lib.hid hgv
                have HLb := Lib.hid hLb
                clear ht hn hgv hLb
                go_wp2_with (first
  | ((with_reducible first | refine to_load 3 rfl ?_ | refine to_load 4 rfl ?_ | refine to_load 5 rfl ?_ | refine to_load 24 rfl ?_ | refine to_load 25 rfl ?_); refine Wl_load1 hS (fun _ => by rfl) _ _ rfl (scT _ rfl) ?_; (repeat (first | refine Look.here (of_decide_eq_true rfl) rfl ?_ | refine Look.next ?_)); (with_reducible show wpList _ _ _ _ _ _); simp only [nA])
  | ((with_reducible refine to_bsl ?_); refine Wl_bsl0 hS ?_; clear hS; intro vv EE wW hO hS; simp only [nA])
  | ((with_reducible refine to_bsl ?_); refine Wl_bslV hS (M.mvL lo hi (Mm + 1) 173 tl th) (by decide) (by kernel_rfl) ?_; clear hS; intro b7 wW hge7 hS; simp only [nA])
  | ((with_reducible refine to_alloc 29 rfl ?_); refine Wl_alloc hS (fun _ => by rfl) _ dmZ ?_; clear hS; intro bD wW hS; simp only [nA])
  | ((with_reducible refine to_alloc 32 rfl ?_); refine Wl_alloc hS (fun _ => by rfl) _ cyZ ?_; clear hS; intro bC wW hS; simp only [nA])
  | ((with_reducible refine to_load 29 rfl ?_); refine Wl_load hS (fun _ => by rfl) _ _ rfl _ Try.underlying29 rfl ?_; (repeat (first | (refine Row.here ⟨(dmI.trans rfl), ?_⟩) | refine Row.next ?_)); (with_reducible show wpList _ _ _ _ _ _); simp only [nA])
  | ((with_reducible refine to_store 29 rfl ?_); refine Wl_store hS (fun _ => by rfl) _ _ _ rfl rfl (dmI.trans rfl) (dm_one _ _ _ _) ?_; (repeat (first | refine Turn.here rfl ?_ | refine Turn.next ?_)); clear hS; intro wW hS; try simp only [nA])
  | ((with_reducible refine to_store 32 rfl ?_); refine Wl_store hS (fun _ => by rfl) _ _ _ rfl rfl (cyI.trans rfl) (by simp [Value.oneCell']) ?_; (repeat (first | refine Turn.here rfl ?_ | refine Turn.next ?_)); clear hS; intro wW hS; try simp only [nA]))
                refine (HN.out _).mono ?_
                rintro e w1 ⟨rfl, hb⟩
                replace hS := hS.call hb
                clear hb
                go_wp2_with (first
  | ((with_reducible first | refine to_load 3 rfl ?_ | refine to_load 4 rfl ?_ | refine to_load 5 rfl ?_ | refine to_load 24 rfl ?_ | refine to_load 25 rfl ?_); refine Wl_load1 hS (fun _ => by rfl) _ _ rfl (scT _ rfl) ?_; (repeat (first | refine Look.here (of_decide_eq_true rfl) rfl ?_ | refine Look.next ?_)); (with_reducible show wpList _ _ _ _ _ _); simp only [nA])
  | ((with_reducible refine to_bsl ?_); refine Wl_bsl0 hS ?_; clear hS; intro vv EE wW hO hS; simp only [nA])
  | ((with_reducible refine to_bsl ?_); refine Wl_bslV hS (M.mvL lo hi (Mm + 1) 173 tl th) (by decide) (by kernel_rfl) ?_; clear hS; intro b7 wW hge7 hS; simp only [nA])
  | ((with_reducible refine to_alloc 29 rfl ?_); refine Wl_alloc hS (fun _ => by rfl) _ dmZ ?_; clear hS; intro bD wW hS; simp only [nA])
  | ((with_reducible refine to_alloc 32 rfl ?_); refine Wl_alloc hS (fun _ => by rfl) _ cyZ ?_; clear hS; intro bC wW hS; simp only [nA])
  | ((with_reducible refine to_load 29 rfl ?_); refine Wl_load hS (fun _ => by rfl) _ _ rfl _ Try.underlying29 rfl ?_; (repeat (first | (refine Row.here ⟨(dmI.trans rfl), ?_⟩) | refine Row.next ?_)); (with_reducible show wpList _ _ _ _ _ _); simp only [nA])
  | ((with_reducible refine to_store 29 rfl ?_); refine Wl_store hS (fun _ => by rfl) _ _ _ rfl rfl (dmI.trans rfl) (dm_one _ _ _ _) ?_; (repeat (first | refine Turn.here rfl ?_ | refine Turn.next ?_)); clear hS; intro wW hS; try simp only [nA])
  | ((with_reducible refine to_store 32 rfl ?_); refine Wl_store hS (fun _ => by rfl) _ _ _ rfl rfl (cyI.trans rfl) (by simp [Value.oneCell']) ?_; (repeat (first | refine Turn.here rfl ?_ | refine Turn.next ?_)); clear hS; intro wW hS; try simp only [nA]))
                obtain ⟨gb2, gc2, hv2, _, hcells⟩ := hO.at_ (es := [_, _]) hS
                simp only [Value.slice.injEq, Option.some.injEq, Addr.mk.injEq, and_true, true_and] at hv2
                obtain ⟨rfl, rfl⟩ := hv2
                refine (get_any LL (by omega) HLb.out ad gb gc hgl _ hcells).mono ?_
                rintro e w1 ⟨rfl, hb⟩
                replace hS := hS.call hb
                clear hb hcells
                rw [HG.out]
                have hmx : LL.length + 1 ≤ maxLen := by
                  simp only [maxLen]
                  omega
                have hmy : (LL.length + 1) * 4 ≤ 140737488355328 := by omega
                go_wp2_with (first | ((with_reducible refine to_bsl ?_); refine Wl_bsl1 hS #[.int .u16 ad, .int .u8 (jh + 1)] (by kernel_rfl) ?_; clear hS; intro b1 wW hge1 hS; simp only [nA]) | ((with_reducible refine to_app ?_); have hS3 : St w.heap.size 0 0 w ([⟨b1, 0, true, #[.int .u16 ad, .int .u8 (jh + 1)]⟩, ⟨bC, 0, true, #[.int .i64 3, .int .u16 ad, .int .u8 (jh + 1), .int .i64 3]⟩, ⟨bD, 0, true, ({ D with done := false } : M.Dm).c (.slice A1 0 c1)⟩] ++ E) wW := hS; have hsrc := hS.src2 (P := Try.prog) (.head _) Try.underlying56 rfl rfl 1; refine Wl_app2 hS3 hO 58 i0 (.agg #[.int .u16 0, .int .u8 0]) 4 Try.underlying56 hi0 hz0 hz1 hz2 rfl rfl (ad, jh + 1) hsrc hmx hmy ?_; clear hO hS hS3 hsrc; intro vv EE wW hO hS; simp only [nA]) | first
  | ((with_reducible first | refine to_load 3 rfl ?_ | refine to_load 4 rfl ?_ | refine to_load 5 rfl ?_ | refine to_load 24 rfl ?_ | refine to_load 25 rfl ?_); refine Wl_load1 hS (fun _ => by rfl) _ _ rfl (scT _ rfl) ?_; (repeat (first | refine Look.here (of_decide_eq_true rfl) rfl ?_ | refine Look.next ?_)); (with_reducible show wpList _ _ _ _ _ _); simp only [nA])
  | ((with_reducible refine to_bsl ?_); refine Wl_bsl0 hS ?_; clear hS; intro vv EE wW hO hS; simp only [nA])
  | ((with_reducible refine to_bsl ?_); refine Wl_bslV hS (M.mvL lo hi (Mm + 1) 173 tl th) (by decide) (by kernel_rfl) ?_; clear hS; intro b7 wW hge7 hS; simp only [nA])
  | ((with_reducible refine to_alloc 29 rfl ?_); refine Wl_alloc hS (fun _ => by rfl) _ dmZ ?_; clear hS; intro bD wW hS; simp only [nA])
  | ((with_reducible refine to_alloc 32 rfl ?_); refine Wl_alloc hS (fun _ => by rfl) _ cyZ ?_; clear hS; intro bC wW hS; simp only [nA])
  | ((with_reducible refine to_load 29 rfl ?_); refine Wl_load hS (fun _ => by rfl) _ _ rfl _ Try.underlying29 rfl ?_; (repeat (first | (refine Row.here ⟨(dmI.trans rfl), ?_⟩) | refine Row.next ?_)); (with_reducible show wpList _ _ _ _ _ _); simp only [nA])
  | ((with_reducible refine to_store 29 rfl ?_); refine Wl_store hS (fun _ => by rfl) _ _ _ rfl rfl (dmI.trans rfl) (dm_one _ _ _ _) ?_; (repeat (first | refine Turn.here rfl ?_ | refine Turn.next ?_)); clear hS; intro wW hS; try simp only [nA])
  | ((with_reducible refine to_store 32 rfl ?_); refine Wl_store hS (fun _ => by rfl) _ _ _ rfl rfl (cyI.trans rfl) (by simp [Value.oneCell']) ?_; (repeat (first | refine Turn.here rfl ?_ | refine Turn.next ?_)); clear hS; intro wW hS; try simp only [nA]))
                refine (HT.out _).mono ?_
                rintro e w1 ⟨rfl, hb⟩
                replace hS := hS.call hb
                clear hb
                go_wp2_with (first
  | ((with_reducible first | refine to_load 3 rfl ?_ | refine to_load 4 rfl ?_ | refine to_load 5 rfl ?_ | refine to_load 24 rfl ?_ | refine to_load 25 rfl ?_); refine Wl_load1 hS (fun _ => by rfl) _ _ rfl (scT _ rfl) ?_; (repeat (first | refine Look.here (of_decide_eq_true rfl) rfl ?_ | refine Look.next ?_)); (with_reducible show wpList _ _ _ _ _ _); simp only [nA])
  | ((with_reducible refine to_bsl ?_); refine Wl_bsl0 hS ?_; clear hS; intro vv EE wW hO hS; simp only [nA])
  | ((with_reducible refine to_bsl ?_); refine Wl_bslV hS (M.mvL lo hi (Mm + 1) 173 tl th) (by decide) (by kernel_rfl) ?_; clear hS; intro b7 wW hge7 hS; simp only [nA])
  | ((with_reducible refine to_alloc 29 rfl ?_); refine Wl_alloc hS (fun _ => by rfl) _ dmZ ?_; clear hS; intro bD wW hS; simp only [nA])
  | ((with_reducible refine to_alloc 32 rfl ?_); refine Wl_alloc hS (fun _ => by rfl) _ cyZ ?_; clear hS; intro bC wW hS; simp only [nA])
  | ((with_reducible refine to_load 29 rfl ?_); refine Wl_load hS (fun _ => by rfl) _ _ rfl _ Try.underlying29 rfl ?_; (repeat (first | (refine Row.here ⟨(dmI.trans rfl), ?_⟩) | refine Row.next ?_)); (with_reducible show wpList _ _ _ _ _ _); simp only [nA])
  | ((with_reducible refine to_store 29 rfl ?_); refine Wl_store hS (fun _ => by rfl) _ _ _ rfl rfl (dmI.trans rfl) (dm_one _ _ _ _) ?_; (repeat (first | refine Turn.here rfl ?_ | refine Turn.next ?_)); clear hS; intro wW hS; try simp only [nA])
  | ((with_reducible refine to_store 32 rfl ?_); refine Wl_store hS (fun _ => by rfl) _ _ _ rfl rfl (cyI.trans rfl) (by simp [Value.oneCell']) ?_; (repeat (first | refine Turn.here rfl ?_ | refine Turn.next ?_)); clear hS; intro wW hS; try simp only [nA]))
                go_round
                case rel => exact HR.out _ _ _ hO (hS.sub (List.Sublist.cons _ (List.Sublist.cons _ (List.Sublist.refl _))))
                case measure => simp [intOf]; omega
            · have hje2 : j = 2 * m + 1 + 1 := by omega
              have hE := M.mvD_end hC hM0
              rw [← hje2] at hE
              have hq1 : (((j + 1) / 2 : Nat) : Int) = Mm + 1 := by have := HM.out; omega
              have hq2 : ((j / 2 : Nat) : Int) = Mm + 1 := by have := HM.out; omega
              have hq3 : j / 2 = m + 1 := by omega
              rw [hq1, hq2]
              rw [hq3] at hO hLL hLb hgl ⊢
              have hwa := fun r W => dwants_any (M.mvD P f t m j) A1 0 c1 r W
              have hwf : ∀ r, M.dWants (M.mvD P f t m j) r = false := fun r => by simp [M.dWants, M.dOpen, hE]
              simp only [hwf] at hwa
              clear hq1 hq2 hq3 hwf hje2
              generalize M.mvD P f t m j = D at hS hE hwa
              have eD : D = { D with done := true } := by rw [← hE]
              rw [eD] at hS hwa
              clear eD hE
              have hg := fun (i : Nat) (hi : i ≤ m) => M.get_dst (f := f) (t := t) m i hm19 hi
              generalize M.run f (m + 1) ++ M.run t (m + 1) = LL at hO hLL hLb hgl hg ⊢
              have HWA := Lib.hid hwa
              have HG := Lib.hid hg
              have HLb := Lib.hid hLb
              clear hwa hg hLb
              go_wp2_with (first
  | ((with_reducible first | refine to_load 3 rfl ?_ | refine to_load 4 rfl ?_ | refine to_load 5 rfl ?_ | refine to_load 24 rfl ?_ | refine to_load 25 rfl ?_); refine Wl_load1 hS (fun _ => by rfl) _ _ rfl (scT _ rfl) ?_; (repeat (first | refine Look.here (of_decide_eq_true rfl) rfl ?_ | refine Look.next ?_)); (with_reducible show wpList _ _ _ _ _ _); simp only [nA])
  | ((with_reducible refine to_bsl ?_); refine Wl_bsl0 hS ?_; clear hS; intro vv EE wW hO hS; simp only [nA])
  | ((with_reducible refine to_bsl ?_); refine Wl_bslV hS (M.mvL lo hi (Mm + 1) 173 tl th) (by decide) (by kernel_rfl) ?_; clear hS; intro b7 wW hge7 hS; simp only [nA])
  | ((with_reducible refine to_alloc 29 rfl ?_); refine Wl_alloc hS (fun _ => by rfl) _ dmZ ?_; clear hS; intro bD wW hS; simp only [nA])
  | ((with_reducible refine to_alloc 32 rfl ?_); refine Wl_alloc hS (fun _ => by rfl) _ cyZ ?_; clear hS; intro bC wW hS; simp only [nA])
  | ((with_reducible refine to_load 29 rfl ?_); refine Wl_load hS (fun _ => by rfl) _ _ rfl _ Try.underlying29 rfl ?_; (repeat (first | (refine Row.here ⟨(dmI.trans rfl), ?_⟩) | refine Row.next ?_)); (with_reducible show wpList _ _ _ _ _ _); simp only [nA])
  | ((with_reducible refine to_store 29 rfl ?_); refine Wl_store hS (fun _ => by rfl) _ _ _ rfl rfl (dmI.trans rfl) (dm_one _ _ _ _) ?_; (repeat (first | refine Turn.here rfl ?_ | refine Turn.next ?_)); clear hS; intro wW hS; try simp only [nA])
  | ((with_reducible refine to_store 32 rfl ?_); refine Wl_store hS (fun _ => by rfl) _ _ _ rfl rfl (cyI.trans rfl) (by simp [Value.oneCell']) ?_; (repeat (first | refine Turn.here rfl ?_ | refine Turn.next ?_)); clear hS; intro wW hS; try simp only [nA]))
              have HO1 := Lib.hid hO
              have HS1 := Lib.hid hS
              clear hO hS
              go_loopw [17] (fun s wr => ∃ i : Nat, s = .int .i64 i ∧ (i : Int) ≤ Mm + 1 ∧ St w.heap.size 0 0 w (⟨bD, 0, true, ({ D with done := true } : M.Dm).c (.slice A1 0 c1)⟩ :: E) wr) (fun s _ => (Mm + 1).toNat - (intOf s).toNat)
              case atStart => exact ⟨0, rfl, by omega, HS1.out⟩
              case round =>
                clear HS1
                obtain ⟨i, rfl, hi, hS⟩ := hrel
                have i0' : (0 : Int) ≤ (i : Int) := by omega
                by_cases k2 : (i : Int) < Mm + 1
                · have k3' : (i : Int) < 20 := by omega
                  have hgi := HG.out i (by have := HM.out; omega)
                  have a0 : IntKind.u16.wrap (i : Int) = (i : Int) := by
                    rw [IntKind.wrap_u16]
                    omega
                  have a2 : IntKind.u8.wrap ((i : Int) + 1) = (i : Int) + 1 := by
                    rw [IntKind.wrap_u8]
                    omega
                  have a1 : IntKind.u16.wrap (t + (i : Int)) = (t + (i : Int)) % 65536 := rfl
                  generalize (t + (i : Int)) % 65536 = ad at a1 hgi
                  have HGi := Lib.hid hgi
                  clear hgi
                  obtain ⟨gb2, gc2, hv2, _, hcells⟩ := HO1.out.at_ (es := [_]) hS
                  simp only [Value.slice.injEq, Option.some.injEq, Addr.mk.injEq, and_true, true_and] at hv2
                  obtain ⟨rfl, rfl⟩ := hv2
                  have hget := get_any LL (by omega) HLb.out ad gb gc hgl _ hcells
                  rw [HGi.out] at hget
                  have HGE := Lib.hid hget
                  clear hget hcells
                  go_wp2_with (first
  | ((with_reducible first | refine to_load 3 rfl ?_ | refine to_load 4 rfl ?_ | refine to_load 5 rfl ?_ | refine to_load 24 rfl ?_ | refine to_load 25 rfl ?_); refine Wl_load1 hS (fun _ => by rfl) _ _ rfl (scT _ rfl) ?_; (repeat (first | refine Look.here (of_decide_eq_true rfl) rfl ?_ | refine Look.next ?_)); (with_reducible show wpList _ _ _ _ _ _); simp only [nA])
  | ((with_reducible refine to_bsl ?_); refine Wl_bsl0 hS ?_; clear hS; intro vv EE wW hO hS; simp only [nA])
  | ((with_reducible refine to_bsl ?_); refine Wl_bslV hS (M.mvL lo hi (Mm + 1) 173 tl th) (by decide) (by kernel_rfl) ?_; clear hS; intro b7 wW hge7 hS; simp only [nA])
  | ((with_reducible refine to_alloc 29 rfl ?_); refine Wl_alloc hS (fun _ => by rfl) _ dmZ ?_; clear hS; intro bD wW hS; simp only [nA])
  | ((with_reducible refine to_alloc 32 rfl ?_); refine Wl_alloc hS (fun _ => by rfl) _ cyZ ?_; clear hS; intro bC wW hS; simp only [nA])
  | ((with_reducible refine to_load 29 rfl ?_); refine Wl_load hS (fun _ => by rfl) _ _ rfl _ Try.underlying29 rfl ?_; (repeat (first | (refine Row.here ⟨(dmI.trans rfl), ?_⟩) | refine Row.next ?_)); (with_reducible show wpList _ _ _ _ _ _); simp only [nA])
  | ((with_reducible refine to_store 29 rfl ?_); refine Wl_store hS (fun _ => by rfl) _ _ _ rfl rfl (dmI.trans rfl) (dm_one _ _ _ _) ?_; (repeat (first | refine Turn.here rfl ?_ | refine Turn.next ?_)); clear hS; intro wW hS; try simp only [nA])
  | ((with_reducible refine to_store 32 rfl ?_); refine Wl_store hS (fun _ => by rfl) _ _ _ rfl rfl (cyI.trans rfl) (by simp [Value.oneCell']) ?_; (repeat (first | refine Turn.here rfl ?_ | refine Turn.next ?_)); clear hS; intro wW hS; try simp only [nA]))
                  refine HGE.out.mono ?_
                  rintro e w1 ⟨rfl, hb⟩
                  replace hS := hS.call hb
                  clear hb
                  go_wp2_with (first
  | ((with_reducible first | refine to_load 3 rfl ?_ | refine to_load 4 rfl ?_ | refine to_load 5 rfl ?_ | refine to_load 24 rfl ?_ | refine to_load 25 rfl ?_); refine Wl_load1 hS (fun _ => by rfl) _ _ rfl (scT _ rfl) ?_; (repeat (first | refine Look.here (of_decide_eq_true rfl) rfl ?_ | refine Look.next ?_)); (with_reducible show wpList _ _ _ _ _ _); simp only [nA])
  | ((with_reducible refine to_bsl ?_); refine Wl_bsl0 hS ?_; clear hS; intro vv EE wW hO hS; simp only [nA])
  | ((with_reducible refine to_bsl ?_); refine Wl_bslV hS (M.mvL lo hi (Mm + 1) 173 tl th) (by decide) (by kernel_rfl) ?_; clear hS; intro b7 wW hge7 hS; simp only [nA])
  | ((with_reducible refine to_alloc 29 rfl ?_); refine Wl_alloc hS (fun _ => by rfl) _ dmZ ?_; clear hS; intro bD wW hS; simp only [nA])
  | ((with_reducible refine to_alloc 32 rfl ?_); refine Wl_alloc hS (fun _ => by rfl) _ cyZ ?_; clear hS; intro bC wW hS; simp only [nA])
  | ((with_reducible refine to_load 29 rfl ?_); refine Wl_load hS (fun _ => by rfl) _ _ rfl _ Try.underlying29 rfl ?_; (repeat (first | (refine Row.here ⟨(dmI.trans rfl), ?_⟩) | refine Row.next ?_)); (with_reducible show wpList _ _ _ _ _ _); simp only [nA])
  | ((with_reducible refine to_store 29 rfl ?_); refine Wl_store hS (fun _ => by rfl) _ _ _ rfl rfl (dmI.trans rfl) (dm_one _ _ _ _) ?_; (repeat (first | refine Turn.here rfl ?_ | refine Turn.next ?_)); clear hS; intro wW hS; try simp only [nA])
  | ((with_reducible refine to_store 32 rfl ?_); refine Wl_store hS (fun _ => by rfl) _ _ _ rfl rfl (cyI.trans rfl) (by simp [Value.oneCell']) ?_; (repeat (first | refine Turn.here rfl ?_ | refine Turn.next ?_)); clear hS; intro wW hS; try simp only [nA]))
                  go_round
                  case rel => exact ⟨i + 1, by simp, by omega, hS⟩
                  case measure => simp [intOf]; omega
                · have hie : (i : Int) = Mm + 1 := by omega
                  go_wp2_with (first
  | ((with_reducible first | refine to_load 3 rfl ?_ | refine to_load 4 rfl ?_ | refine to_load 5 rfl ?_ | refine to_load 24 rfl ?_ | refine to_load 25 rfl ?_); refine Wl_load1 hS (fun _ => by rfl) _ _ rfl (scT _ rfl) ?_; (repeat (first | refine Look.here (of_decide_eq_true rfl) rfl ?_ | refine Look.next ?_)); (with_reducible show wpList _ _ _ _ _ _); simp only [nA])
  | ((with_reducible refine to_bsl ?_); refine Wl_bsl0 hS ?_; clear hS; intro vv EE wW hO hS; simp only [nA])
  | ((with_reducible refine to_bsl ?_); refine Wl_bslV hS (M.mvL lo hi (Mm + 1) 173 tl th) (by decide) (by kernel_rfl) ?_; clear hS; intro b7 wW hge7 hS; simp only [nA])
  | ((with_reducible refine to_alloc 29 rfl ?_); refine Wl_alloc hS (fun _ => by rfl) _ dmZ ?_; clear hS; intro bD wW hS; simp only [nA])
  | ((with_reducible refine to_alloc 32 rfl ?_); refine Wl_alloc hS (fun _ => by rfl) _ cyZ ?_; clear hS; intro bC wW hS; simp only [nA])
  | ((with_reducible refine to_load 29 rfl ?_); refine Wl_load hS (fun _ => by rfl) _ _ rfl _ Try.underlying29 rfl ?_; (repeat (first | (refine Row.here ⟨(dmI.trans rfl), ?_⟩) | refine Row.next ?_)); (with_reducible show wpList _ _ _ _ _ _); simp only [nA])
  | ((with_reducible refine to_store 29 rfl ?_); refine Wl_store hS (fun _ => by rfl) _ _ _ rfl rfl (dmI.trans rfl) (dm_one _ _ _ _) ?_; (repeat (first | refine Turn.here rfl ?_ | refine Turn.next ?_)); clear hS; intro wW hS; try simp only [nA])
  | ((with_reducible refine to_store 32 rfl ?_); refine Wl_store hS (fun _ => by rfl) _ _ _ rfl rfl (cyI.trans rfl) (by simp [Value.oneCell']) ?_; (repeat (first | refine Turn.here rfl ?_ | refine Turn.next ?_)); clear hS; intro wW hS; try simp only [nA]))
                  refine (HWA.out false _).mono ?_
                  rintro e w1 ⟨rfl, hb⟩
                  replace hS := hS.call hb
                  clear hb
                  go_wp2_with (first
  | ((with_reducible first | refine to_load 3 rfl ?_ | refine to_load 4 rfl ?_ | refine to_load 5 rfl ?_ | refine to_load 24 rfl ?_ | refine to_load 25 rfl ?_); refine Wl_load1 hS (fun _ => by rfl) _ _ rfl (scT _ rfl) ?_; (repeat (first | refine Look.here (of_decide_eq_true rfl) rfl ?_ | refine Look.next ?_)); (with_reducible show wpList _ _ _ _ _ _); simp only [nA])
  | ((with_reducible refine to_bsl ?_); refine Wl_bsl0 hS ?_; clear hS; intro vv EE wW hO hS; simp only [nA])
  | ((with_reducible refine to_bsl ?_); refine Wl_bslV hS (M.mvL lo hi (Mm + 1) 173 tl th) (by decide) (by kernel_rfl) ?_; clear hS; intro b7 wW hge7 hS; simp only [nA])
  | ((with_reducible refine to_alloc 29 rfl ?_); refine Wl_alloc hS (fun _ => by rfl) _ dmZ ?_; clear hS; intro bD wW hS; simp only [nA])
  | ((with_reducible refine to_alloc 32 rfl ?_); refine Wl_alloc hS (fun _ => by rfl) _ cyZ ?_; clear hS; intro bC wW hS; simp only [nA])
  | ((with_reducible refine to_load 29 rfl ?_); refine Wl_load hS (fun _ => by rfl) _ _ rfl _ Try.underlying29 rfl ?_; (repeat (first | (refine Row.here ⟨(dmI.trans rfl), ?_⟩) | refine Row.next ?_)); (with_reducible show wpList _ _ _ _ _ _); simp only [nA])
  | ((with_reducible refine to_store 29 rfl ?_); refine Wl_store hS (fun _ => by rfl) _ _ _ rfl rfl (dmI.trans rfl) (dm_one _ _ _ _) ?_; (repeat (first | refine Turn.here rfl ?_ | refine Turn.next ?_)); clear hS; intro wW hS; try simp only [nA])
  | ((with_reducible refine to_store 32 rfl ?_); refine Wl_store hS (fun _ => by rfl) _ _ _ rfl rfl (cyI.trans rfl) (by simp [Value.oneCell']) ?_; (repeat (first | refine Turn.here rfl ?_ | refine Turn.next ?_)); clear hS; intro wW hS; try simp only [nA]))
                  refine (HWA.out true _).mono ?_
                  rintro e w1 ⟨rfl, hb⟩
                  replace hS := hS.call hb
                  clear hb
                  go_wp2_with (first
  | ((with_reducible first | refine to_load 3 rfl ?_ | refine to_load 4 rfl ?_ | refine to_load 5 rfl ?_ | refine to_load 24 rfl ?_ | refine to_load 25 rfl ?_); refine Wl_load1 hS (fun _ => by rfl) _ _ rfl (scT _ rfl) ?_; (repeat (first | refine Look.here (of_decide_eq_true rfl) rfl ?_ | refine Look.next ?_)); (with_reducible show wpList _ _ _ _ _ _); simp only [nA])
  | ((with_reducible refine to_bsl ?_); refine Wl_bsl0 hS ?_; clear hS; intro vv EE wW hO hS; simp only [nA])
  | ((with_reducible refine to_bsl ?_); refine Wl_bslV hS (M.mvL lo hi (Mm + 1) 173 tl th) (by decide) (by kernel_rfl) ?_; clear hS; intro b7 wW hge7 hS; simp only [nA])
  | ((with_reducible refine to_alloc 29 rfl ?_); refine Wl_alloc hS (fun _ => by rfl) _ dmZ ?_; clear hS; intro bD wW hS; simp only [nA])
  | ((with_reducible refine to_alloc 32 rfl ?_); refine Wl_alloc hS (fun _ => by rfl) _ cyZ ?_; clear hS; intro bC wW hS; simp only [nA])
  | ((with_reducible refine to_load 29 rfl ?_); refine Wl_load hS (fun _ => by rfl) _ _ rfl _ Try.underlying29 rfl ?_; (repeat (first | (refine Row.here ⟨(dmI.trans rfl), ?_⟩) | refine Row.next ?_)); (with_reducible show wpList _ _ _ _ _ _); simp only [nA])
  | ((with_reducible refine to_store 29 rfl ?_); refine Wl_store hS (fun _ => by rfl) _ _ _ rfl rfl (dmI.trans rfl) (dm_one _ _ _ _) ?_; (repeat (first | refine Turn.here rfl ?_ | refine Turn.next ?_)); clear hS; intro wW hS; try simp only [nA])
  | ((with_reducible refine to_store 32 rfl ?_); refine Wl_store hS (fun _ => by rfl) _ _ _ rfl rfl (cyI.trans rfl) (by simp [Value.oneCell']) ?_; (repeat (first | refine Turn.here rfl ?_ | refine Turn.next ?_)); clear hS; intro wW hS; try simp only [nA]))
                  go_returns
                  exact ⟨rfl, hS.below⟩
end Go.Proofs.Ytkkkjdbcckaedaa
