/- charabanclaw22.DmaModes is true whatever the mode, ready or not, whatever the number. -/
import Derived.Test.YtkkkjdbcckaedaaDmAwake
import Derived.Test.YtkkkjdbcckaedaaDmMv
namespace Go.Proofs.Ytkkkjdbcckaedaa
open Go.RowKit
set_option linter.unusedVariables false
set_option linter.unusedSimpArgs false
set_option maxRecDepth 100000
def M.reps (P : M.Dm) (v : Int) : Nat → M.Dm
  | 0 => P
  | j + 1 => M.dTake (M.reps P v j) v
theorem M.reps_p (P : M.Dm) (v : Int) (j : Nat) : (M.reps P v j).p = P.p := by
  induction j with
  | zero => rfl
  | succ j ih => exact (M.dTake_p _ _).trans ih
theorem M.reps_forced (P : M.Dm) (v : Int) (j : Nat) : (M.reps P v j).forced = P.forced := by
  induction j with
  | zero => rfl
  | succ j ih => exact (M.dTake_forced _ _).trans ih
theorem M.reps_ok {P : M.Dm} (v : Int) (v0 : 0 ≤ v) (v1 : v ≤ 255) (h : P.ok) (hl : 0 ≤ P.left) (j : Nat) (hj : j < 1000000) : (M.reps P v j).ok ∧ -(j : Int) ≤ (M.reps P v j).left := by
  induction j with
  | zero => exact ⟨h, by show _ ≤ P.left; omega⟩
  | succ j ih =>
    replace ih := ih (by omega)
    have hl : (-9223372036854775807 : Int) ≤ (M.reps P v j).left := by have := ih.2; omega
    exact ⟨M.dTake_ok ih.1 hl v0 v1, by
      have h := M.dTake_left ih.1 v0 v1 (j : Int) (by omega) ih.2
      show -(((j + 1 : Nat)) : Int) ≤ (M.dTake (M.reps P v j) v).left
      have e : (((j + 1 : Nat)) : Int) = (j : Int) + 1 := by omega
      rw [e]; exact h⟩
def M.moL (K m : Int) : List Int := M.mvL 0 16 (m + 1) (141 + K * 32) 0 32
def M.moD (K m : Int) (j : Nat) : M.Dm := M.reps (M.dTold (M.moL K m)) 1 j
theorem M.moD_zero (K m : Int) : M.moD K m 0 = M.dTold (M.moL K m) := by unfold M.moD M.reps; rfl
def M.moWant (K : Int) (r dn hd : Bool) : Bool := (!dn && K == 1) || (!dn && K == 2 && !r) || hd
theorem M.mo_bytes (K m : Int) (hK : 0 ≤ K ∧ K ≤ 2) (hm : 0 ≤ m ∧ m ≤ 4) : ∀ x ∈ M.moL K m, 0 ≤ x ∧ x ≤ 255 := by
  intro x hx
  simp only [M.moL, M.mvL, List.mem_cons, List.not_mem_nil, or_false] at hx
  omega
theorem M.mo_told (K m : Int) (hK : 0 ≤ K ∧ K ≤ 2) (hm : 0 ≤ m ∧ m ≤ 4) : M.Cf (M.dTold (M.moL K m)).p (16 * 256 + 0) (32 * 256 + 0) (m + 1) false ∧ M.Mv (M.dTold (M.moL K m)).p (16 * 256 + 0) (32 * 256 + 0) (m + 1) 0 false (M.dTold (M.moL K m)) ∧ (M.dTold (M.moL K m)).p.want = [] ∧ (M.dTold (M.moL K m)).p.mode = (141 + K * 32) / 32 % 4 ∧ (M.dTold (M.moL K m)).forced = false := M.mv_told 0 16 (m + 1) (141 + K * 32) 0 32 (by decide) (by decide) (by omega) (by decide) (by decide) (by omega)
theorem M.mo_want (K m : Int) (hK : 0 ≤ K ∧ K ≤ 2) (hm : 0 ≤ m ∧ m ≤ 4) (j : Nat) : (M.moD K m j).p.want = [] := by
  unfold M.moD
  rw [M.reps_p]
  exact (M.mo_told K m hK hm).2.2.1
theorem M.mo_ok (K m : Int) (hK : 0 ≤ K ∧ K ≤ 2) (hm : 0 ≤ m ∧ m ≤ 4) (j : Nat) (hj : j < 1000000) : (M.moD K m j).ok ∧ -(j : Int) ≤ (M.moD K m j).left :=
  M.reps_ok 1 (by decide) (by decide) (M.dTold_ok (M.mo_bytes K m hK hm)) (M.dTold_left (M.mo_bytes K m hK hm)) j hj
theorem M.mo_facts (K m : Int) (hK : 0 ≤ K ∧ K ≤ 2) (hm : 0 ≤ m ∧ m ≤ 4) (j : Nat) (hj : (j : Int) < 2 * (m + 1)) :
    (M.moD K m (j + 1)).held = (j % 2 == 0) ∧ (∀ r : Bool, M.dHolds (M.moD K m (j + 1)) r = M.moWant K r (M.moD K m (j + 1)).done (j % 2 == 0)) ∧ ((j : Int) + 1 = 2 * (m + 1) → (M.moD K m (j + 1)).done = true) := by
  obtain ⟨n, rfl⟩ : ∃ n : Nat, m = n := ⟨m.toNat, by omega⟩
  obtain ⟨c, h, hw, hmode, hfo⟩ := M.mo_told K n hK hm
  have hp : (M.moD K n (j + 1)).p = (M.dTold (M.moL K n)).p := M.reps_p _ _ _
  have hf : (M.moD K n (j + 1)).forced = false := (M.reps_forced _ _ _).trans hfo
  have hmo : (M.moD K n (j + 1)).p.mode = K := by rw [hp, hmode]; omega
  by_cases e : j + 1 < 2 * (n + 1)
  · have g := (M.mo_state c h (M.moD K n) (fun _ => 1) rfl (fun _ => rfl) (j + 1) e).1
    rcases Nat.mod_two_eq_zero_or_one j with hj2 | hj2
    · have e2 : (j + 1) % 2 = 1 := by omega
      rw [e2] at g
      have hh := g.held
      rw [hj2]
      exact ⟨hh, fun r => by simp [M.dHolds, M.moWant, hh], fun e3 => by omega⟩
    · have e2 : (j + 1) % 2 = 0 := by omega
      rw [e2] at g
      have hh := g.held
      have hd := g.done
      have ho := fun r => g.open_ c (by omega) r
      rw [hj2]
      refine ⟨hh, fun r => ?_, fun e3 => by omega⟩
      have o1 := (ho r).1
      have o2 := (ho r).2 hf
      have hKK : K = 0 ∨ K = 1 ∨ K = 2 := by omega
      rcases hKK with rfl | rfl | rfl <;> simp [M.dHolds, M.moWant, hh, hd, hmo, o1, o2]
  · have e3 : j + 1 = 2 * n + 1 + 1 := by omega
    have g := M.mo_end c h (M.moD K n) (fun _ => 1) rfl (fun _ => rfl)
    rw [← e3] at g
    obtain ⟨_, gd, gh, _⟩ := g
    have hj2 : j % 2 = 1 := by omega
    rw [hj2]
    refine ⟨gh, fun r => ?_, fun _ => gd⟩
    have hKK : K = 0 ∨ K = 1 ∨ K = 2 := by omega
    rcases hKK with rfl | rfl | rfl <;> simp [M.dHolds, M.moWant, M.dOpen, M.dWants, gh, gd, hmo]
theorem u8ZI : (Try.prog.info? 5).map (fun i => (i.zero, i.size)) = some (some (.int .u8 0), 1) := by kernel_rfl
theorem Wl_bslV {ops : Array Oper} {rest : List Oper} {a : Act} {Q : Exit → Act → World → Prop} {B o n : Nat} {w W : World} {es : List Ent} {dst : Option Tmp} {ty : TypeId} {len : Nat} {ps : Array (Nat × Operand)} {pos : String} {aft : Array Edge}
    (hS : St B o n w es W) (zs : List Int) (hlen : 0 < len ∧ len ≤ 1000)
    (hf : Instr.fill (fun i => some (i * 1, 1)) ((Array.range (len * 1)).map ((#[.int .u8 0] : Array Value)[· % 1]!)) (ps.map fun (i, x) => (i, a.eval x)).toList = some (ints .u8 zs).toArray)
    (h : ∀ b W', w.heap.size ≤ b → St B o n w (⟨b, 0, true, (ints .u8 zs).toArray⟩ :: es) W' → wpList Try.prog ops Q rest (a.put dst (.slice (some ⟨b, 0, none⟩) len len)) W') :
    Wl Try.prog ops Q ({ dst := dst, op := .buildSlice 22 len ps, type := ty, pos := pos, after := aft, guard := none } :: rest) a W := by
  cases hie : Try.prog.info? 5 with
  | none => have := u8ZI; rw [hie] at this; cases this
  | some ie =>
    have hc := u8ZI
    rw [hie] at hc
    simp only [Option.map_some, Option.some.injEq, Prod.mk.injEq] at hc
    refine Wl.mk (wpList_buildSlice rfl 22 5 len ps rfl (ints .u8 zs).toArray ie _ Try.underlying22 hie hc.1 (by rw [hc.2]; omega) (by rw [hc.2]; omega) ?_ (h _ _ hS.size (hS.new _ _)))
    rw [hc.2]
    exact hf
set_option maxHeartbeats 16000000 in
theorem dmmodes_true (mo : Int) (o0 : 0 ≤ mo) (o1 : mo ≤ 255) (r : Bool) (n : Int) (n0 : 0 ≤ n) (n1 : n ≤ 255) (w : World) :
    Calls Try.prog 9 #[.int .u8 mo, .bool r, .int .u8 n] w fun e w' => e = .returned (.bool true) ∧ Below w.heap.size w w' := by
  have hS := St.start w.heap.size 0 0 w
  have eK : mo.tmod 3 = mo % 3 := Int.tmod_eq_emod_of_nonneg o0
  have eM : n.tmod 5 = n % 5 := Int.tmod_eq_emod_of_nonneg n0
  have hK : 0 ≤ mo % 3 ∧ mo % 3 ≤ 2 := by omega
  have hM : 0 ≤ n % 5 ∧ n % 5 ≤ 4 := by omega
  generalize mo % 3 = K at eK hK
  generalize n % 5 = Mm at eM hM
  go_enter Try.func9, Try.ntmps9
  go_wp2_with (first
  | ((with_reducible first | refine to_load 3 rfl ?_ | refine to_load 4 rfl ?_ | refine to_load 5 rfl ?_ | refine to_load 24 rfl ?_ | refine to_load 25 rfl ?_); refine Wl_load1 hS (fun _ => by rfl) _ _ rfl (scT _ rfl) ?_; (repeat (first | refine Look.here (of_decide_eq_true rfl) rfl ?_ | refine Look.next ?_)); (with_reducible show wpList _ _ _ _ _ _); simp only [nA])
  | ((with_reducible refine to_bsl ?_); refine Wl_bslV hS (M.moL K Mm) (by decide) (by kernel_rfl) ?_; clear hS; intro b7 wW hge7 hS; simp only [nA])
  | ((with_reducible refine to_alloc 29 rfl ?_); refine Wl_alloc hS (fun _ => by rfl) _ dmZ ?_; clear hS; intro bD wW hS; simp only [nA])
  | ((with_reducible refine to_load 29 rfl ?_); refine Wl_load hS (fun _ => by rfl) _ _ rfl _ Try.underlying29 rfl ?_; (repeat (first | (refine Row.here ⟨(dmI.trans rfl), ?_⟩) | refine Row.next ?_)); (with_reducible show wpList _ _ _ _ _ _); simp only [nA])
  | ((with_reducible refine to_store 29 rfl ?_); refine Wl_store hS (fun _ => by rfl) _ _ _ rfl rfl (dmI.trans rfl) (dm_one _ _ _ _) ?_; (repeat (first | refine Turn.here rfl ?_ | refine Turn.next ?_)); clear hS; intro wW hS; try simp only [nA]))
  refine (dmawake_any _).mono ?_
  rintro e w1 ⟨rfl, hb⟩
  replace hS := hS.call hb
  clear hb
  go_wp2_with (first
  | ((with_reducible first | refine to_load 3 rfl ?_ | refine to_load 4 rfl ?_ | refine to_load 5 rfl ?_ | refine to_load 24 rfl ?_ | refine to_load 25 rfl ?_); refine Wl_load1 hS (fun _ => by rfl) _ _ rfl (scT _ rfl) ?_; (repeat (first | refine Look.here (of_decide_eq_true rfl) rfl ?_ | refine Look.next ?_)); (with_reducible show wpList _ _ _ _ _ _); simp only [nA])
  | ((with_reducible refine to_bsl ?_); refine Wl_bslV hS (M.moL K Mm) (by decide) (by kernel_rfl) ?_; clear hS; intro b7 wW hge7 hS; simp only [nA])
  | ((with_reducible refine to_alloc 29 rfl ?_); refine Wl_alloc hS (fun _ => by rfl) _ dmZ ?_; clear hS; intro bD wW hS; simp only [nA])
  | ((with_reducible refine to_load 29 rfl ?_); refine Wl_load hS (fun _ => by rfl) _ _ rfl _ Try.underlying29 rfl ?_; (repeat (first | (refine Row.here ⟨(dmI.trans rfl), ?_⟩) | refine Row.next ?_)); (with_reducible show wpList _ _ _ _ _ _); simp only [nA])
  | ((with_reducible refine to_store 29 rfl ?_); refine Wl_store hS (fun _ => by rfl) _ _ _ rfl rfl (dmI.trans rfl) (dm_one _ _ _ _) ?_; (repeat (first | refine Turn.here rfl ?_ | refine Turn.next ?_)); clear hS; intro wW hS; try simp only [nA]))
  refine (told_any (M.moL K Mm) (by simp [M.moL, M.mvL]) (M.mo_bytes K Mm hK hM) (some ⟨b7, 0, none⟩) 12 _ (hS.lsOwn (F := 0) (k := .u8) (zs := M.moL K Mm) (Nat.zero_le _) (.head _) (by simp [M.moL, M.mvL, maxLen]))).mono ?_
  rintro e w1 ⟨A1, c1, rfl, hl, hbl⟩
  replace hS := hS.call hbl
  clear hl hbl
  have hF := fun j hj => M.mo_facts K Mm hK hM j hj
  have hO := fun j hj => M.mo_ok K Mm hK hM j hj
  unfold M.moD at hF hO
  generalize M.dTold (M.moL K Mm) = P at hF hO ⊢
  generalize P.p.want.length = nn
  have HF := Lib.hid hF
  have HO := Lib.hid hO
  clear hF hO
  go_wp2_with (first
  | ((with_reducible first | refine to_load 3 rfl ?_ | refine to_load 4 rfl ?_ | refine to_load 5 rfl ?_ | refine to_load 24 rfl ?_ | refine to_load 25 rfl ?_); refine Wl_load1 hS (fun _ => by rfl) _ _ rfl (scT _ rfl) ?_; (repeat (first | refine Look.here (of_decide_eq_true rfl) rfl ?_ | refine Look.next ?_)); (with_reducible show wpList _ _ _ _ _ _); simp only [nA])
  | ((with_reducible refine to_bsl ?_); refine Wl_bslV hS (M.moL K Mm) (by decide) (by kernel_rfl) ?_; clear hS; intro b7 wW hge7 hS; simp only [nA])
  | ((with_reducible refine to_alloc 29 rfl ?_); refine Wl_alloc hS (fun _ => by rfl) _ dmZ ?_; clear hS; intro bD wW hS; simp only [nA])
  | ((with_reducible refine to_load 29 rfl ?_); refine Wl_load hS (fun _ => by rfl) _ _ rfl _ Try.underlying29 rfl ?_; (repeat (first | (refine Row.here ⟨(dmI.trans rfl), ?_⟩) | refine Row.next ?_)); (with_reducible show wpList _ _ _ _ _ _); simp only [nA])
  | ((with_reducible refine to_store 29 rfl ?_); refine Wl_store hS (fun _ => by rfl) _ _ _ rfl rfl (dmI.trans rfl) (dm_one _ _ _ _) ?_; (repeat (first | refine Turn.here rfl ?_ | refine Turn.next ?_)); clear hS; intro wW hS; try simp only [nA]))
  have HS0 := Lib.hid (show St w.heap.size 0 0 w [⟨bD, 0, true, P.c (.slice A1 nn c1)⟩] wW from (hS.sub (by repeat (first | exact List.Sublist.slnil | exact List.nil_sublist _ | apply List.Sublist.cons_cons | apply List.Sublist.cons))))
  clear hS
  go_loopw [11] (fun i wr => ∃ j : Nat, i = .int .i64 j ∧ (j : Int) ≤ 2 * (Mm + 1) ∧ ((j : Int) = 2 * (Mm + 1) → (M.reps P 1 j).done = true) ∧ St w.heap.size 0 0 w [⟨bD, 0, true, (M.reps P 1 j).c (.slice A1 nn c1)⟩] wr) (fun i _ => (2 * (Mm + 1)).toNat - (intOf i).toNat)
  case atStart => exact ⟨0, rfl, by omega, fun h => by omega, HS0.out⟩
  case round =>
    clear HS0
    obtain ⟨j, rfl, hj, hend, hS⟩ := hrel
    by_cases k1 : (j : Int) < 2 * (Mm + 1)
    · have k0' : (0 : Int) ≤ (j : Int) := by omega
      have k3' : (j : Int) < 100 := by omega
      obtain ⟨g1, g2, g3⟩ := HF.out j k1
      have hok := HO.out j (by omega)
      have e1 : M.reps P 1 (j + 1) = M.dTake (M.reps P 1 j) 1 := rfl
      have hrel2 : ∀ W, St w.heap.size 0 0 w [⟨bD, 0, true, (M.reps P 1 (j + 1)).c (.slice A1 nn c1)⟩] W → ∃ j2 : Nat, (Value.int .i64 ((j : Int) + 1)) = .int .i64 j2 ∧ (j2 : Int) ≤ 2 * (Mm + 1) ∧ ((j2 : Int) = 2 * (Mm + 1) → (M.reps P 1 j2).done = true) ∧ St w.heap.size 0 0 w [⟨bD, 0, true, (M.reps P 1 j2).c (.slice A1 nn c1)⟩] W := fun W h => ⟨j + 1, by simp, by omega, fun e => g3 (by omega), h⟩
      have HR := Lib.hid hrel2
      have ht := fun W => dmtake_any (M.reps P 1 j) hok.1 (by have := hok.2; omega) A1 nn c1 1 (by decide) (by decide) W
      rw [← e1] at ht
      have hh := fun W => dholds_any (M.reps P 1 (j + 1)) A1 nn c1 r W
      rw [g2 r] at hh
      clear e1 hrel2 g2 g3 hok hend
      generalize M.reps P 1 (j + 1) = R at ht HR hh g1
      generalize M.reps P 1 j = D at hS ht
      obtain ⟨dn, hdn⟩ : ∃ x, R.done = x := ⟨_, rfl⟩
      have jt : (j : Int).tmod 2 = (j : Int) % 2 := Int.tmod_eq_emod_of_nonneg k0'
      obtain ⟨hd, hhd⟩ : ∃ x : Bool, (j % 2 == 0) = x := ⟨_, rfl⟩
      have jj : ((j : Int) % 2 == 0) = hd := by
        rw [← hhd]
        rcases Nat.mod_two_eq_zero_or_one j with h | h
        · have e : (j : Int) % 2 = 0 := by omega
          rw [h, e]; rfl
        · have e : (j : Int) % 2 = 1 := by omega
          rw [h, e]; rfl
      have eR : R = { R with done := dn, held := hd } := by rw [← hdn, ← hhd, ← g1]
      rw [hdn, hhd] at hh
      rw [eR] at ht hh HR
      clear eR hdn hhd g1
      have HT := Lib.hid ht
      have HH := Lib.hid hh
      clear ht hh
      go_wp2_with (first
  | ((with_reducible first | refine to_load 3 rfl ?_ | refine to_load 4 rfl ?_ | refine to_load 5 rfl ?_ | refine to_load 24 rfl ?_ | refine to_load 25 rfl ?_); refine Wl_load1 hS (fun _ => by rfl) _ _ rfl (scT _ rfl) ?_; (repeat (first | refine Look.here (of_decide_eq_true rfl) rfl ?_ | refine Look.next ?_)); (with_reducible show wpList _ _ _ _ _ _); simp only [nA])
  | ((with_reducible refine to_bsl ?_); refine Wl_bslV hS (M.moL K Mm) (by decide) (by kernel_rfl) ?_; clear hS; intro b7 wW hge7 hS; simp only [nA])
  | ((with_reducible refine to_alloc 29 rfl ?_); refine Wl_alloc hS (fun _ => by rfl) _ dmZ ?_; clear hS; intro bD wW hS; simp only [nA])
  | ((with_reducible refine to_load 29 rfl ?_); refine Wl_load hS (fun _ => by rfl) _ _ rfl _ Try.underlying29 rfl ?_; (repeat (first | (refine Row.here ⟨(dmI.trans rfl), ?_⟩) | refine Row.next ?_)); (with_reducible show wpList _ _ _ _ _ _); simp only [nA])
  | ((with_reducible refine to_store 29 rfl ?_); refine Wl_store hS (fun _ => by rfl) _ _ _ rfl rfl (dmI.trans rfl) (dm_one _ _ _ _) ?_; (repeat (first | refine Turn.here rfl ?_ | refine Turn.next ?_)); clear hS; intro wW hS; try simp only [nA]))
      refine (HT.out _).mono ?_
      rintro e w1 ⟨rfl, hb⟩
      replace hS := hS.call hb
      clear hb
      have hK3 : K = 0 ∨ K = 1 ∨ K = 2 := by omega
      have jj' : decide ((j : Int) % 2 = 0) = hd := by rw [← jj]; rfl
      obtain ⟨q, hq⟩ : ∃ q, M.moWant K r dn hd = q := ⟨_, rfl⟩
      rw [hq] at HH
      clear HT hK
      have hK4 : (M.moWant K r dn hd = q ∧ (K == 1) = false ∧ (K == 2) = false ∧ M.moWant 0 r dn hd = q) ∨ (M.moWant K r dn hd = q ∧ (K == 1) = true ∧ (K == 2) = false ∧ M.moWant 1 r dn hd = q) ∨ (M.moWant K r dn hd = q ∧ (K == 1) = false ∧ (K == 2) = true ∧ M.moWant 2 r dn hd = q) := by
        rcases hK3 with h | h | h
        · exact .inl ⟨hq, by rw [h]; rfl, by rw [h]; rfl, by rw [← h]; exact hq⟩
        · exact .inr (.inl ⟨hq, by rw [h]; rfl, by rw [h]; rfl, by rw [← h]; exact hq⟩)
        · exact .inr (.inr ⟨hq, by rw [h]; rfl, by rw [h]; rfl, by rw [← h]; exact hq⟩)
      clear hK3 hq
      rcases hK4 with ⟨_, t1, t2, hq⟩ | ⟨_, t1, t2, hq⟩ | ⟨_, t1, t2, hq⟩ <;> cases dn <;> cases hd <;> cases r <;> cases q
      all_goals
        first
          | exact absurd hq (by decide)
          | (clear hq
             go_wp2_with (first
  | ((with_reducible first | refine to_load 3 rfl ?_ | refine to_load 4 rfl ?_ | refine to_load 5 rfl ?_ | refine to_load 24 rfl ?_ | refine to_load 25 rfl ?_); refine Wl_load1 hS (fun _ => by rfl) _ _ rfl (scT _ rfl) ?_; (repeat (first | refine Look.here (of_decide_eq_true rfl) rfl ?_ | refine Look.next ?_)); (with_reducible show wpList _ _ _ _ _ _); simp only [nA])
  | ((with_reducible refine to_bsl ?_); refine Wl_bslV hS (M.moL K Mm) (by decide) (by kernel_rfl) ?_; clear hS; intro b7 wW hge7 hS; simp only [nA])
  | ((with_reducible refine to_alloc 29 rfl ?_); refine Wl_alloc hS (fun _ => by rfl) _ dmZ ?_; clear hS; intro bD wW hS; simp only [nA])
  | ((with_reducible refine to_load 29 rfl ?_); refine Wl_load hS (fun _ => by rfl) _ _ rfl _ Try.underlying29 rfl ?_; (repeat (first | (refine Row.here ⟨(dmI.trans rfl), ?_⟩) | refine Row.next ?_)); (with_reducible show wpList _ _ _ _ _ _); simp only [nA])
  | ((with_reducible refine to_store 29 rfl ?_); refine Wl_store hS (fun _ => by rfl) _ _ _ rfl rfl (dmI.trans rfl) (dm_one _ _ _ _) ?_; (repeat (first | refine Turn.here rfl ?_ | refine Turn.next ?_)); clear hS; intro wW hS; try simp only [nA]))
             refine (HH.out _).mono ?_
             rintro e w1 ⟨rfl, hb⟩
             replace hS := hS.call hb
             clear hb
             go_wp2_with (first
  | ((with_reducible first | refine to_load 3 rfl ?_ | refine to_load 4 rfl ?_ | refine to_load 5 rfl ?_ | refine to_load 24 rfl ?_ | refine to_load 25 rfl ?_); refine Wl_load1 hS (fun _ => by rfl) _ _ rfl (scT _ rfl) ?_; (repeat (first | refine Look.here (of_decide_eq_true rfl) rfl ?_ | refine Look.next ?_)); (with_reducible show wpList _ _ _ _ _ _); simp only [nA])
  | ((with_reducible refine to_bsl ?_); refine Wl_bslV hS (M.moL K Mm) (by decide) (by kernel_rfl) ?_; clear hS; intro b7 wW hge7 hS; simp only [nA])
  | ((with_reducible refine to_alloc 29 rfl ?_); refine Wl_alloc hS (fun _ => by rfl) _ dmZ ?_; clear hS; intro bD wW hS; simp only [nA])
  | ((with_reducible refine to_load 29 rfl ?_); refine Wl_load hS (fun _ => by rfl) _ _ rfl _ Try.underlying29 rfl ?_; (repeat (first | (refine Row.here ⟨(dmI.trans rfl), ?_⟩) | refine Row.next ?_)); (with_reducible show wpList _ _ _ _ _ _); simp only [nA])
  | ((with_reducible refine to_store 29 rfl ?_); refine Wl_store hS (fun _ => by rfl) _ _ _ rfl rfl (dmI.trans rfl) (dm_one _ _ _ _) ?_; (repeat (first | refine Turn.here rfl ?_ | refine Turn.next ?_)); clear hS; intro wW hS; try simp only [nA]))
             go_round
             case rel => exact HR.out _ (hS.sub (by repeat (first | exact List.Sublist.slnil | exact List.nil_sublist _ | apply List.Sublist.cons_cons | apply List.Sublist.cons)))
             case measure => simp [intOf]; omega)
    · obtain hje : (j : Int) = 2 * (Mm + 1) := by omega
      have g := hend hje
      go_wp2_with (first
  | ((with_reducible first | refine to_load 3 rfl ?_ | refine to_load 4 rfl ?_ | refine to_load 5 rfl ?_ | refine to_load 24 rfl ?_ | refine to_load 25 rfl ?_); refine Wl_load1 hS (fun _ => by rfl) _ _ rfl (scT _ rfl) ?_; (repeat (first | refine Look.here (of_decide_eq_true rfl) rfl ?_ | refine Look.next ?_)); (with_reducible show wpList _ _ _ _ _ _); simp only [nA])
  | ((with_reducible refine to_bsl ?_); refine Wl_bslV hS (M.moL K Mm) (by decide) (by kernel_rfl) ?_; clear hS; intro b7 wW hge7 hS; simp only [nA])
  | ((with_reducible refine to_alloc 29 rfl ?_); refine Wl_alloc hS (fun _ => by rfl) _ dmZ ?_; clear hS; intro bD wW hS; simp only [nA])
  | ((with_reducible refine to_load 29 rfl ?_); refine Wl_load hS (fun _ => by rfl) _ _ rfl _ Try.underlying29 rfl ?_; (repeat (first | (refine Row.here ⟨(dmI.trans rfl), ?_⟩) | refine Row.next ?_)); (with_reducible show wpList _ _ _ _ _ _); simp only [nA])
  | ((with_reducible refine to_store 29 rfl ?_); refine Wl_store hS (fun _ => by rfl) _ _ _ rfl rfl (dmI.trans rfl) (dm_one _ _ _ _) ?_; (repeat (first | refine Turn.here rfl ?_ | refine Turn.next ?_)); clear hS; intro wW hS; try simp only [nA]))
      go_returns
      exact ⟨rfl, hS.below⟩
end Go.Proofs.Ytkkkjdbcckaedaa
