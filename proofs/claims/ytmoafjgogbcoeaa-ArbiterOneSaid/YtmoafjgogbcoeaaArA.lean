/- The arbiter (arbiter, charabancref27): New, First, Tick, by their contracts. -/
import Derived.Test.YtmoafjgogbcoeaaSlRow
import Derived.Test.YtmoafjgogbcoeaaSlApp
import Derived.Test.YtmoafjgogbcoeaaBits
namespace Go.Proofs.Ytmoafjgogbcoeaa
open Go.RowKit
set_option linter.unusedVariables false
set_option linter.unusedSimpArgs false
set_option maxRecDepth 100000
theorem st_one (a b : Int) : (#[Value.int .i64 a, .int .i64 b] : Array Value).all (·.oneCell') = true := by simp [Value.oneCell']
theorem arZ (w : World) : (zeroValue 23).run Try.prog w = .ok (.agg #[.int .i64 0, .int .i64 0]) w := Try.zeroValue23 w
theorem rarZ (w : World) : (zeroValue 28).run Try.prog w = .ok (.agg #[.int .i64 0, .int .i64 0]) w := Try.zeroValue28 w
theorem arI : (Try.prog.info? 23).map (·.size) = some 2 := by kernel_rfl
theorem rarI : (Try.prog.info? 28).map (·.size) = some 2 := by kernel_rfl
theorem sc3 : Scalar Try.prog 3 := ⟨⟨_, Try.underlying3, rfl⟩, by kernel_rfl⟩
theorem sc4 : Scalar Try.prog 4 := ⟨⟨_, Try.underlying4, rfl⟩, by kernel_rfl⟩
theorem scB : Scalar Try.prog 24 := ⟨⟨_, Try.underlying24, rfl⟩, by kernel_rfl⟩
theorem scT (T : TypeId) (h : (T == 3 || T == 4 || T == 24) = true) : Scalar Try.prog T := by
  simp only [Bool.or_eq_true, beq_iff_eq] at h
  rcases h with (rfl | rfl) | rfl
  · exact sc3
  · exact sc4
  · exact scB
theorem Look.self {b q : Nat} {fr : Bool} {cs : Array Value} {l : List Ent} {k : Value → Prop} {v : Value} (hv : nth cs.toList 0 = some v) (h : k v) : Look (⟨b, q, fr, cs⟩ :: l) b q k := Look.here (Nat.le_refl _) (by rw [Nat.sub_self]; exact hv) h
def bls (L : List Bool) : List Value := L.map Value.bool
theorem bls_length (L : List Bool) : (bls L).length = L.length := by simp [bls]
theorem bls_at {L : List Bool} {i : Nat} (h : i < L.length) : (bls L)[i]? = some (.bool (L.getD i false)) := by simp [bls, List.getD_eq_getElem?_getD, h]
/-- Does the i-th one ask, ahead of an end? -/
def M.arP (e : Int) (L : List Bool) (i : Nat) : Bool := decide ((i : Int) < e) && L.getD i false
def M.arFirst (e : Int) (L : List Bool) : Int := match (List.range L.length).find? (M.arP e L) with | some i => (i : Int) | none => e
theorem M.arFirst_hit {e : Int} {L : List Bool} {i : Nat} (hi : i < L.length) (h : M.arP e L i = true) (hn : ∀ j, j < i → M.arP e L j = false) : M.arFirst e L = (i : Int) := by
  have : (List.range L.length).find? (M.arP e L) = some i := List.find?_range_eq_some.2 ⟨h, List.mem_range.2 hi, fun j hj => by rw [hn j hj]; rfl⟩
  unfold M.arFirst
  rw [this]
theorem M.arFirst_none {e : Int} {L : List Bool} (hn : ∀ j, j < L.length → M.arP e L j = false) : M.arFirst e L = e := by
  have : (List.range L.length).find? (M.arP e L) = none := List.find?_range_eq_none.2 (fun j hj => by rw [hn j hj]; rfl)
  unfold M.arFirst
  rw [this]
theorem arfn_any (b : Bool) (w : World) : Calls Try.prog 60 #[.bool b] w fun e w' => e = .returned (.bool b) ∧ w = w' := by
  go_enter Try.func60, Try.ntmps60
  go_wp2
  go_ret
  exact ⟨rfl, rfl⟩
theorem St.oneB {w W : World} {es : List Ent} {b q : Nat} {v : Value} (h : St w.heap.size 0 0 w es W) (hc : w.cell? ⟨b, q, none⟩ = some v) : St w.heap.size 0 0 w (⟨b, q, false, #[v]⟩ :: es) W :=
  h.given (fun j u hu => by
    match j with
    | 0 => simp at hu; subst hu; exact hc
    | j + 1 => simp at hu) (World.block_lt_of_cell? w _ hc)
set_option maxHeartbeats 4000000 in
theorem arfirst_any (L : List Bool) (hL : L.length ≤ maxLen) (A : Option Addr) (c : Nat) (en : Int) (w : World) (r1 : Ls 0 w (.slice A L.length c) (bls L)) :
    Calls Try.prog 59 #[.slice A L.length c, .int .i64 en, .func (.func 60) #[] #[]] w fun e w' => e = .returned (.int .i64 (M.arFirst en L)) ∧ Below w.heap.size w w' := by
  have hat : ∀ i, i < L.length → ∃ x q, A = some ⟨x, q, none⟩ ∧ L.length ≤ c ∧ w.cell? ⟨x, q + i, none⟩ = some (.bool (L.getD i false)) := fun i hi => by
    obtain ⟨x1, q1, k1, hs1, _, hk, hc1⟩ := r1.atV (bls_at hi)
    simp only [Value.slice.injEq] at hs1
    rw [bls_length] at hk
    exact ⟨x1, q1, hs1.1, by omega, hc1⟩
  have HA := Lib.hid hat
  have hS := St.start w.heap.size 0 0 w
  simp only [maxLen] at hL
  clear hat r1
  go_enter Try.func59, Try.ntmps59
  go_wp2_with fail
  have HS0 := Lib.hid hS
  clear hS
  go_loopw [11] (fun i wr => ∃ j : Nat, i = .int .i64 j ∧ j ≤ L.length ∧ (∀ x, x < j → M.arP en L x = false) ∧ St w.heap.size 0 0 w [] wr) (fun i _ => L.length - (intOf i).toNat)
  case atStart => exact ⟨0, rfl, Nat.zero_le _, fun x hx => by omega, HS0.out⟩
  case round =>
    clear HS0
    obtain ⟨j, rfl, hj, hn, hS⟩ := hrel
    by_cases k1 : j < L.length
    · have k1' : (j : Int) < (L.length : Int) := by omega
      have k0' : (0 : Int) ≤ (j : Int) := by omega
      obtain ⟨x1, q1, rfl, hkc, hcell⟩ := HA.out j k1
      replace hS := hS.oneB hcell
      have hP : M.arP en L j = (decide ((j : Int) < en) && L.getD j false) := rfl
      have hhit := fun h : M.arP en L j = true => M.arFirst_hit k1 h hn
      have hrel2 : ∀ W, M.arP en L j = false → St w.heap.size 0 0 w [] W → ∃ j2 : Nat, (Value.int .i64 ((j : Int) + 1)) = .int .i64 j2 ∧ j2 ≤ L.length ∧ (∀ x, x < j2 → M.arP en L x = false) ∧ St w.heap.size 0 0 w [] W := fun W hp h => ⟨j + 1, by simp, by omega, fun x hx => by
        by_cases hxj : x = j
        · rw [hxj]; exact hp
        · exact hn x (by omega), h⟩
      have HR := Lib.hid hrel2
      have HH := Lib.hid hhit
      replace HP := Lib.hid hP
      clear hrel2 hhit hP hn hcell
      generalize L.getD j false = v at hS HP
      by_cases he : (j : Int) < en
      · have he' : decide ((j : Int) < en) = true := decide_eq_true he
        cases v
        · have hp : M.arP en L j = false := by rw [HP.out, he']; rfl
          have HF := Lib.hid (fun W => HR.out W hp)
          clear HR HH hp
          go_wp2_with (((with_reducible first | refine to_load 3 rfl ?_ | refine to_load 4 rfl ?_ | refine to_load 24 rfl ?_); refine Wl_load1 hS (fun _ => by rfl) _ _ rfl (scT _ rfl) ?_; (repeat (first | refine Look.here (of_decide_eq_true rfl) rfl ?_ | refine Look.self rfl ?_ | refine Look.next ?_)); (with_reducible show wpList _ _ _ _ _ _); simp only [Act.put, List.setIfInBounds_toArray, List.set_cons_zero, List.set_cons_succ]))
          refine (arfn_any _ _).mono ?_
          rintro e w1 ⟨rfl, rfl⟩
          go_wp2_with fail
          go_round
          case rel => exact HF.out _ (hS.sub (List.nil_sublist _))
          case measure => simp [intOf]; omega
        · have hp : M.arP en L j = true := by rw [HP.out, he']; rfl
          have HF := Lib.hid (HH.out hp)
          clear HR HH hp
          go_wp2_with (((with_reducible first | refine to_load 3 rfl ?_ | refine to_load 4 rfl ?_ | refine to_load 24 rfl ?_); refine Wl_load1 hS (fun _ => by rfl) _ _ rfl (scT _ rfl) ?_; (repeat (first | refine Look.here (of_decide_eq_true rfl) rfl ?_ | refine Look.self rfl ?_ | refine Look.next ?_)); (with_reducible show wpList _ _ _ _ _ _); simp only [Act.put, List.setIfInBounds_toArray, List.set_cons_zero, List.set_cons_succ]))
          refine (arfn_any _ _).mono ?_
          rintro e w1 ⟨rfl, rfl⟩
          go_wp2_with fail
          go_returns
          exact ⟨ret_int HF.out.symm, hS.below⟩
      · have he' : decide ((j : Int) < en) = false := decide_eq_false he
        have hp : M.arP en L j = false := by rw [HP.out, he']; rfl
        have HF := Lib.hid (fun W => HR.out W hp)
        clear HR HH hp
        go_wp2_with (((with_reducible first | refine to_load 3 rfl ?_ | refine to_load 4 rfl ?_ | refine to_load 24 rfl ?_); refine Wl_load1 hS (fun _ => by rfl) _ _ rfl (scT _ rfl) ?_; (repeat (first | refine Look.here (of_decide_eq_true rfl) rfl ?_ | refine Look.self rfl ?_ | refine Look.next ?_)); (with_reducible show wpList _ _ _ _ _ _); simp only [Act.put, List.setIfInBounds_toArray, List.set_cons_zero, List.set_cons_succ]))
        go_round
        case rel => exact HF.out _ (hS.sub (List.nil_sublist _))
        case measure => simp [intOf]; omega
    · have k1' : ¬ ((j : Int) < (L.length : Int)) := by omega
      have hF := Lib.hid (M.arFirst_none (e := en) (L := L) (fun x hx => hn x (by omega)))
      clear hn
      go_wp2_with fail
      go_returns
      exact ⟨ret_int hF.out.symm, hS.below⟩
def M.arE (many : Int) : Int := max many 1 - 1
theorem M.arE_ge {m : Int} (h : 1 ≤ m) : m - 1 = M.arE m := by unfold M.arE; omega
theorem M.arE_lt {m : Int} (h : m < 1) : 0 = M.arE m := by unfold M.arE; omega
def M.arN (m : Int) : Int := min (max m 1) 8
set_option maxHeartbeats 4000000 in
theorem arFirst_any (many : Int) (hm : -9223372036854775808 ≤ many ∧ many ≤ 9223372036854775807) (L : List Bool) (hL : L.length ≤ maxLen) (A : Option Addr) (c : Nat) (w : World) (r1 : Ls 0 w (.slice A L.length c) (bls L)) :
    Calls Try.prog 23 #[.int .i64 many, .slice A L.length c] w fun e w' => e = .returned (.int .i64 (M.arFirst (M.arE many) L)) ∧ Below w.heap.size w w' := by
  have hf := fun en W hW => arfirst_any L hL A c en W (r1.below hW)
  have HF := Lib.hid hf
  have hS := St.start w.heap.size 0 0 w
  clear hf r1
  go_enter Try.func23, Try.ntmps23
  go_wp2_with fail
  · have hE := M.arE_lt (by assumption)
    refine (HF.out _ _ hS.below).mono ?_
    rintro e w1 ⟨rfl, hb⟩
    replace hS := hS.call hb
    rw [hE]
    go_wp2_with fail
    go_returns
    exact ⟨rfl, hS.below⟩
  · have hE := M.arE_ge (by assumption)
    refine (HF.out _ _ hS.below).mono ?_
    rintro e w1 ⟨rfl, hb⟩
    replace hS := hS.call hb
    rw [hE]
    go_wp2_with fail
    go_returns
    exact ⟨rfl, hS.below⟩
set_option maxHeartbeats 4000000 in
theorem rarFirst_any (many : Int) (hm : -9223372036854775808 ≤ many ∧ many ≤ 9223372036854775807) (L : List Bool) (hL : L.length ≤ maxLen) (A : Option Addr) (c : Nat) (w : World) (r1 : Ls 0 w (.slice A L.length c) (bls L)) :
    Calls Try.prog 24 #[.int .i64 many, .slice A L.length c] w fun e w' => e = .returned (.int .i64 (M.arFirst (M.arE many) L)) ∧ Below w.heap.size w w' := by
  have hat : ∀ i, i < L.length → ∃ x q, A = some ⟨x, q, none⟩ ∧ L.length ≤ c ∧ w.cell? ⟨x, q + i, none⟩ = some (.bool (L.getD i false)) := fun i hi => by
    obtain ⟨x1, q1, k1, hs1, _, hk, hc1⟩ := r1.atV (bls_at hi)
    simp only [Value.slice.injEq] at hs1
    rw [bls_length] at hk
    exact ⟨x1, q1, hs1.1, by omega, hc1⟩
  have HA := Lib.hid hat
  have hS := St.start w.heap.size 0 0 w
  simp only [maxLen] at hL
  clear hat r1
  go_enter Try.func24, Try.ntmps24
  go_wp2_with fail
  · have hE : M.arFirst (M.arE many) L = 0 := by
      rw [← M.arE_lt (by assumption)]
      exact M.arFirst_none (fun x _ => by simp [M.arP]; omega)
    have HE := Lib.hid hE
    have HS0 := Lib.hid hS
    clear hS HA hE
    go_loopw [5] (fun i wr => i = .int .i64 0 ∧ St w.heap.size 0 0 w [] wr) (fun i _ => 0)
    case atStart => exact ⟨rfl, HS0.out⟩
    case round =>
      obtain ⟨rfl, hS⟩ := hrel
      go_wp2_with fail
      go_returns
      exact ⟨ret_int HE.out.symm, hS.below⟩
  · have hE : many - 1 = M.arE many := M.arE_ge (by assumption)
    have h1 : 1 ≤ many := by assumption
    have HM := Lib.hid hE
    have HS0 := Lib.hid hS
    clear hS hE
    go_loopw [5] (fun i wr => ∃ j : Nat, i = .int .i64 j ∧ j ≤ L.length ∧ (∀ x, x < j → M.arP (M.arE many) L x = false) ∧ St w.heap.size 0 0 w [] wr) (fun i _ => L.length - (intOf i).toNat)
    case atStart => exact ⟨0, rfl, Nat.zero_le _, fun x hx => by omega, HS0.out⟩
    case round =>
      clear HS0
      obtain ⟨j, rfl, hj, hn, hS⟩ := hrel
      by_cases k1 : j < L.length
      · have k1' : (j : Int) < (L.length : Int) := by omega
        have k0' : (0 : Int) ≤ (j : Int) := by omega
        obtain ⟨x1, q1, rfl, hkc, hcell⟩ := HA.out j k1
        replace hS := hS.oneB hcell
        have hP : M.arP (M.arE many) L j = (decide ((j : Int) < many - 1) && L.getD j false) := by rw [HM.out]; rfl
        have hhit := fun h : M.arP (M.arE many) L j = true => M.arFirst_hit k1 h hn
        have hrel2 : ∀ W, M.arP (M.arE many) L j = false → St w.heap.size 0 0 w [] W → ∃ j2 : Nat, (Value.int .i64 ((j : Int) + 1)) = .int .i64 j2 ∧ j2 ≤ L.length ∧ (∀ x, x < j2 → M.arP (M.arE many) L x = false) ∧ St w.heap.size 0 0 w [] W := fun W hp h => ⟨j + 1, by simp, by omega, fun x hx => by
          by_cases hxj : x = j
          · rw [hxj]; exact hp
          · exact hn x (by omega), h⟩
        have HR := Lib.hid hrel2
        have HH := Lib.hid hhit
        have HN := Lib.hid hn
        replace HP := Lib.hid hP
        clear hrel2 hhit hP hn hcell
        by_cases he : (j : Int) < many - 1
        · generalize L.getD j false = v at hS HP
          have he' : decide ((j : Int) < many - 1) = true := decide_eq_true he
          cases v
          · have hp : M.arP (M.arE many) L j = false := by rw [HP.out, he']; rfl
            have HF := Lib.hid (fun W => HR.out W hp)
            clear HR HH hp
            go_wp2_with (((with_reducible first | refine to_load 3 rfl ?_ | refine to_load 4 rfl ?_ | refine to_load 24 rfl ?_); refine Wl_load1 hS (fun _ => by rfl) _ _ rfl (scT _ rfl) ?_; (repeat (first | refine Look.here (of_decide_eq_true rfl) rfl ?_ | refine Look.self rfl ?_ | refine Look.next ?_)); (with_reducible show wpList _ _ _ _ _ _); simp only [Act.put, List.setIfInBounds_toArray, List.set_cons_zero, List.set_cons_succ]))
            go_round
            case rel => exact HF.out _ (hS.sub (List.nil_sublist _))
            case measure => simp [intOf]; omega
          · have hp : M.arP (M.arE many) L j = true := by rw [HP.out, he']; rfl
            have HF := Lib.hid (HH.out hp)
            clear HR HH hp
            go_wp2_with (((with_reducible first | refine to_load 3 rfl ?_ | refine to_load 4 rfl ?_ | refine to_load 24 rfl ?_); refine Wl_load1 hS (fun _ => by rfl) _ _ rfl (scT _ rfl) ?_; (repeat (first | refine Look.here (of_decide_eq_true rfl) rfl ?_ | refine Look.self rfl ?_ | refine Look.next ?_)); (with_reducible show wpList _ _ _ _ _ _); simp only [Act.put, List.setIfInBounds_toArray, List.set_cons_zero, List.set_cons_succ]))
            go_returns
            exact ⟨ret_int HF.out.symm, hS.below⟩
        · have he' : decide ((j : Int) < many - 1) = false := decide_eq_false he
          have hp : ∀ x, x < L.length → M.arP (M.arE many) L x = false := fun x hx => by
            by_cases hxj : x < j
            · exact HN.out x hxj
            · unfold M.arP
              rw [decide_eq_false (by rw [← HM.out]; omega)]
              rfl
          have HF := Lib.hid (M.arFirst_none hp)
          clear HR HH hp HP HN
          go_wp2_with (((with_reducible first | refine to_load 3 rfl ?_ | refine to_load 4 rfl ?_ | refine to_load 24 rfl ?_); refine Wl_load1 hS (fun _ => by rfl) _ _ rfl (scT _ rfl) ?_; (repeat (first | refine Look.here (of_decide_eq_true rfl) rfl ?_ | refine Look.self rfl ?_ | refine Look.next ?_)); (with_reducible show wpList _ _ _ _ _ _); simp only [Act.put, List.setIfInBounds_toArray, List.set_cons_zero, List.set_cons_succ]))
          go_returns
          exact ⟨ret_int (by rw [HF.out, HM.out]), hS.below⟩
      · have k1' : ¬ ((j : Int) < (L.length : Int)) := by omega
        have hF := Lib.hid (M.arFirst_none (e := M.arE many) (L := L) (fun x hx => hn x (by omega)))
        clear hn
        by_cases he : (j : Int) < many - 1
        all_goals
          go_wp2_with fail
          go_returns
          exact ⟨ret_int (by rw [hF.out, HM.out]), hS.below⟩
def stV (m o : Int) : Value := .agg #[.int .i64 m, .int .i64 o]
theorem M.arN_1 {m : Int} (h : m < 1) : M.arN m = 1 := by unfold M.arN; omega
theorem M.arN_8 {m : Int} (h : 8 ≤ m) : M.arN m = 8 := by unfold M.arN; omega
theorem M.arN_m {m : Int} (h : 1 ≤ m) (k : m < 8) : M.arN m = m := by unfold M.arN; omega
theorem ret_new {n k m : Int} (h : n = M.arN m) (hk : k = n - 1) : Ending.returned (.agg #[.int .i64 n, .int .i64 k]) = .returned (stV (M.arN m) (M.arN m - 1)) := by rw [hk, h]; rfl
set_option maxHeartbeats 4000000 in
theorem arNew_any (m : Int) (hm : -9223372036854775808 ≤ m ∧ m ≤ 9223372036854775807) (w : World) : Calls Try.prog 19 #[.int .i64 m] w fun e w' => e = .returned (stV (M.arN m) (M.arN m - 1)) ∧ Below w.heap.size w w' := by
  have hS := St.start w.heap.size 0 0 w
  go_enter Try.func19, Try.ntmps19
  go_wp2_with (first | ((with_reducible refine to_alloc 23 rfl ?_); refine Wl_alloc hS (fun _ => by rfl) _ arZ ?_; clear hS; intro bB wW hS; simp only [Act.put, List.setIfInBounds_toArray, List.set_cons_zero, List.set_cons_succ]) | ((with_reducible refine to_store 23 rfl ?_); refine Wl_store hS (fun _ => by rfl) _ _ _ rfl rfl (arI.trans rfl) (st_one _ _) ?_; (repeat (first | refine Turn.here rfl ?_ | refine Turn.next ?_)); clear hS; intro wW hS; try simp only [Act.put, List.setIfInBounds_toArray, List.set_cons_zero, List.set_cons_succ]))
  all_goals
    refine ret_st hS rfl _ _ rfl rfl _ Try.underlying23 rfl ?_
    repeat (first | (refine Row.here ⟨arI.trans rfl, ?_⟩) | refine Row.next ?_)
    exact ⟨ret_new (by unfold M.arN; repeat' split; all_goals omega) rfl, hS.below⟩
set_option maxHeartbeats 4000000 in
theorem rarNew_any (m : Int) (hm : -9223372036854775808 ≤ m ∧ m ≤ 9223372036854775807) (w : World) : Calls Try.prog 20 #[.int .i64 m] w fun e w' => e = .returned (stV (M.arN m) (M.arN m - 1)) ∧ Below w.heap.size w w' := by
  have hS := St.start w.heap.size 0 0 w
  go_enter Try.func20, Try.ntmps20
  go_wp2_with (first | ((with_reducible refine to_alloc 28 rfl ?_); refine Wl_alloc hS (fun _ => by rfl) _ rarZ ?_; clear hS; intro bB wW hS; simp only [Act.put, List.setIfInBounds_toArray, List.set_cons_zero, List.set_cons_succ]) | ((with_reducible refine to_store 28 rfl ?_); refine Wl_store hS (fun _ => by rfl) _ _ _ rfl rfl (rarI.trans rfl) (st_one _ _) ?_; (repeat (first | refine Turn.here rfl ?_ | refine Turn.next ?_)); clear hS; intro wW hS; try simp only [Act.put, List.setIfInBounds_toArray, List.set_cons_zero, List.set_cons_succ]))
  all_goals
    refine ret_st hS rfl _ _ rfl rfl _ Try.underlying28 rfl ?_
    repeat (first | (refine Row.here ⟨rarI.trans rfl, ?_⟩) | refine Row.next ?_)
    exact ⟨ret_new (by unfold M.arN; repeat' split; all_goals omega) rfl, hS.below⟩
set_option maxHeartbeats 4000000 in
theorem arplain_any (m o : Int) (w : World) : Calls Try.prog 18 #[stV m o] w fun e w' => e = .returned (stV m o) ∧ Below w.heap.size w w' := by
  have hS := St.start w.heap.size 0 0 w
  unfold stV
  go_enter Try.func18, Try.ntmps18
  go_wp2_with (first | ((with_reducible refine to_boxT 23 rfl ?_); refine Wl_box hS (fun _ => by rfl) _ rfl ?_; clear hS; intro b1 wW hS; simp only [Act.put, List.setIfInBounds_toArray, List.set_cons_zero, List.set_cons_succ]) | ((with_reducible refine to_alloc 28 rfl ?_); refine Wl_alloc hS (fun _ => by rfl) _ rarZ ?_; clear hS; intro b2 wW hS; simp only [Act.put, List.setIfInBounds_toArray, List.set_cons_zero, List.set_cons_succ]) | ((with_reducible first | refine to_load 3 rfl ?_ | refine to_load 4 rfl ?_ | refine to_load 24 rfl ?_); refine Wl_load1 hS (fun _ => by rfl) _ _ rfl (scT _ rfl) ?_; (repeat (first | refine Look.here (of_decide_eq_true rfl) rfl ?_ | refine Look.self rfl ?_ | refine Look.next ?_)); (with_reducible show wpList _ _ _ _ _ _); simp only [Act.put, List.setIfInBounds_toArray, List.set_cons_zero, List.set_cons_succ]) | ((with_reducible refine to_store 28 rfl ?_); refine Wl_store hS (fun _ => by rfl) _ _ _ rfl rfl (rarI.trans rfl) (st_one _ _) ?_; (repeat (first | refine Turn.here rfl ?_ | refine Turn.next ?_)); clear hS; intro wW hS; try simp only [Act.put, List.setIfInBounds_toArray, List.set_cons_zero, List.set_cons_succ]))
  refine ret_st hS rfl _ _ rfl rfl _ Try.underlying28 rfl ?_
  repeat (first | (refine Row.here ⟨rarI.trans rfl, ?_⟩) | refine Row.next ?_)
  exact ⟨rfl, hS.below⟩
def M.arTick (m o : Int) (L : List Bool) (may : Bool) : Int := if may then M.arFirst (M.arE m) L else o
set_option maxHeartbeats 4000000 in
theorem arTick_any (m o : Int) (hm : -9223372036854775808 ≤ m ∧ m ≤ 9223372036854775807) (L : List Bool) (hL : L.length ≤ maxLen) (A : Option Addr) (c : Nat) (may : Bool) (w : World) (r1 : Ls 0 w (.slice A L.length c) (bls L)) :
    Calls Try.prog 21 #[stV m o, .slice A L.length c, .bool may] w fun e w' => e = .returned (stV m (M.arTick m o L may)) ∧ Below w.heap.size w w' := by
  have hf := fun W hW => arFirst_any m hm L hL A c W (r1.below hW)
  have HF := Lib.hid hf
  have hS := St.start w.heap.size 0 0 w
  unfold stV
  clear hf r1
  cases may
  · rw [show M.arTick m o L false = o from rfl]
    go_enter Try.func21, Try.ntmps21
    go_wp2_with (first | ((with_reducible refine to_boxT 23 rfl ?_); refine Wl_box hS (fun _ => by rfl) _ rfl ?_; clear hS; intro b1 wW hS; simp only [Act.put, List.setIfInBounds_toArray, List.set_cons_zero, List.set_cons_succ]) | ((with_reducible refine to_alloc 23 rfl ?_); refine Wl_alloc hS (fun _ => by rfl) _ arZ ?_; clear hS; intro b2 wW hS; simp only [Act.put, List.setIfInBounds_toArray, List.set_cons_zero, List.set_cons_succ]) | ((with_reducible first | refine to_load 3 rfl ?_ | refine to_load 4 rfl ?_ | refine to_load 24 rfl ?_); refine Wl_load1 hS (fun _ => by rfl) _ _ rfl (scT _ rfl) ?_; (repeat (first | refine Look.here (of_decide_eq_true rfl) rfl ?_ | refine Look.self rfl ?_ | refine Look.next ?_)); (with_reducible show wpList _ _ _ _ _ _); simp only [Act.put, List.setIfInBounds_toArray, List.set_cons_zero, List.set_cons_succ]) | ((with_reducible refine to_load 23 rfl ?_); refine Wl_load hS (fun _ => by rfl) _ _ rfl _ Try.underlying23 rfl ?_; (repeat (first | (refine Row.here ⟨arI.trans rfl, ?_⟩) | refine Row.next ?_)); (with_reducible show wpList _ _ _ _ _ _); simp only [Act.put, List.setIfInBounds_toArray, List.set_cons_zero, List.set_cons_succ]) | ((with_reducible refine to_store 23 rfl ?_); refine Wl_store hS (fun _ => by rfl) _ _ _ rfl rfl (arI.trans rfl) (st_one _ _) ?_; (repeat (first | refine Turn.here rfl ?_ | refine Turn.next ?_)); clear hS; intro wW hS; try simp only [Act.put, List.setIfInBounds_toArray, List.set_cons_zero, List.set_cons_succ]))
    refine ret_st hS rfl _ _ rfl rfl _ Try.underlying23 rfl ?_
    repeat (first | (refine Row.here ⟨arI.trans rfl, ?_⟩) | refine Row.next ?_)
    exact ⟨rfl, hS.below⟩
  · rw [show M.arTick m o L true = M.arFirst (M.arE m) L from rfl]
    generalize M.arFirst (M.arE m) L = R at HF ⊢
    go_enter Try.func21, Try.ntmps21
    go_wp2_with (first | ((with_reducible refine to_boxT 23 rfl ?_); refine Wl_box hS (fun _ => by rfl) _ rfl ?_; clear hS; intro b1 wW hS; simp only [Act.put, List.setIfInBounds_toArray, List.set_cons_zero, List.set_cons_succ]) | ((with_reducible refine to_alloc 23 rfl ?_); refine Wl_alloc hS (fun _ => by rfl) _ arZ ?_; clear hS; intro b2 wW hS; simp only [Act.put, List.setIfInBounds_toArray, List.set_cons_zero, List.set_cons_succ]) | ((with_reducible first | refine to_load 3 rfl ?_ | refine to_load 4 rfl ?_ | refine to_load 24 rfl ?_); refine Wl_load1 hS (fun _ => by rfl) _ _ rfl (scT _ rfl) ?_; (repeat (first | refine Look.here (of_decide_eq_true rfl) rfl ?_ | refine Look.self rfl ?_ | refine Look.next ?_)); (with_reducible show wpList _ _ _ _ _ _); simp only [Act.put, List.setIfInBounds_toArray, List.set_cons_zero, List.set_cons_succ]) | ((with_reducible refine to_load 23 rfl ?_); refine Wl_load hS (fun _ => by rfl) _ _ rfl _ Try.underlying23 rfl ?_; (repeat (first | (refine Row.here ⟨arI.trans rfl, ?_⟩) | refine Row.next ?_)); (with_reducible show wpList _ _ _ _ _ _); simp only [Act.put, List.setIfInBounds_toArray, List.set_cons_zero, List.set_cons_succ]) | ((with_reducible refine to_store 23 rfl ?_); refine Wl_store hS (fun _ => by rfl) _ _ _ rfl rfl (arI.trans rfl) (st_one _ _) ?_; (repeat (first | refine Turn.here rfl ?_ | refine Turn.next ?_)); clear hS; intro wW hS; try simp only [Act.put, List.setIfInBounds_toArray, List.set_cons_zero, List.set_cons_succ]))
    refine (HF.out _ hS.below).mono ?_
    rintro e w1 ⟨rfl, hb⟩
    replace hS := hS.call hb
    clear hb
    go_wp2_with (first | ((with_reducible first | refine to_store 3 rfl ?_ | refine to_store 4 rfl ?_); (first | refine Wl_store1 hS (fun _ => by rfl) _ _ (.int _ _) rfl rfl (scT _ rfl) rfl rfl ?_ | refine Wl_store1 hS (fun _ => by rfl) _ _ (.bool _) rfl rfl (scT _ rfl) rfl rfl ?_); (repeat (first | refine Turn1.here (of_decide_eq_true rfl) (of_decide_eq_true rfl) ?_ | refine Turn1.next ?_)); clear hS; intro wW hS; (try simp only [Act.put, List.setIfInBounds_toArray, List.set_cons_zero, List.set_cons_succ]); try simp only [Nat.sub_zero, Nat.add_zero, Nat.zero_add, Nat.reduceSub, Nat.add_sub_cancel_left, List.setIfInBounds_toArray, List.set_cons_zero, List.set_cons_succ] at hS) | ((with_reducible refine to_load 23 rfl ?_); refine Wl_load hS (fun _ => by rfl) _ _ rfl _ Try.underlying23 rfl ?_; (repeat (first | (refine Row.here ⟨arI.trans rfl, ?_⟩) | refine Row.next ?_)); (with_reducible show wpList _ _ _ _ _ _); simp only [Act.put, List.setIfInBounds_toArray, List.set_cons_zero, List.set_cons_succ]) | ((with_reducible refine to_store 23 rfl ?_); refine Wl_store hS (fun _ => by rfl) _ _ _ rfl rfl (arI.trans rfl) (st_one _ _) ?_; (repeat (first | refine Turn.here rfl ?_ | refine Turn.next ?_)); clear hS; intro wW hS; try simp only [Act.put, List.setIfInBounds_toArray, List.set_cons_zero, List.set_cons_succ]))
    refine ret_st hS rfl _ _ rfl rfl _ Try.underlying23 rfl ?_
    repeat (first | (refine Row.here ⟨arI.trans rfl, ?_⟩) | refine Row.next ?_)
    exact ⟨rfl, hS.below⟩
set_option maxHeartbeats 4000000 in
theorem rarTick_any (m o : Int) (hm : -9223372036854775808 ≤ m ∧ m ≤ 9223372036854775807) (L : List Bool) (hL : L.length ≤ maxLen) (A : Option Addr) (c : Nat) (may : Bool) (w : World) (r1 : Ls 0 w (.slice A L.length c) (bls L)) :
    Calls Try.prog 22 #[stV m o, .slice A L.length c, .bool may] w fun e w' => e = .returned (stV m (M.arTick m o L may)) ∧ Below w.heap.size w w' := by
  have hf := fun W hW => rarFirst_any m hm L hL A c W (r1.below hW)
  have HF := Lib.hid hf
  have hS := St.start w.heap.size 0 0 w
  unfold stV
  clear hf r1
  cases may
  · rw [show M.arTick m o L false = o from rfl]
    go_enter Try.func22, Try.ntmps22
    go_wp2_with (first | ((with_reducible refine to_boxT 28 rfl ?_); refine Wl_box hS (fun _ => by rfl) _ rfl ?_; clear hS; intro b1 wW hS; simp only [Act.put, List.setIfInBounds_toArray, List.set_cons_zero, List.set_cons_succ]) | ((with_reducible refine to_alloc 28 rfl ?_); refine Wl_alloc hS (fun _ => by rfl) _ rarZ ?_; clear hS; intro b2 wW hS; simp only [Act.put, List.setIfInBounds_toArray, List.set_cons_zero, List.set_cons_succ]) | ((with_reducible first | refine to_load 3 rfl ?_ | refine to_load 4 rfl ?_ | refine to_load 24 rfl ?_); refine Wl_load1 hS (fun _ => by rfl) _ _ rfl (scT _ rfl) ?_; (repeat (first | refine Look.here (of_decide_eq_true rfl) rfl ?_ | refine Look.self rfl ?_ | refine Look.next ?_)); (with_reducible show wpList _ _ _ _ _ _); simp only [Act.put, List.setIfInBounds_toArray, List.set_cons_zero, List.set_cons_succ]) | ((with_reducible refine to_load 28 rfl ?_); refine Wl_load hS (fun _ => by rfl) _ _ rfl _ Try.underlying28 rfl ?_; (repeat (first | (refine Row.here ⟨rarI.trans rfl, ?_⟩) | refine Row.next ?_)); (with_reducible show wpList _ _ _ _ _ _); simp only [Act.put, List.setIfInBounds_toArray, List.set_cons_zero, List.set_cons_succ]) | ((with_reducible refine to_store 28 rfl ?_); refine Wl_store hS (fun _ => by rfl) _ _ _ rfl rfl (rarI.trans rfl) (st_one _ _) ?_; (repeat (first | refine Turn.here rfl ?_ | refine Turn.next ?_)); clear hS; intro wW hS; try simp only [Act.put, List.setIfInBounds_toArray, List.set_cons_zero, List.set_cons_succ]))
    refine ret_st hS rfl _ _ rfl rfl _ Try.underlying28 rfl ?_
    repeat (first | (refine Row.here ⟨rarI.trans rfl, ?_⟩) | refine Row.next ?_)
    exact ⟨rfl, hS.below⟩
  · rw [show M.arTick m o L true = M.arFirst (M.arE m) L from rfl]
    generalize M.arFirst (M.arE m) L = R at HF ⊢
    go_enter Try.func22, Try.ntmps22
    go_wp2_with (first | ((with_reducible refine to_boxT 28 rfl ?_); refine Wl_box hS (fun _ => by rfl) _ rfl ?_; clear hS; intro b1 wW hS; simp only [Act.put, List.setIfInBounds_toArray, List.set_cons_zero, List.set_cons_succ]) | ((with_reducible refine to_alloc 28 rfl ?_); refine Wl_alloc hS (fun _ => by rfl) _ rarZ ?_; clear hS; intro b2 wW hS; simp only [Act.put, List.setIfInBounds_toArray, List.set_cons_zero, List.set_cons_succ]) | ((with_reducible first | refine to_load 3 rfl ?_ | refine to_load 4 rfl ?_ | refine to_load 24 rfl ?_); refine Wl_load1 hS (fun _ => by rfl) _ _ rfl (scT _ rfl) ?_; (repeat (first | refine Look.here (of_decide_eq_true rfl) rfl ?_ | refine Look.self rfl ?_ | refine Look.next ?_)); (with_reducible show wpList _ _ _ _ _ _); simp only [Act.put, List.setIfInBounds_toArray, List.set_cons_zero, List.set_cons_succ]) | ((with_reducible refine to_load 28 rfl ?_); refine Wl_load hS (fun _ => by rfl) _ _ rfl _ Try.underlying28 rfl ?_; (repeat (first | (refine Row.here ⟨rarI.trans rfl, ?_⟩) | refine Row.next ?_)); (with_reducible show wpList _ _ _ _ _ _); simp only [Act.put, List.setIfInBounds_toArray, List.set_cons_zero, List.set_cons_succ]) | ((with_reducible refine to_store 28 rfl ?_); refine Wl_store hS (fun _ => by rfl) _ _ _ rfl rfl (rarI.trans rfl) (st_one _ _) ?_; (repeat (first | refine Turn.here rfl ?_ | refine Turn.next ?_)); clear hS; intro wW hS; try simp only [Act.put, List.setIfInBounds_toArray, List.set_cons_zero, List.set_cons_succ]))
    refine (HF.out _ hS.below).mono ?_
    rintro e w1 ⟨rfl, hb⟩
    replace hS := hS.call hb
    clear hb
    go_wp2_with (first | ((with_reducible first | refine to_store 3 rfl ?_ | refine to_store 4 rfl ?_); (first | refine Wl_store1 hS (fun _ => by rfl) _ _ (.int _ _) rfl rfl (scT _ rfl) rfl rfl ?_ | refine Wl_store1 hS (fun _ => by rfl) _ _ (.bool _) rfl rfl (scT _ rfl) rfl rfl ?_); (repeat (first | refine Turn1.here (of_decide_eq_true rfl) (of_decide_eq_true rfl) ?_ | refine Turn1.next ?_)); clear hS; intro wW hS; (try simp only [Act.put, List.setIfInBounds_toArray, List.set_cons_zero, List.set_cons_succ]); try simp only [Nat.sub_zero, Nat.add_zero, Nat.zero_add, Nat.reduceSub, Nat.add_sub_cancel_left, List.setIfInBounds_toArray, List.set_cons_zero, List.set_cons_succ] at hS) | ((with_reducible refine to_load 28 rfl ?_); refine Wl_load hS (fun _ => by rfl) _ _ rfl _ Try.underlying28 rfl ?_; (repeat (first | (refine Row.here ⟨rarI.trans rfl, ?_⟩) | refine Row.next ?_)); (with_reducible show wpList _ _ _ _ _ _); simp only [Act.put, List.setIfInBounds_toArray, List.set_cons_zero, List.set_cons_succ]) | ((with_reducible refine to_store 28 rfl ?_); refine Wl_store hS (fun _ => by rfl) _ _ _ rfl rfl (rarI.trans rfl) (st_one _ _) ?_; (repeat (first | refine Turn.here rfl ?_ | refine Turn.next ?_)); clear hS; intro wW hS; try simp only [Act.put, List.setIfInBounds_toArray, List.set_cons_zero, List.set_cons_succ]))
    refine ret_st hS rfl _ _ rfl rfl _ Try.underlying28 rfl ?_
    repeat (first | (refine Row.here ⟨rarI.trans rfl, ?_⟩) | refine Row.next ?_)
    exact ⟨rfl, hS.below⟩
end Go.Proofs.Ytmoafjgogbcoeaa
