/- The arbiter (arbiter, charabancref27): Waits; charabancref26.Ints: by their contracts. -/
import Derived.Test.YtmoafjgogbcoeaaArB
namespace Go.Proofs.Ytmoafjgogbcoeaa
open Go.RowKit
set_option linter.unusedVariables false
set_option linter.unusedSimpArgs false
set_option maxRecDepth 100000
def M.arAsk (a : List Bool) (m : Int) : Bool := decide (0 ≤ m) && (decide (m < (a.length : Int)) && a.getD m.toNat false)
def M.arHit (OS : List Int) (LL : List (List Bool)) (m : Int) (j : Nat) : Bool := M.arAsk (LL.getD j []) m && !(decide (OS.getD j 0 = m))
def M.arWs (OS : List Int) (LL : List (List Bool)) (m : Int) : Nat → Int × Int
  | 0 => (0, 0)
  | j + 1 => if M.arHit OS LL m j then (max (M.arWs OS LL m j).1 ((M.arWs OS LL m j).2 + 1), (M.arWs OS LL m j).2 + 1) else ((M.arWs OS LL m j).1, 0)
def M.arWaits (OS : List Int) (LL : List (List Bool)) (m : Int) : Int := (M.arWs OS LL m OS.length).1
section
variable {OS : List Int} {LL : List (List Bool)} {m : Int} {j : Nat} {p1 p2 : Int}
theorem M.arWs_no (h : M.arHit OS LL m j = false) (hp : (p1, p2) = M.arWs OS LL m j) : (p1, 0) = M.arWs OS LL m (j + 1) := by
  rw [M.arWs, h, ← hp]; rfl
theorem M.arWs_yes (h : M.arHit OS LL m j = true) (hp : (p1, p2) = M.arWs OS LL m j) : (max p1 (p2 + 1), p2 + 1) = M.arWs OS LL m (j + 1) := by
  rw [M.arWs, h, ← hp]; rfl
end
theorem arBx {l : List Bool} {A : Option Addr} {c : Nat} {w : World} (hl : Ls 0 w (.slice A l.length c) (bls l)) {k : Nat} (hk : k < l.length) : ∃ x q, A = some ⟨x, q, none⟩ ∧ l.length ≤ c ∧ w.cell? ⟨x, q + k, none⟩ = some (.bool (l.getD k false)) := by
  obtain ⟨x1, q1, k1, hs1, _, hk1, hc1⟩ := hl.atV (bls_at hk)
  simp only [Value.slice.injEq] at hs1
  rw [bls_length] at hk1
  exact ⟨x1, q1, hs1.1, by omega, hc1⟩
theorem arIx {l : List Int} {A : Option Addr} {c : Nat} {w : World} (hl : Ls 0 w (.slice A l.length c) (ints .i64 l)) {k : Nat} (hk : k < l.length) : ∃ x q, A = some ⟨x, q, none⟩ ∧ l.length ≤ c ∧ w.cell? ⟨x, q + k, none⟩ = some (.int .i64 (l.getD k 0)) := by
  obtain ⟨x1, q1, k1, hs1, _, hk1, hc1⟩ := hl.at_ hk
  simp only [Value.slice.injEq] at hs1
  exact ⟨x1, q1, hs1.1, by omega, hc1⟩
set_option maxHeartbeats 4000000 in
theorem arWaits_neg (OS : List Int) (hO : OS.length ≤ maxLen) (A : Option Addr) (c : Nat) (LL : List (List Bool)) (A2 : Option Addr) (n2 c2 : Nat) (m : Int) (hm : m < 0) (w : World) (ro : Ls 0 w (.slice A OS.length c) (ints .i64 OS)) (rn : N2 w A2 n2 c2 LL) :
    Calls Try.prog 27 #[.slice A OS.length c, .slice A2 n2 c2, .int .i64 m] w fun e w' => e = .returned (.int .i64 (M.arWaits OS LL m)) ∧ w = w' := by
  have HO := Lib.hid (fun i (hi : i < OS.length) => arIx ro hi)
  have HN := Lib.hid rn
  simp only [maxLen] at hO
  clear ro rn
  go_enter Try.func27, Try.ntmps27
  go_wp2_with fail
  go_loopw [7, 8, 14] (fun l nw i wr => ∃ (j : Nat) (p1 p2 : Int), i = .int .i64 j ∧ j ≤ OS.length ∧ (p1, p2) = M.arWs OS LL m j ∧ 0 ≤ p1 ∧ p1 ≤ j ∧ 0 ≤ p2 ∧ p2 ≤ j ∧ l = .int .i64 p1 ∧ nw = .int .i64 p2 ∧ w = wr) (fun _ _ i _ => OS.length - (intOf i).toNat)
  case atStart => exact ⟨0, 0, 0, rfl, Nat.zero_le _, rfl, by decide, by decide, by decide, by decide, rfl, rfl, rfl⟩
  case round =>
    obtain ⟨j, p1, p2, rfl, hj, hp, a0, a1, b0, b1, rfl, rfl, rfl⟩ := hrel
    have HP := Lib.hid hp
    clear hp
    by_cases k1 : j < OS.length
    · have k1' : (j : Int) < (OS.length : Int) := by omega
      have k0' : (0 : Int) ≤ (j : Int) := by omega
      obtain ⟨x1, q1, rfl, hkc, hcell⟩ := HO.out j k1
      have HE := Lib.hid (M.arWs_no (p1 := p1) (p2 := p2) (show M.arHit OS LL m j = false by simp [M.arHit, M.arAsk]; omega) HP.out)
      go_wp2_with fail
      refine (arat_any A2 n2 c2 LL j _ HN.out).mono ?_
      rintro e w1 ⟨⟨A3, c3, rfl, hl⟩, rfl⟩
      clear hl
      go_wp2_with fail
      go_round
      case rel => exact ⟨j + 1, p1, 0, by simp, by omega, HE.out, a0, by omega, Int.le_refl _, by omega, rfl, rfl, trivial⟩
      case measure => simp [intOf]; omega
    · have k1' : ¬ ((j : Int) < (OS.length : Int)) := by omega
      obtain rfl : j = OS.length := by omega
      go_wp2_with fail
      go_returns
      exact ⟨ret_int (by rw [M.arWaits, ← HP.out]), rfl⟩
set_option maxHeartbeats 4000000 in
theorem arWaits_nat (OS : List Int) (hO : OS.length ≤ maxLen) (A : Option Addr) (c : Nat) (LL : List (List Bool)) (A2 : Option Addr) (n2 c2 : Nat) (m : Nat) (w : World) (ro : Ls 0 w (.slice A OS.length c) (ints .i64 OS)) (rn : N2 w A2 n2 c2 LL) :
    Calls Try.prog 27 #[.slice A OS.length c, .slice A2 n2 c2, .int .i64 (m : Int)] w fun e w' => e = .returned (.int .i64 (M.arWaits OS LL m)) ∧ w = w' := by
  have hm0 : ¬ ((m : Int) < 0) := by omega
  have hm1 : (0 : Int) ≤ (m : Int) := by omega
  have HO := Lib.hid (fun i (hi : i < OS.length) => arIx ro hi)
  have HN := Lib.hid rn
  simp only [maxLen] at hO
  clear ro rn
  go_enter Try.func27, Try.ntmps27
  go_wp2_with fail
  go_loopw [7, 8, 14] (fun l nw i wr => ∃ (j : Nat) (p1 p2 : Int), i = .int .i64 j ∧ j ≤ OS.length ∧ (p1, p2) = M.arWs OS LL m j ∧ 0 ≤ p1 ∧ p1 ≤ j ∧ 0 ≤ p2 ∧ p2 ≤ j ∧ l = .int .i64 p1 ∧ nw = .int .i64 p2 ∧ w = wr) (fun _ _ i _ => OS.length - (intOf i).toNat)
  case atStart => exact ⟨0, 0, 0, rfl, Nat.zero_le _, rfl, by decide, by decide, by decide, by decide, rfl, rfl, rfl⟩
  case round =>
    obtain ⟨j, p1, p2, rfl, hj, hp, a0, a1, b0, b1, rfl, rfl, rfl⟩ := hrel
    have HP := Lib.hid hp
    clear hp
    by_cases k1 : j < OS.length
    · have k1' : (j : Int) < (OS.length : Int) := by omega
      have k0' : (0 : Int) ≤ (j : Int) := by omega
      obtain ⟨x1, q1, rfl, hkc, hcell⟩ := HO.out j k1
      have hhit : M.arHit OS LL m j = (decide ((m : Int) < ((LL.getD j []).length : Int)) && (LL.getD j []).getD m false && !(decide (OS.getD j 0 = m))) := by simp [M.arHit, M.arAsk]
      have HH := Lib.hid hhit
      clear hhit
      generalize OS.getD j 0 = ow at hcell HH
      go_wp2_with fail
      refine (arat_any A2 n2 c2 LL j _ HN.out).mono ?_
      rintro e w1 ⟨⟨A3, c3, rfl, hl⟩, rfl⟩
      generalize LL.getD j [] = a at hl HH
      have HL := Lib.hid hl
      clear hl
      by_cases k2 : (m : Int) < (a.length : Int)
      · obtain ⟨x2, q2, rfl, hkc2, hcell2⟩ := arBx HL.out (k := m) (by omega)
        have k3 : ¬ ((m : Int) ≥ (a.length : Int)) := by omega
        generalize a.getD m false = v at hcell2 HH
        cases v
        · have HE := Lib.hid (M.arWs_no (p1 := p1) (p2 := p2) (show M.arHit OS LL m j = false by rw [HH.out]; simp) HP.out)
          go_wp2_with fail
          go_round
          case rel => exact ⟨j + 1, p1, 0, by simp, by omega, HE.out, a0, by omega, Int.le_refl _, by omega, rfl, rfl, trivial⟩
          case measure => simp [intOf]; omega
        · by_cases k4 : ow = (m : Int)
          · have k5 : (ow == (m : Int)) = true := by simp [k4]
            have k6 : decide (ow = (m : Int)) = true := by simp [k4]
            have HE := Lib.hid (M.arWs_no (p1 := p1) (p2 := p2) (show M.arHit OS LL m j = false by rw [HH.out, k6]; simp) HP.out)
            clear k4
            go_wp2_with fail
            go_round
            case rel => exact ⟨j + 1, p1, 0, by simp, by omega, HE.out, a0, by omega, Int.le_refl _, by omega, rfl, rfl, trivial⟩
            case measure => simp [intOf]; omega
          · have k5 : (ow == (m : Int)) = false := by simp [k4]
            have k6 : decide (ow = (m : Int)) = false := by simp [k4]
            have HE := Lib.hid (M.arWs_yes (p1 := p1) (p2 := p2) (show M.arHit OS LL m j = true by rw [HH.out, k6]; simp [k2]) HP.out)
            go_wp2_with fail
            all_goals
              go_round
              case rel => exact ⟨j + 1, max p1 (p2 + 1), p2 + 1, by simp, by omega, HE.out, by omega, by omega, by omega, by omega, by first | rfl | (congr 1; omega), rfl, trivial⟩
              case measure => simp [intOf]; omega
      · have k3 : ((m : Int) ≥ (a.length : Int)) := by omega
        have HE := Lib.hid (M.arWs_no (p1 := p1) (p2 := p2) (show M.arHit OS LL m j = false by rw [HH.out]; simp [k2]) HP.out)
        go_wp2_with fail
        go_round
        case rel => exact ⟨j + 1, p1, 0, by simp, by omega, HE.out, a0, by omega, Int.le_refl _, by omega, rfl, rfl, trivial⟩
        case measure => simp [intOf]; omega
    · have k1' : ¬ ((j : Int) < (OS.length : Int)) := by omega
      obtain rfl : j = OS.length := by omega
      go_wp2_with fail
      go_returns
      exact ⟨ret_int (by rw [M.arWaits, ← HP.out]), rfl⟩
theorem arWaits_any (OS : List Int) (hO : OS.length ≤ maxLen) (A : Option Addr) (c : Nat) (LL : List (List Bool)) (A2 : Option Addr) (n2 c2 : Nat) (m : Int) (w : World) (ro : Ls 0 w (.slice A OS.length c) (ints .i64 OS)) (rn : N2 w A2 n2 c2 LL) :
    Calls Try.prog 27 #[.slice A OS.length c, .slice A2 n2 c2, .int .i64 m] w fun e w' => e = .returned (.int .i64 (M.arWaits OS LL m)) ∧ w = w' := by
  by_cases h : m < 0
  · exact arWaits_neg OS hO A c LL A2 n2 c2 m h w ro rn
  · obtain ⟨k, rfl⟩ : ∃ k : Nat, m = k := ⟨m.toNat, by omega⟩
    exact arWaits_nat OS hO A c LL A2 n2 c2 k w ro rn
set_option maxHeartbeats 4000000 in
theorem rarWaits_neg (OS : List Int) (hO : OS.length ≤ maxLen) (A : Option Addr) (c : Nat) (LL : List (List Bool)) (A2 : Option Addr) (n2 c2 : Nat) (m : Int) (hm : m < 0) (w : World) (ro : Ls 0 w (.slice A OS.length c) (ints .i64 OS)) (rn : N2 w A2 n2 c2 LL) :
    Calls Try.prog 28 #[.slice A OS.length c, .slice A2 n2 c2, .int .i64 m] w fun e w' => e = .returned (.int .i64 (M.arWaits OS LL m)) ∧ w = w' := by
  have hm1 : ¬ (m ≥ 0) := by omega
  have HO := Lib.hid (fun i (hi : i < OS.length) => arIx ro hi)
  have HN := Lib.hid rn
  simp only [maxLen] at hO
  clear ro rn
  go_enter Try.func28, Try.ntmps28
  go_wp2_with fail
  go_loopw [7, 8, 9] (fun l nw i wr => ∃ (j : Nat) (p1 p2 : Int), i = .int .i64 j ∧ j ≤ OS.length ∧ (p1, p2) = M.arWs OS LL m j ∧ 0 ≤ p1 ∧ p1 ≤ j ∧ 0 ≤ p2 ∧ p2 ≤ j ∧ l = .int .i64 p1 ∧ nw = .int .i64 p2 ∧ w = wr) (fun _ _ i _ => OS.length - (intOf i).toNat)
  case atStart => exact ⟨0, 0, 0, rfl, Nat.zero_le _, rfl, by decide, by decide, by decide, by decide, rfl, rfl, rfl⟩
  case round =>
    obtain ⟨j, p1, p2, rfl, hj, hp, a0, a1, b0, b1, rfl, rfl, rfl⟩ := hrel
    have HP := Lib.hid hp
    clear hp
    by_cases k1 : j < OS.length
    · have k1' : (j : Int) < (OS.length : Int) := by omega
      have k0' : (0 : Int) ≤ (j : Int) := by omega
      obtain ⟨x1, q1, rfl, hkc, hcell⟩ := HO.out j k1
      have HE := Lib.hid (M.arWs_no (p1 := p1) (p2 := p2) (show M.arHit OS LL m j = false by simp [M.arHit, M.arAsk]; omega) HP.out)
      by_cases k2 : (j : Int) < (n2 : Int)
      all_goals
        go_wp2_with fail
        go_round
        case rel => exact ⟨j + 1, p1, 0, by simp, by omega, HE.out, a0, by omega, Int.le_refl _, by omega, rfl, rfl, trivial⟩
        case measure => simp [intOf]; omega
    · have k1' : ¬ ((j : Int) < (OS.length : Int)) := by omega
      obtain rfl : j = OS.length := by omega
      go_wp2_with fail
      go_returns
      exact ⟨ret_int (by rw [M.arWaits, ← HP.out]), rfl⟩
set_option maxHeartbeats 4000000 in
theorem rarWaits_nat (OS : List Int) (hO : OS.length ≤ maxLen) (A : Option Addr) (c : Nat) (LL : List (List Bool)) (A2 : Option Addr) (n2 c2 : Nat) (m : Nat) (w : World) (ro : Ls 0 w (.slice A OS.length c) (ints .i64 OS)) (rn : N2 w A2 n2 c2 LL) :
    Calls Try.prog 28 #[.slice A OS.length c, .slice A2 n2 c2, .int .i64 (m : Int)] w fun e w' => e = .returned (.int .i64 (M.arWaits OS LL m)) ∧ w = w' := by
  have hm0 : (m : Int) ≥ 0 := by omega
  have hm1 : (0 : Int) ≤ (m : Int) := by omega
  have HO := Lib.hid (fun i (hi : i < OS.length) => arIx ro hi)
  have HN := Lib.hid rn
  simp only [maxLen] at hO
  clear ro rn
  go_enter Try.func28, Try.ntmps28
  go_wp2_with fail
  go_loopw [7, 8, 9] (fun l nw i wr => ∃ (j : Nat) (p1 p2 : Int), i = .int .i64 j ∧ j ≤ OS.length ∧ (p1, p2) = M.arWs OS LL m j ∧ 0 ≤ p1 ∧ p1 ≤ j ∧ 0 ≤ p2 ∧ p2 ≤ j ∧ l = .int .i64 p1 ∧ nw = .int .i64 p2 ∧ w = wr) (fun _ _ i _ => OS.length - (intOf i).toNat)
  case atStart => exact ⟨0, 0, 0, rfl, Nat.zero_le _, rfl, by decide, by decide, by decide, by decide, rfl, rfl, rfl⟩
  case round =>
    obtain ⟨j, p1, p2, rfl, hj, hp, a0, a1, b0, b1, rfl, rfl, rfl⟩ := hrel
    have HP := Lib.hid hp
    clear hp
    by_cases k1 : j < OS.length
    · have k1' : (j : Int) < (OS.length : Int) := by omega
      have k0' : (0 : Int) ≤ (j : Int) := by omega
      obtain ⟨x1, q1, rfl, hkc, hcell⟩ := HO.out j k1
      have hhit : M.arHit OS LL m j = (decide ((m : Int) < ((LL.getD j []).length : Int)) && (LL.getD j []).getD m false && !(decide (OS.getD j 0 = m))) := by simp [M.arHit, M.arAsk]
      have HH := Lib.hid hhit
      clear hhit
      generalize OS.getD j 0 = ow at hcell HH
      by_cases k2 : j < n2
      · have k2' : (j : Int) < (n2 : Int) := by omega
        obtain ⟨x3, q3, A3, c3, rfl, hkc3, hcell3, hl⟩ := HN.out.at_ k2
        generalize LL.getD j [] = a at hl HH hcell3
        have HL := Lib.hid hl
        clear hl
        by_cases k3 : (m : Int) < (a.length : Int)
        · obtain ⟨x2, q2, rfl, hkc2, hcell2⟩ := arBx HL.out (k := m) (by omega)
          generalize a.getD m false = v at hcell2 HH
          cases v
          · have HE := Lib.hid (M.arWs_no (p1 := p1) (p2 := p2) (show M.arHit OS LL m j = false by rw [HH.out]; simp) HP.out)
            go_wp2_with fail
            go_round
            case rel => exact ⟨j + 1, p1, 0, by simp, by omega, HE.out, a0, by omega, Int.le_refl _, by omega, rfl, rfl, trivial⟩
            case measure => simp [intOf]; omega
          · by_cases k4 : ow = (m : Int)
            · have k5 : (ow == (m : Int)) = true := by simp [k4]
              have k6 : decide (ow = (m : Int)) = true := by simp [k4]
              have HE := Lib.hid (M.arWs_no (p1 := p1) (p2 := p2) (show M.arHit OS LL m j = false by rw [HH.out, k6]; simp) HP.out)
              clear k4
              go_wp2_with fail
              go_round
              case rel => exact ⟨j + 1, p1, 0, by simp, by omega, HE.out, a0, by omega, Int.le_refl _, by omega, rfl, rfl, trivial⟩
              case measure => simp [intOf]; omega
            · have k5 : (ow == (m : Int)) = false := by simp [k4]
              have k6 : decide (ow = (m : Int)) = false := by simp [k4]
              have HE := Lib.hid (M.arWs_yes (p1 := p1) (p2 := p2) (show M.arHit OS LL m j = true by rw [HH.out, k6]; simp [k3]) HP.out)
              go_wp2_with fail
              all_goals
                go_round
                case rel => exact ⟨j + 1, max p1 (p2 + 1), p2 + 1, by simp, by omega, HE.out, by omega, by omega, by omega, by omega, by first | rfl | (congr 1; omega), rfl, trivial⟩
                case measure => simp [intOf]; omega
        · have HE := Lib.hid (M.arWs_no (p1 := p1) (p2 := p2) (show M.arHit OS LL m j = false by rw [HH.out]; simp [k3]) HP.out)
          go_wp2_with fail
          go_round
          case rel => exact ⟨j + 1, p1, 0, by simp, by omega, HE.out, a0, by omega, Int.le_refl _, by omega, rfl, rfl, trivial⟩
          case measure => simp [intOf]; omega
      · have k2' : ¬ ((j : Int) < (n2 : Int)) := by omega
        have he : LL.getD j [] = [] := HN.out.out k2
        have HE := Lib.hid (M.arWs_no (p1 := p1) (p2 := p2) (show M.arHit OS LL m j = false by rw [HH.out, he]; simp) HP.out)
        clear he
        go_wp2_with fail
        go_round
        case rel => exact ⟨j + 1, p1, 0, by simp, by omega, HE.out, a0, by omega, Int.le_refl _, by omega, rfl, rfl, trivial⟩
        case measure => simp [intOf]; omega
    · have k1' : ¬ ((j : Int) < (OS.length : Int)) := by omega
      obtain rfl : j = OS.length := by omega
      go_wp2_with fail
      go_returns
      exact ⟨ret_int (by rw [M.arWaits, ← HP.out]), rfl⟩
theorem rarWaits_any (OS : List Int) (hO : OS.length ≤ maxLen) (A : Option Addr) (c : Nat) (LL : List (List Bool)) (A2 : Option Addr) (n2 c2 : Nat) (m : Int) (w : World) (ro : Ls 0 w (.slice A OS.length c) (ints .i64 OS)) (rn : N2 w A2 n2 c2 LL) :
    Calls Try.prog 28 #[.slice A OS.length c, .slice A2 n2 c2, .int .i64 m] w fun e w' => e = .returned (.int .i64 (M.arWaits OS LL m)) ∧ w = w' := by
  by_cases h : m < 0
  · exact rarWaits_neg OS hO A c LL A2 n2 c2 m h w ro rn
  · obtain ⟨k, rfl⟩ : ∃ k : Nat, m = k := ⟨m.toNat, by omega⟩
    exact rarWaits_nat OS hO A c LL A2 n2 c2 k w ro rn
theorem St.oneI {w W : World} {es : List Ent} {b q : Nat} {v : Value} (h : St w.heap.size 0 0 w es W) (hc : w.cell? ⟨b, q, none⟩ = some v) : St w.heap.size 0 0 w (⟨b, q, false, #[v]⟩ :: es) W := h.oneB hc
set_option maxHeartbeats 4000000 in
theorem arInts_any (L : List Int) (hL : L.length ≤ maxLen) (A : Option Addr) (c : Nat) (A2 : Option Addr) (c2 : Nat) (w : World) (r1 : Ls 0 w (.slice A L.length c) (ints .i64 L)) (r2 : Ls 0 w (.slice A2 L.length c2) (ints .i64 L)) :
    Calls Try.prog 29 #[.slice A L.length c, .slice A2 L.length c2] w fun e w' => e = .returned (.bool true) ∧ Below w.heap.size w w' := by
  have HA := Lib.hid (fun i (hi : i < L.length) => arIx r1 hi)
  have HB := Lib.hid (fun i (hi : i < L.length) => arIx r2 hi)
  have hS := St.start w.heap.size 0 0 w
  simp only [maxLen] at hL
  clear r1 r2
  go_enter Try.func29, Try.ntmps29
  go_wp2_with fail
  have HS0 := Lib.hid hS
  clear hS
  go_loopw [5] (fun i wr => ∃ j : Nat, i = .int .i64 j ∧ j ≤ L.length ∧ St w.heap.size 0 0 w [] wr) (fun i _ => L.length - (intOf i).toNat)
  case atStart => exact ⟨0, rfl, Nat.zero_le _, HS0.out⟩
  case round =>
    clear HS0
    obtain ⟨j, rfl, hj, hS⟩ := hrel
    by_cases k1 : j < L.length
    · have k1' : (j : Int) < (L.length : Int) := by omega
      have k0' : (0 : Int) ≤ (j : Int) := by omega
      obtain ⟨x1, q1, rfl, hk1, hc1⟩ := HA.out j k1
      obtain ⟨x2, q2, rfl, hk2, hc2⟩ := HB.out j k1
      replace hS := (hS.oneI hc1).oneI hc2
      generalize L.getD j 0 = v at hS hc1 hc2
      clear hc1 hc2
      go_wp2_with fail
      refine wp_region_held_drew (S := fun W => St w.heap.size 0 0 w [⟨x2, q2 + j, false, #[.int .i64 v]⟩, ⟨x1, q1 + j, false, #[.int .i64 v]⟩] W) (by kernel_rfl) (hS.drew.sub (by repeat (first | exact List.Sublist.slnil | exact List.nil_sublist _ | apply List.Sublist.cons_cons | apply List.Sublist.cons))) ?_
      intro _
      replace hS := hS.drew
      generalize World.drew _ = wX at hS ⊢
      refine wpAnyH_take (i := 0) (v := ?_) rfl (by kernel_rfl) (by kernel_rfl) (by kernel_rfl) (fun _ _ _ h => h) (Or.inl ⟨by rfl, ?_⟩) (hS.sub (by repeat (first | exact List.Sublist.slnil | exact List.nil_sublist _ | apply List.Sublist.cons_cons | apply List.Sublist.cons))) ?_
      rotate_left 1
      · intro W hW
        clear hW
        go_simp
        all_goals with_reducible rfl
      try simp only [Act.put, List.setIfInBounds_toArray, List.set_cons_zero, List.set_cons_succ, List.getElem_toArray, List.getElem_cons_succ, List.getElem_cons_zero]
      refine wpAnyH_take (i := 1) (v := ?_) rfl (by kernel_rfl) (by kernel_rfl) (by kernel_rfl) (fun _ _ _ h => h) (Or.inl ⟨by rfl, ?_⟩) (hS.sub (by repeat (first | exact List.Sublist.slnil | exact List.nil_sublist _ | apply List.Sublist.cons_cons | apply List.Sublist.cons))) ?_
      rotate_left 1
      · intro W hW
        clear hW
        go_simp
        all_goals with_reducible rfl
      try simp only [Act.put, List.setIfInBounds_toArray, List.set_cons_zero, List.set_cons_succ, List.getElem_toArray, List.getElem_cons_succ, List.getElem_cons_zero]
      refine wpAnyH_take (i := 2) (v := ?_) rfl (by kernel_rfl) (by kernel_rfl) (by kernel_rfl) (fun _ _ _ h => h) (Or.inl ⟨by rfl, ?_⟩) (hS.sub (by repeat (first | exact List.Sublist.slnil | exact List.nil_sublist _ | apply List.Sublist.cons_cons | apply List.Sublist.cons))) ?_
      rotate_left 1
      · intro W hW
        clear hW
        go_simp
        all_goals with_reducible rfl
      try simp only [Act.put, List.setIfInBounds_toArray, List.set_cons_zero, List.set_cons_succ, List.getElem_toArray, List.getElem_cons_succ, List.getElem_cons_zero]
      refine wpAnyH_take (i := 3) rfl (by kernel_rfl) (by kernel_rfl) (by kernel_rfl) (fun _ _ _ h => h) (yields_one (by rfl) _ _ rfl _ _ rfl sc3 _ (fun W hW => hW.cell (j := 0) (.tail _ (.head _)) rfl)) (hS.sub (by repeat (first | exact List.Sublist.slnil | exact List.nil_sublist _ | apply List.Sublist.cons_cons | apply List.Sublist.cons))) ?_
      try simp only [Act.put, List.setIfInBounds_toArray, List.set_cons_zero, List.set_cons_succ, List.getElem_toArray, List.getElem_cons_succ, List.getElem_cons_zero]
      refine wpAnyH_take (i := 4) (v := ?_) rfl (by kernel_rfl) (by kernel_rfl) (by kernel_rfl) (fun _ _ _ h => h) (Or.inl ⟨by rfl, ?_⟩) (hS.sub (by repeat (first | exact List.Sublist.slnil | exact List.nil_sublist _ | apply List.Sublist.cons_cons | apply List.Sublist.cons))) ?_
      rotate_left 1
      · intro W hW
        clear hW
        go_simp
        all_goals with_reducible rfl
      try simp only [Act.put, List.setIfInBounds_toArray, List.set_cons_zero, List.set_cons_succ, List.getElem_toArray, List.getElem_cons_succ, List.getElem_cons_zero]
      refine wpAnyH_take (i := 5) (v := ?_) rfl (by kernel_rfl) (by kernel_rfl) (by kernel_rfl) (fun _ _ _ h => h) (Or.inl ⟨by rfl, ?_⟩) (hS.sub (by repeat (first | exact List.Sublist.slnil | exact List.nil_sublist _ | apply List.Sublist.cons_cons | apply List.Sublist.cons))) ?_
      rotate_left 1
      · intro W hW
        clear hW
        go_simp
        all_goals with_reducible rfl
      try simp only [Act.put, List.setIfInBounds_toArray, List.set_cons_zero, List.set_cons_succ, List.getElem_toArray, List.getElem_cons_succ, List.getElem_cons_zero]
      refine wpAnyH_take (i := 6) (v := ?_) rfl (by kernel_rfl) (by kernel_rfl) (by kernel_rfl) (fun _ _ _ h => h) (Or.inl ⟨by rfl, ?_⟩) (hS.sub (by repeat (first | exact List.Sublist.slnil | exact List.nil_sublist _ | apply List.Sublist.cons_cons | apply List.Sublist.cons))) ?_
      rotate_left 1
      · intro W hW
        clear hW
        go_simp
        all_goals with_reducible rfl
      try simp only [Act.put, List.setIfInBounds_toArray, List.set_cons_zero, List.set_cons_succ, List.getElem_toArray, List.getElem_cons_succ, List.getElem_cons_zero]
      refine wpAnyH_take (i := 7) rfl (by kernel_rfl) (by kernel_rfl) (by kernel_rfl) (fun _ _ _ h => h) (yields_one (by rfl) _ _ rfl _ _ rfl sc3 _ (fun W hW => hW.cell (j := 0) (.head _) rfl)) (hS.sub (by repeat (first | exact List.Sublist.slnil | exact List.nil_sublist _ | apply List.Sublist.cons_cons | apply List.Sublist.cons))) ?_
      try simp only [Act.put, List.setIfInBounds_toArray, List.set_cons_zero, List.set_cons_succ, List.getElem_toArray, List.getElem_cons_succ, List.getElem_cons_zero]
      refine wpAnyH_take (i := 8) (v := ?_) rfl (by kernel_rfl) (by kernel_rfl) (by kernel_rfl) (fun _ _ _ h => h) (Or.inl ⟨by rfl, ?_⟩) (hS.sub (by repeat (first | exact List.Sublist.slnil | exact List.nil_sublist _ | apply List.Sublist.cons_cons | apply List.Sublist.cons))) ?_
      rotate_left 1
      · intro W hW
        clear hW
        go_simp
        all_goals with_reducible rfl
      try simp only [Act.put, List.setIfInBounds_toArray, List.set_cons_zero, List.set_cons_succ, List.getElem_toArray, List.getElem_cons_succ, List.getElem_cons_zero]
      refine wpAnyH_done (by kernel_rfl) ?_ _
      go_wp2_with fail
      go_round
      case rel => exact ⟨j + 1, by simp, by omega, (hS.sub (by repeat (first | exact List.Sublist.slnil | exact List.nil_sublist _ | apply List.Sublist.cons_cons | apply List.Sublist.cons)))⟩
      case measure => simp [intOf]; omega
    · have k1' : ¬ ((j : Int) < (L.length : Int)) := by omega
      obtain rfl : j = L.length := by omega
      go_wp2_with fail
      go_returns
      exact ⟨rfl, hS.below⟩
end Go.Proofs.Ytmoafjgogbcoeaa
