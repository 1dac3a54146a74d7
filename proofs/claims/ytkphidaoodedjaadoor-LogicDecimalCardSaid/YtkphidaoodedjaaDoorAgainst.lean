/- The reference's and, or, xor bit by bit (charabancref05.against), by its contract: nothing that lay before is turned. -/
import Derived.Test.YtkphidaoodedjaaDoorRef01
import Derived.Test.YtkphidaoodedjaaDoorMathLogic
namespace Go.Proofs.YtkphidaoodedjaaDoor
open Go.RowKit
set_option linter.unusedVariables false

def M.againstV (kind u v : Int) : Int := if kind = 0 then bits .and .u8 u v else if kind = 1 then bits .or .u8 u v else bits .xor .u8 u v
set_option maxHeartbeats 2000000 in
theorem against0_any (a b : Int) (h0 : 0 ≤ a) (h1 : a ≤ 255) (h2 : 0 ≤ b) (h3 : b ≤ 255) (w : World) : Calls Tryd.prog 26 #[.int .i64 0, .int .u8 a, .int .u8 b] w fun e w' => e = .returned (.int .u8 (bits .and .u8 a b)) ∧ w = w' := by
  have HF := Lib.hid (M.afold_and a b)
  go_enter Tryd.func26, Tryd.ntmps26
  go_wp2
  go_loop [7, 8] (fun r n => ∃ k : Nat, k ≤ 8 ∧ n = .int .i64 k ∧ r = .int .u8 (M.afold and a b k)) (fun _ n => 8 - (intOf n).toNat)
  case atStart => exact ⟨0, Nat.zero_le _, rfl, rfl⟩
  case round =>
    obtain ⟨k, hk, rfl, rfl⟩ := hrel
    by_cases hlt : k < 8
    · have hx := refis_any a (k : Int) h0 h1
      have hy := refis_any b (k : Int) h2 h3
      have hw := refwith_any (M.afold and a b k) (k : Int) (and (M.is a k) (M.is b k)) (M.afold_range and a b k).1 (M.afold_range and a b k).2
      have hs : M.afold and a b (k + 1) = M.withB (M.afold and a b k) k (and (M.is a k) (M.is b k)) := rfl
      obtain ⟨x, hxe⟩ : ∃ x, x = M.is a k := ⟨_, rfl⟩
      obtain ⟨y, hye⟩ : ∃ y, y = M.is b k := ⟨_, rfl⟩
      rw [← hxe] at hx hw hs
      rw [← hye] at hy hw hs
      obtain ⟨P, hP⟩ : ∃ P, P = M.afold and a b k := ⟨_, rfl⟩
      rw [← hP] at hw hs ⊢
      clear hxe hye hP
      cases x <;> cases y
      all_goals
        have Hx := Lib.hid hx
        have Hy := Lib.hid hy
        have Hw := Lib.hid hw
        have Hs := Lib.hid hs
        clear hx hy hw hs
        go_wp2_with fail
        refine (Hx.out _).mono ?_
        rintro e w' ⟨rfl, rfl⟩
        go_wp2_with fail
        refine (Hy.out _).mono ?_
        rintro e w' ⟨rfl, rfl⟩
        go_wp2_with fail
        refine (Hw.out _).mono ?_
        rintro e w' ⟨rfl, rfl⟩
        go_wp2_with fail
        go_round
        case rel => exact ⟨k + 1, by omega, by simp, congrArg (Value.int .u8) Hs.out.symm⟩
        case measure => simp [intOf]; omega
    · obtain rfl : k = 8 := by omega
      go_wp2
      go_returns
      exact ⟨ret_int HF.out, rfl⟩
set_option maxHeartbeats 2000000 in
theorem against1_any (a b : Int) (h0 : 0 ≤ a) (h1 : a ≤ 255) (h2 : 0 ≤ b) (h3 : b ≤ 255) (w : World) : Calls Tryd.prog 26 #[.int .i64 1, .int .u8 a, .int .u8 b] w fun e w' => e = .returned (.int .u8 (bits .or .u8 a b)) ∧ w = w' := by
  have HF := Lib.hid (M.afold_or a b)
  go_enter Tryd.func26, Tryd.ntmps26
  go_wp2
  go_loop [7, 8] (fun r n => ∃ k : Nat, k ≤ 8 ∧ n = .int .i64 k ∧ r = .int .u8 (M.afold or a b k)) (fun _ n => 8 - (intOf n).toNat)
  case atStart => exact ⟨0, Nat.zero_le _, rfl, rfl⟩
  case round =>
    obtain ⟨k, hk, rfl, rfl⟩ := hrel
    by_cases hlt : k < 8
    · have hx := refis_any a (k : Int) h0 h1
      have hy := refis_any b (k : Int) h2 h3
      have hw := refwith_any (M.afold or a b k) (k : Int) (or (M.is a k) (M.is b k)) (M.afold_range or a b k).1 (M.afold_range or a b k).2
      have hs : M.afold or a b (k + 1) = M.withB (M.afold or a b k) k (or (M.is a k) (M.is b k)) := rfl
      obtain ⟨x, hxe⟩ : ∃ x, x = M.is a k := ⟨_, rfl⟩
      obtain ⟨y, hye⟩ : ∃ y, y = M.is b k := ⟨_, rfl⟩
      rw [← hxe] at hx hw hs
      rw [← hye] at hy hw hs
      obtain ⟨P, hP⟩ : ∃ P, P = M.afold or a b k := ⟨_, rfl⟩
      rw [← hP] at hw hs ⊢
      clear hxe hye hP
      cases x <;> cases y
      all_goals
        have Hx := Lib.hid hx
        have Hy := Lib.hid hy
        have Hw := Lib.hid hw
        have Hs := Lib.hid hs
        clear hx hy hw hs
        go_wp2_with fail
        refine (Hx.out _).mono ?_
        rintro e w' ⟨rfl, rfl⟩
        go_wp2_with fail
        refine (Hy.out _).mono ?_
        rintro e w' ⟨rfl, rfl⟩
        go_wp2_with fail
        refine (Hw.out _).mono ?_
        rintro e w' ⟨rfl, rfl⟩
        go_wp2_with fail
        go_round
        case rel => exact ⟨k + 1, by omega, by simp, congrArg (Value.int .u8) Hs.out.symm⟩
        case measure => simp [intOf]; omega
    · obtain rfl : k = 8 := by omega
      go_wp2
      go_returns
      exact ⟨ret_int HF.out, rfl⟩
set_option maxHeartbeats 2000000 in
theorem against2_any (a b : Int) (h0 : 0 ≤ a) (h1 : a ≤ 255) (h2 : 0 ≤ b) (h3 : b ≤ 255) (w : World) : Calls Tryd.prog 26 #[.int .i64 2, .int .u8 a, .int .u8 b] w fun e w' => e = .returned (.int .u8 (bits .xor .u8 a b)) ∧ w = w' := by
  have HF := Lib.hid (M.afold_xor a b)
  go_enter Tryd.func26, Tryd.ntmps26
  go_wp2
  go_loop [7, 8] (fun r n => ∃ k : Nat, k ≤ 8 ∧ n = .int .i64 k ∧ r = .int .u8 (M.afold (fun x y => x != y) a b k)) (fun _ n => 8 - (intOf n).toNat)
  case atStart => exact ⟨0, Nat.zero_le _, rfl, rfl⟩
  case round =>
    obtain ⟨k, hk, rfl, rfl⟩ := hrel
    by_cases hlt : k < 8
    · have hx := refis_any a (k : Int) h0 h1
      have hy := refis_any b (k : Int) h2 h3
      have hw := refwith_any (M.afold (fun x y => x != y) a b k) (k : Int) ((fun x y => x != y) (M.is a k) (M.is b k)) (M.afold_range (fun x y => x != y) a b k).1 (M.afold_range (fun x y => x != y) a b k).2
      have hs : M.afold (fun x y => x != y) a b (k + 1) = M.withB (M.afold (fun x y => x != y) a b k) k ((fun x y => x != y) (M.is a k) (M.is b k)) := rfl
      obtain ⟨x, hxe⟩ : ∃ x, x = M.is a k := ⟨_, rfl⟩
      obtain ⟨y, hye⟩ : ∃ y, y = M.is b k := ⟨_, rfl⟩
      rw [← hxe] at hx hw hs
      rw [← hye] at hy hw hs
      obtain ⟨P, hP⟩ : ∃ P, P = M.afold (fun x y => x != y) a b k := ⟨_, rfl⟩
      rw [← hP] at hw hs ⊢
      clear hxe hye hP
      cases x <;> cases y
      all_goals
        have Hx := Lib.hid hx
        have Hy := Lib.hid hy
        have Hw := Lib.hid hw
        have Hs := Lib.hid hs
        clear hx hy hw hs
        go_wp2_with fail
        refine (Hx.out _).mono ?_
        rintro e w' ⟨rfl, rfl⟩
        go_wp2_with fail
        refine (Hy.out _).mono ?_
        rintro e w' ⟨rfl, rfl⟩
        go_wp2_with fail
        refine (Hw.out _).mono ?_
        rintro e w' ⟨rfl, rfl⟩
        go_wp2_with fail
        go_round
        case rel => exact ⟨k + 1, by omega, by simp, congrArg (Value.int .u8) Hs.out.symm⟩
        case measure => simp [intOf]; omega
    · obtain rfl : k = 8 := by omega
      go_wp2
      go_returns
      exact ⟨ret_int HF.out, rfl⟩
theorem against_any (kind a b : Int) (h0 : 0 ≤ a) (h1 : a ≤ 255) (h2 : 0 ≤ b) (h3 : b ≤ 255) (k0 : 0 ≤ kind) (k1 : kind ≤ 2) (w : World) : Calls Tryd.prog 26 #[.int .i64 kind, .int .u8 a, .int .u8 b] w fun e w' => e = .returned (.int .u8 (M.againstV kind a b)) ∧ w = w' := by
  have hk : kind = 0 ∨ kind = 1 ∨ kind = 2 := by omega
  rcases hk with rfl | rfl | rfl
  · exact against0_any a b h0 h1 h2 h3 w
  · exact against1_any a b h0 h1 h2 h3 w
  · exact against2_any a b h0 h1 h2 h3 w
end Go.Proofs.YtkphidaoodedjaaDoor
