/- Bytes that came in, in their order, as plain mathematics. -/
import Derived.Test.YtlpoldnidojgmaaSioOk
namespace Go.Proofs.Ytlpoldnidojgmaa
open Go.RowKit
set_option linter.unusedVariables false
theorem M.lb1 : 0 ≤ (1 : Int) ∧ (1 : Int) ≤ 255 := by decide
def M.ordX (a b d n : Int) (over : Bool) (pt : Int) : M.Cn := ⟨0, 0, 0, 1, 0, 0, 0, 0, pt, a, b, d, n, over, 0, false, false⟩
def M.ordC (g : Nat → Int) (m : Nat) : M.Cn := M.ordX (if 0 < m then g 0 else 0) (if 1 < m then g 1 else 0) (if 2 < m then g (m - 1) else 0) (if 2 < m then 3 else m) (decide (3 < m)) 0
def M.ordS (c : Nat) (x : M.Cn) : M.Si := M.si0.set x c
theorem M.ordX_ok {a b d n : Int} {over : Bool} {pt : Int} (ha : 0 ≤ a ∧ a ≤ 255) (hb : 0 ≤ b ∧ b ≤ 255) (hd : 0 ≤ d ∧ d ≤ 255) (hn : 0 ≤ n ∧ n ≤ 3) (hp : 0 ≤ pt ∧ pt ≤ 7) : (M.ordX a b d n over pt).ok :=
  ⟨M.lb, M.lb, M.lb, M.lb1, M.lb, M.lb, M.lb, M.lb, ⟨by show _ ≤ pt; omega, by show pt ≤ _; omega⟩, ha, hb, hd, ⟨by show _ ≤ n; omega, by show n ≤ _; omega⟩, M.lb⟩
theorem M.ordS_ok {c : Nat} {x : M.Cn} (h : x.ok) : (M.ordS c x).ok := M.set_ok M.si0_ok h c
theorem M.ordC_ok {g : Nat → Int} {m : Nat} (h : ∀ i, i < m → 0 ≤ g i ∧ g i ≤ 255) : (M.ordC g m).ok := by
  have z : 0 ≤ (0 : Int) ∧ (0 : Int) ≤ 255 := by decide
  refine M.ordX_ok ?_ ?_ ?_ ?_ (by decide)
  · split
    · exact h 0 (by omega)
    · exact z
  · split
    · exact h 1 (by omega)
    · exact z
  · split
    · exact h (m - 1) (by omega)
    · exact z
  · split
    · decide
    · omega
theorem M.ord_start (g : Nat → Int) (c : Nat) (hc : c < 2) : M.sWrite (M.sWrite M.si0 (2 * c + 1) 3) (2 * c + 1) 1 = M.ordS c (M.ordC g 0) := by
  rcases (show c = 0 ∨ c = 1 by omega) with rfl | rfl <;> rfl
theorem M.ord_step (g : Nat → Int) (c : Nat) (hc : c < 2) (m : Nat) : M.sRecv (M.ordS c (M.ordC g m)) c (g m) = M.ordS c (M.ordC g (m + 1)) := by
  rcases (show c = 0 ∨ c = 1 by omega) with rfl | rfl
  all_goals
    match m with
    | 0 => rfl
    | 1 => rfl
    | 2 => rfl
    | m + 3 => rfl
theorem M.ord_ask (a b d n : Int) (over : Bool) (hn : n = 0 ∨ n = 1 ∨ n = 2 ∨ n = 3) (c : Nat) (hc : c < 2) : M.sWrite (M.ordS c (M.ordX a b d n over 0)) (2 * c + 1) 1 = M.ordS c (M.ordX a b d n over 1) := by
  rcases (show c = 0 ∨ c = 1 by omega) with rfl | rfl <;> rcases hn with rfl | rfl | rfl | rfl <;> rfl
theorem M.ord_told (a b d n : Int) (over : Bool) (hn : n = 0 ∨ n = 1 ∨ n = 2 ∨ n = 3) (c : Nat) (hc : c < 2) : M.sReadP (M.ordS c (M.ordX a b d n over 1)) (2 * c + 1) = M.ordS c (M.ordX a b d n over 0) ∧ M.sReadV (M.ordS c (M.ordX a b d n over 1)) (2 * c + 1) = M.withB (M.withB 0 0 true) 5 over := by
  rcases (show c = 0 ∨ c = 1 by omega) with rfl | rfl <;> rcases hn with rfl | rfl | rfl | rfl <;> exact ⟨rfl, rfl⟩
theorem M.ord_bit : ∀ over : Bool, (bits .and .u8 (M.withB (M.withB 0 0 true) 5 over) 32 != 0) = over := by decide +kernel
theorem M.ord_take (a b d n : Int) (over : Bool) (hn : n = 1 ∨ n = 2 ∨ n = 3) (c : Nat) (hc : c < 2) : M.sReadP (M.ordS c (M.ordX a b d n over 0)) (2 * c) = M.ordS c (M.ordX b d 0 (n - 1) over 0) ∧ M.sReadV (M.ordS c (M.ordX a b d n over 0)) (2 * c) = a := by
  rcases (show c = 0 ∨ c = 1 by omega) with rfl | rfl <;> rcases hn with rfl | rfl | rfl <;> exact ⟨rfl, rfl⟩
theorem M.ord_left (a b d : Int) (over : Bool) (c : Nat) (hc : c < 2) : bits .and .u8 (M.sReadV (M.ordS c (M.ordX a b d 0 over 0)) (2 * c + 1)) 1 = 0 := by
  rcases (show c = 0 ∨ c = 1 by omega) with rfl | rfl
  · show bits .and .u8 (M.withB (M.withB (M.withB 0 0 false) 1 false) 2 true) 1 = 0
    decide +kernel
  · show bits .and .u8 (M.withB (M.withB (M.withB 0 0 false) 1 false) 2 true) 1 = 0
    decide +kernel
theorem M.andOne (a : Int) : ∃ k : Nat, k < 2 ∧ bits .and .i64 a 1 = (k : Int) := by
  refine ⟨(BitVec.ofInt 64 a).toNat % 2, Nat.mod_lt _ (by decide), ?_⟩
  show IntKind.i64.wrap ((BitVec.ofInt 64 a &&& BitVec.ofInt 64 1).toNat : Int) = _
  rw [BitVec.toNat_and, show (BitVec.ofInt 64 1).toNat = 2 ^ 1 - 1 from rfl, Nat.and_two_pow_sub_one_eq_mod]
  have : (BitVec.ofInt 64 a).toNat % 2 < 2 := Nat.mod_lt _ (by decide)
  rw [IntKind.wrap_i64]
  omega
end Go.Proofs.Ytlpoldnidojgmaa
