/- Plain numbers: two decimal digits in a byte, summed, taken away and put right. No Go, no memory. -/
import Derived.Handy
import Derived.Test.YtkphidaoodedjaaDoorMathLogic
namespace Go.Proofs.YtkphidaoodedjaaDoor.M
open Go
set_option linter.unusedVariables false

def bcd (m : Int) : Int := m / 10 * 16 + m % 10
def dec (d : Int) : Int := d / 16 * 10 + d % 16
def plusR (a b : Int) (c : Bool) : Int := dR false (dBy (decide (a % 16 + b % 16 + b2i c > 15)) (decide (9 < (a + b + b2i c) % 256 % 16)) (decide (a + b + b2i c > 255)) (decide (153 < (a + b + b2i c) % 256))) ((a + b + b2i c) % 256)
def lessR (a b : Int) (c : Bool) : Int := dR true (dBy (decide (a % 16 - b % 16 - b2i c < 0)) (decide (9 < (a - b - b2i c) % 256 % 16)) (decide (a - b - b2i c < 0)) (decide (153 < (a - b - b2i c) % 256))) ((a - b - b2i c) % 256)
theorem plus_fin : ∀ c : Bool, ∀ m n : Fin 100, dec (plusR (bcd (m.val : Int)) (bcd (n.val : Int)) c) = ((m.val : Int) + n.val + b2i c) % 100
    ∧ (decide (bcd (m.val : Int) + bcd (n.val : Int) + b2i c > 255) || decide (153 < (bcd (m.val : Int) + bcd (n.val : Int) + b2i c) % 256)) = decide ((m.val : Int) + n.val + b2i c > 99) := by decide +kernel
theorem less_fin : ∀ c : Bool, ∀ m n : Fin 100, dec (lessR (bcd (m.val : Int)) (bcd (n.val : Int)) c) = ((m.val : Int) - n.val - b2i c + 100) % 100
    ∧ (decide (bcd (m.val : Int) - bcd (n.val : Int) - b2i c < 0) || decide (153 < (bcd (m.val : Int) - bcd (n.val : Int) - b2i c) % 256)) = decide ((m.val : Int) - n.val - b2i c < 0) := by decide +kernel
theorem fin100_of {a : Int} (h0 : 0 ≤ a) (h1 : a ≤ 99) : ∃ x : Fin 100, a = (x.val : Int) := ⟨⟨a.toNat, by omega⟩, by simp; omega⟩
theorem plus_is (m n : Int) (c : Bool) (h0 : 0 ≤ m) (h1 : m ≤ 99) (h2 : 0 ≤ n) (h3 : n ≤ 99) :
    dec (daaR (addR (bcd m) (bcd n) c) (addF (bcd m) (bcd n) c)) = (m + n + b2i c) % 100 ∧ is (daaF (addR (bcd m) (bcd n) c) (addF (bcd m) (bcd n) c)) 0 = decide (m + n + b2i c > 99) := by
  obtain ⟨x, rfl⟩ := fin100_of h0 h1
  obtain ⟨y, rfl⟩ := fin100_of h2 h3
  have t := plus_fin c x y
  refine ⟨?_, ?_⟩
  · rw [← t.1]
    unfold daaR daaBy addF
    rw [is_mk4, is_mk0, is_mk1]
    rfl
  · rw [← t.2]
    unfold daaF dF
    rw [is_mk0]
    unfold addF
    rw [is_mk0]
    rfl
theorem less_is (m n : Int) (c : Bool) (h0 : 0 ≤ m) (h1 : m ≤ 99) (h2 : 0 ≤ n) (h3 : n ≤ 99) :
    dec (daaR (subR (bcd m) (bcd n) c) (subF (bcd m) (bcd n) c)) = (m - n - b2i c + 100) % 100 ∧ is (daaF (subR (bcd m) (bcd n) c) (subF (bcd m) (bcd n) c)) 0 = decide (m - n - b2i c < 0) := by
  obtain ⟨x, rfl⟩ := fin100_of h0 h1
  obtain ⟨y, rfl⟩ := fin100_of h2 h3
  have t := less_fin c x y
  refine ⟨?_, ?_⟩
  · rw [← t.1]
    unfold daaR daaBy subF
    rw [is_mk4, is_mk0, is_mk1]
    rfl
  · rw [← t.2]
    unfold daaF dF
    rw [is_mk0]
    unfold subF
    rw [is_mk0]
    rfl
end Go.Proofs.YtkphidaoodedjaaDoor.M
