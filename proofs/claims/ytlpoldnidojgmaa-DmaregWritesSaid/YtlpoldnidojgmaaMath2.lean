/- Plain numbers, more: a byte with a bit set or not, and eight flags as a number. No Go, no memory. -/
import Derived.Test.YtlpoldnidojgmaaMath
namespace Go.Proofs.Ytlpoldnidojgmaa.M

theorem fin_of {a : Int} (h0 : 0 ≤ a) (h1 : a ≤ 255) : ∃ x : Fin 256, a = (x.val : Int) := ⟨⟨a.toNat, by omega⟩, by simp; omega⟩
theorem fin8_of {n : Int} (h0 : 0 ≤ n) (h1 : n ≤ 7) : ∃ x : Fin 8, n = (x.val : Int) := ⟨⟨n.toNat, by omega⟩, by simp; omega⟩
theorem with_tab : ∀ b : Fin 256, ∀ n : Fin 8, (if is b.val n.val then withB b.val n.val true = b.val ∧ withB b.val n.val false = b.val - 2 ^ n.val ∧ 2 ^ n.val ≤ (b.val : Int) else withB b.val n.val true = b.val + 2 ^ n.val ∧ withB b.val n.val false = b.val ∧ (b.val : Int) + 2 ^ n.val ≤ 255)
    ∧ 0 ≤ withB b.val n.val true ∧ withB b.val n.val true ≤ 255 ∧ 0 ≤ withB b.val n.val false ∧ withB b.val n.val false ≤ 255 := by decide +kernel
theorem with_out {a n : Int} (h : ¬ (0 ≤ n ∧ n ≤ 7)) (on : Bool) : withB a n on = a := by
  unfold withB may
  have : (decide (0 ≤ n) && decide (n < 8)) = false := by simp; omega
  rw [this]
  rfl
theorem is_out {a n : Int} (h : ¬ (0 ≤ n ∧ n ≤ 7)) : is a n = false := by
  unfold is may
  have : (decide (0 ≤ n) && decide (n < 8)) = false := by simp; omega
  rw [this]
  rfl
theorem with_range (b n : Int) (on : Bool) (h0 : 0 ≤ b) (h1 : b ≤ 255) : 0 ≤ withB b n on ∧ withB b n on ≤ 255 := by
  by_cases hn : 0 ≤ n ∧ n ≤ 7
  · obtain ⟨x, rfl⟩ := fin_of h0 h1
    obtain ⟨y, rfl⟩ := fin8_of hn.1 hn.2
    have h := (with_tab x y).2
    cases on
    · exact h.2.2
    · exact ⟨h.1, h.2.1⟩
  · rw [with_out hn]; exact ⟨h0, h1⟩
theorem with_yes (b n : Int) (h0 : 0 ≤ b) (h1 : b ≤ 255) (hn : 0 ≤ n) (hn7 : n ≤ 7) (h : is b n = true) : withB b n true = b ∧ withB b n false = b - 2 ^ n.toNat ∧ 2 ^ n.toNat ≤ b := by
  obtain ⟨x, rfl⟩ := fin_of h0 h1
  obtain ⟨y, rfl⟩ := fin8_of hn hn7
  have t := (with_tab x y).1
  rw [if_pos h] at t
  exact t
theorem with_no (b n : Int) (h0 : 0 ≤ b) (h1 : b ≤ 255) (hn : 0 ≤ n) (hn7 : n ≤ 7) (h : is b n = false) : withB b n true = b + 2 ^ n.toNat ∧ withB b n false = b ∧ b + 2 ^ n.toNat ≤ 255 := by
  obtain ⟨x, rfl⟩ := fin_of h0 h1
  obtain ⟨y, rfl⟩ := fin8_of hn hn7
  have t := (with_tab x y).1
  rw [if_neg (by rw [h]; decide)] at t
  exact t
/-- Eight flags as a number: S, Z, Y, H, X, P, N, C. -/
def b2i (b : Bool) : Int := if b then 1 else 0
def mk (s z y h x p n c : Bool) : Int := 128 * b2i s + 64 * b2i z + 32 * b2i y + 16 * b2i h + 8 * b2i x + 4 * b2i p + 2 * b2i n + b2i c
theorem mk_with : ∀ s z y h x p n c : Bool, withB (withB (withB (withB (withB (withB (withB (withB 0 7 s) 6 z) 5 y) 4 h) 3 x) 2 p) 1 n) 0 c = mk s z y h x p n c := by decide +kernel
theorem mk_range (s z y h x p n c : Bool) : 0 ≤ mk s z y h x p n c ∧ mk s z y h x p n c ≤ 255 := by
  have e : ∀ b, 0 ≤ b2i b ∧ b2i b ≤ 1 := by decide
  have := e s; have := e z; have := e y; have := e h; have := e x; have := e p; have := e n; have := e c
  unfold mk
  omega
theorem is_mk7 : ∀ s z y h x p n c : Bool, is (mk s z y h x p n c) 7 = s := by decide +kernel
theorem is_mk6 : ∀ s z y h x p n c : Bool, is (mk s z y h x p n c) 6 = z := by decide +kernel
theorem is_mk5 : ∀ s z y h x p n c : Bool, is (mk s z y h x p n c) 5 = y := by decide +kernel
theorem is_mk4 : ∀ s z y h x p n c : Bool, is (mk s z y h x p n c) 4 = h := by decide +kernel
theorem is_mk3 : ∀ s z y h x p n c : Bool, is (mk s z y h x p n c) 3 = x := by decide +kernel
theorem is_mk2 : ∀ s z y h x p n c : Bool, is (mk s z y h x p n c) 2 = p := by decide +kernel
theorem is_mk1 : ∀ s z y h x p n c : Bool, is (mk s z y h x p n c) 1 = n := by decide +kernel
theorem is_mk0 : ∀ s z y h x p n c : Bool, is (mk s z y h x p n c) 0 = c := by decide +kernel
/-- S, Z, Y and X of a result. -/
def resF (r : Int) : Int := mk (is r 7) (r == 0) (is r 5) false (is r 3) false false false
/-- Some flags with other Y and X; with another C. -/
def linesF (f b : Int) : Int := mk (is f 7) (is f 6) (is b 5) (is f 4) (is b 3) (is f 2) (is f 1) (is f 0)
def carryF (g f : Int) : Int := mk (is g 7) (is g 6) (is g 5) (is g 4) (is g 3) (is g 2) (is g 1) (is f 0)
/-- A byte as a signed number; a number that is no signed byte. -/
def sg (b : Int) : Int := if b < 128 then b else b - 256
theorem sg_range (b : Int) (h0 : 0 ≤ b) (h1 : b ≤ 255) : -128 ≤ sg b ∧ sg b ≤ 127 := by unfold sg; split <;> omega
def far (n : Int) : Bool := decide (n < -128) || decide (n > 127)
/-- A sum of bytes and its flags. -/
def addR (a b : Int) (c : Bool) : Int := (a + b + b2i c) % 256
def addF (a b : Int) (c : Bool) : Int := mk (is (addR a b c) 7) (addR a b c == 0) (is (addR a b c) 5) (decide (a % 16 + b % 16 + b2i c > 15)) (is (addR a b c) 3) (far (sg a + sg b + b2i c)) false (decide (a + b + b2i c > 255))
def subR (a b : Int) (c : Bool) : Int := (a - b - b2i c) % 256
def subF (a b : Int) (c : Bool) : Int := mk (is (subR a b c) 7) (subR a b c == 0) (is (subR a b c) 5) (decide (a % 16 - b % 16 - b2i c < 0)) (is (subR a b c) 3) (far (sg a - sg b - b2i c)) true (decide (a - b - b2i c < 0))
theorem addR_range (a b : Int) (c : Bool) : 0 ≤ addR a b c ∧ addR a b c ≤ 255 := by unfold addR; omega
theorem subR_range (a b : Int) (c : Bool) : 0 ≤ subR a b c ∧ subR a b c ≤ 255 := by unfold subR; omega
theorem addF_range (a b : Int) (c : Bool) : 0 ≤ addF a b c ∧ addF a b c ≤ 255 := mk_range _ _ _ _ _ _ _ _
theorem subF_range (a b : Int) (c : Bool) : 0 ≤ subF a b c ∧ subF a b c ≤ 255 := mk_range _ _ _ _ _ _ _ _
end Go.Proofs.Ytlpoldnidojgmaa.M
