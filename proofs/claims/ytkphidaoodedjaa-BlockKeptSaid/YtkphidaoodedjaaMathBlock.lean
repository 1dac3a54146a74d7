/- Plain numbers: the flags of blocks. No Go, no memory. -/
import Derived.Handy
import Derived.Test.YtkphidaoodedjaaMath6
namespace Go.Proofs.Ytkphidaoodedjaa.M
open Go
set_option linter.unusedVariables false

theorem lines_fin : ∀ n : Fin 256, bits .or .u8 (bits .and .u8 ((n.val : Int) * 16 % 256) 32) (bits .and .u8 (n.val : Int) 8) = mk false false (is (n.val : Int) 1) false (is (n.val : Int) 3) false false false := by decide +kernel
theorem lines_is (n : Int) (h0 : 0 ≤ n) (h1 : n ≤ 255) : bits .or .u8 (bits .and .u8 (n * 16 % 256) 32) (bits .and .u8 n 8) = mk false false (is n 1) false (is n 3) false false false := by
  obtain ⟨x, rfl⟩ := fin_of h0 h1
  exact lines_fin x
theorem mask_fin : ∀ n : Fin 256, bits .and .u8 (n.val : Int) 193 = mk (is (n.val : Int) 7) (is (n.val : Int) 6) false false false false false (is (n.val : Int) 0)
    ∧ bits .and .u8 (n.val : Int) 210 = mk (is (n.val : Int) 7) (is (n.val : Int) 6) false (is (n.val : Int) 4) false false (is (n.val : Int) 1) false
    ∧ bits .and .u8 (n.val : Int) 18 = mk false false false (is (n.val : Int) 4) false false (is (n.val : Int) 1) false
    ∧ bits .and .u8 (n.val : Int) 2 = mk false false false false false false (is (n.val : Int) 1) false
    ∧ bits .and .u8 (n.val : Int) 1 = mk false false false false false false false (is (n.val : Int) 0)
    ∧ bits .and .u8 (n.val : Int) 16 / 16 = b2i (is (n.val : Int) 4) ∧ decide ((n.val : Int) > 127) = is (n.val : Int) 7 := by decide +kernel
theorem mask (n : Int) (h0 : 0 ≤ n) (h1 : n ≤ 255) : bits .and .u8 n 193 = mk (is n 7) (is n 6) false false false false false (is n 0)
    ∧ bits .and .u8 n 210 = mk (is n 7) (is n 6) false (is n 4) false false (is n 1) false
    ∧ bits .and .u8 n 18 = mk false false false (is n 4) false false (is n 1) false
    ∧ bits .and .u8 n 2 = mk false false false false false false (is n 1) false
    ∧ bits .and .u8 n 1 = mk false false false false false false false (is n 0)
    ∧ bits .and .u8 n 16 / 16 = b2i (is n 4) ∧ decide (n > 127) = is n 7 := by
  obtain ⟨x, rfl⟩ := fin_of h0 h1
  exact mask_fin x
def orIf (c : Bool) (g m : Int) : Int := if c then bits .or .u8 g m else g
theorem move_tab : ∀ s z y x p c : Bool, orIf p (bits .or .u8 (mk s z false false false false false c) (mk false false y false x false false false)) 4 = mk s z y false x p false c := by decide +kernel
theorem find_tab : ∀ s z y h x p n c : Bool, orIf p (bits .or .u8 (bits .or .u8 (mk s z false h false false n false) (mk false false false false false false false c)) (mk false false y false x false false false)) 4 = mk s z y h x p n c := by decide +kernel
theorem count_tab : ∀ s z y h x p n : Bool, orIf n (orIf p (orIf h (mk s z y false x false false false) 17) 4) 2 = mk s z y h x p n h := by decide +kernel
theorem xfold_fin : ∀ u : Fin 8, ∀ v : Fin 256, xfold (u.val : Int) (v.val : Int) 8 = bits .xor .u8 (u.val : Int) (v.val : Int) := by decide +kernel
theorem xfold_is (u v : Int) (u0 : 0 ≤ u) (u1 : u ≤ 7) (v0 : 0 ≤ v) (v1 : v ≤ 255) : xfold u v 8 = bits .xor .u8 u v := by
  obtain ⟨x, rfl⟩ := fin8_of u0 u1
  obtain ⟨y, rfl⟩ := fin_of v0 v1
  exact xfold_fin x y
theorem rfindN_range (a b : Int) : 0 ≤ rfindN a b ∧ rfindN a b ≤ 255 := by
  have := subR_range a b false
  unfold rfindN; split <;> omega
theorem rfindN_is (a b : Int) : (subR a b false - b2i (is (subF a b false) 4)) % 256 = rfindN a b := by
  have := subR_range a b false
  unfold rfindN b2i
  cases is (subF a b false) 4
  · simp only [Bool.false_eq_true, if_false]; omega
  · simp only [if_true]; omega
theorem subF_1 (a b : Int) (c : Bool) : is (subF a b c) 1 = true := is_mk1 _ _ _ _ _ _ _ _
theorem subF_6 (a b : Int) : is (subF a b false) 6 = (subR a b false == 0) := is_mk6 _ _ _ _ _ _ _ _
theorem sub_zero (a b : Int) (h0 : 0 ≤ a) (h1 : a ≤ 255) (h2 : 0 ≤ b) (h3 : b ≤ 255) : (subR a b false == 0) = (a == b) := by
  rw [Bool.eq_iff_iff]
  simp [subR, b2i]
  omega
theorem sub_zero' (a b : Int) (h0 : 0 ≤ a) (h1 : a ≤ 255) (h2 : 0 ≤ b) (h3 : b ≤ 255) : (!(subR a b false == 0)) = (a != b) := by
  rw [sub_zero a b h0 h1 h2 h3]; rfl
theorem xor1 (x y : Int) (h : is x 0 = is y 0) : bits .and .u8 (bits .xor .u8 x y) 1 = 0 := by
  have r := bits_range .xor x y
  rw [and1 _ r.1 r.2, bit_xor _ _ 0 (by omega), ← is0, ← is0, h, Bool.xor_self]
  rfl
theorem xor193 (x y : Int) (h7 : is x 7 = is y 7) (h6 : is x 6 = is y 6) (h0 : is x 0 = is y 0) : bits .and .u8 (bits .xor .u8 x y) 193 = 0 := by
  have r := bits_range .xor x y
  rw [(mask _ r.1 r.2).1, is7, is6, is0, bit_xor _ _ 7 (by omega), bit_xor _ _ 6 (by omega), bit_xor _ _ 0 (by omega), ← is7, ← is7, ← is6, ← is6, ← is0, ← is0, h7, h6, h0, Bool.xor_self, Bool.xor_self, Bool.xor_self]
  rfl
end Go.Proofs.Ytkphidaoodedjaa.M
