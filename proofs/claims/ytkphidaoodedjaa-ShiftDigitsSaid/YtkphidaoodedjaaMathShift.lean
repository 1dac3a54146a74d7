/- Plain numbers: the program's shifts are the reference's. No Go, no memory. -/
import Derived.Handy
import Derived.Test.YtkphidaoodedjaaMath6
namespace Go.Proofs.Ytkphidaoodedjaa.M
open Go
set_option linter.unusedVariables false

def b01 (c : Bool) : Int := if c then 1 else 0
theorem b01_range (c : Bool) : 0 ≤ b01 c ∧ b01 c ≤ 1 := by cases c <;> exact ⟨by decide, by decide⟩
theorem f01_fin : ∀ f : Fin 256, bits .and .u8 (f.val : Int) 1 = b01 (is (f.val : Int) 0) := by decide +kernel
theorem f01 (f : Int) (h0 : 0 ≤ f) (h1 : f ≤ 255) : bits .and .u8 f 1 = b01 (is f 0) := by
  obtain ⟨x, rfl⟩ := fin_of h0 h1
  exact f01_fin x
theorem hi_fin : ∀ b : Fin 256, (b.val : Int) / 128 = b01 (is (b.val : Int) 7) := by decide +kernel
theorem hi7 (b : Int) (h0 : 0 ≤ b) (h1 : b ≤ 255) : b / 128 = b01 (is b 7) := by
  obtain ⟨x, rfl⟩ := fin_of h0 h1
  exact hi_fin x
theorem top_fin : ∀ b : Fin 256, bits .and .u8 (b.val : Int) 128 = b01 (is (b.val : Int) 7) * 128 % 256 := by decide +kernel
theorem top7 (b : Int) (h0 : 0 ≤ b) (h1 : b ≤ 255) : bits .and .u8 b 128 = b01 (is b 7) * 128 % 256 := by
  obtain ⟨x, rfl⟩ := fin_of h0 h1
  exact top_fin x
theorem low_fin : ∀ b : Fin 256, (b.val : Int) * 128 % 256 = b01 (is (b.val : Int) 0) * 128 % 256 := by decide +kernel
theorem low0 (b : Int) (h0 : 0 ≤ b) (h1 : b ≤ 255) : b * 128 % 256 = b01 (is b 0) * 128 % 256 := by
  obtain ⟨x, rfl⟩ := fin_of h0 h1
  exact low_fin x
theorem left_fin : ∀ c : Bool, ∀ b : Fin 256, bits .or .u8 (IntKind.u8.wrap ((b.val : Int) * 2)) (b01 c) = rmovedR (b.val : Int) true c := by decide +kernel
theorem left_is (b : Int) (c : Bool) (h0 : 0 ≤ b) (h1 : b ≤ 255) : bits .or .u8 (IntKind.u8.wrap (b * 2)) (b01 c) = rmovedR b true c := by
  obtain ⟨x, rfl⟩ := fin_of h0 h1
  exact left_fin c x
theorem right_fin : ∀ c : Bool, ∀ b : Fin 256, bits .or .u8 ((b.val : Int) / 2) (b01 c * 128 % 256) = rmovedR (b.val : Int) false c := by decide +kernel
theorem right_is (b : Int) (c : Bool) (h0 : 0 ≤ b) (h1 : b ≤ 255) : bits .or .u8 (b / 2) (b01 c * 128 % 256) = rmovedR b false c := by
  obtain ⟨x, rfl⟩ := fin_of h0 h1
  exact right_fin c x
theorem sh0 (b f : Int) (h0 : 0 ≤ b) (h1 : b ≤ 255) : bits .or .u8 (IntKind.u8.wrap (b * 2)) (b / 128) = turnedR 0 b f := by rw [hi7 b h0 h1, left_is b _ h0 h1]; rfl
theorem sh1 (b f : Int) (h0 : 0 ≤ b) (h1 : b ≤ 255) : bits .or .u8 (b / 2) (b * 128 % 256) = turnedR 1 b f := by rw [low0 b h0 h1, right_is b _ h0 h1]; rfl
theorem sh2 (b f : Int) (h0 : 0 ≤ b) (h1 : b ≤ 255) (h2 : 0 ≤ f) (h3 : f ≤ 255) : bits .or .u8 (IntKind.u8.wrap (b * 2)) (bits .and .u8 f 1) = turnedR 2 b f := by rw [f01 f h2 h3, left_is b _ h0 h1]; rfl
theorem sh3 (b f : Int) (h0 : 0 ≤ b) (h1 : b ≤ 255) (h2 : 0 ≤ f) (h3 : f ≤ 255) : bits .or .u8 (b / 2) (bits .and .u8 f 1 * 128 % 256) = turnedR 3 b f := by rw [f01 f h2 h3, right_is b _ h0 h1]; rfl
theorem sh4 (b f : Int) (h0 : 0 ≤ b) (h1 : b ≤ 255) : bits .or .u8 (IntKind.u8.wrap (b * 2)) 0 = turnedR 4 b f := by rw [show (0 : Int) = b01 false from rfl, left_is b _ h0 h1]; rfl
theorem sh5 (b f : Int) (h0 : 0 ≤ b) (h1 : b ≤ 255) : bits .or .u8 (b / 2) (bits .and .u8 b 128) = turnedR 5 b f := by rw [top7 b h0 h1, right_is b _ h0 h1]; rfl
theorem sh6 (b f : Int) (h0 : 0 ≤ b) (h1 : b ≤ 255) : bits .or .u8 (IntKind.u8.wrap (b * 2)) 1 = turnedR 6 b f := by rw [show (1 : Int) = b01 true from rfl, left_is b _ h0 h1]; rfl
theorem sh7 (b f : Int) (h0 : 0 ≤ b) (h1 : b ≤ 255) : bits .or .u8 (b / 2) 0 = turnedR 7 b f := by rw [show (0 : Int) = b01 false * 128 % 256 from rfl, right_is b _ h0 h1]; rfl
theorem so_even (kind b : Int) (h0 : 0 ≤ b) (h1 : b ≤ 255) (hk : kind = 0 ∨ kind = 2 ∨ kind = 4 ∨ kind = 6) : b / 128 = b01 (turnedO kind b) := by
  rw [hi7 b h0 h1]
  rcases hk with rfl | rfl | rfl | rfl <;> rfl
theorem so_odd (kind b : Int) (h0 : 0 ≤ b) (h1 : b ≤ 255) (hk : kind = 1 ∨ kind = 3 ∨ kind = 5 ∨ kind = 7) : bits .and .u8 b 1 = b01 (turnedO kind b) := by
  rw [f01 b h0 h1]
  rcases hk with rfl | rfl | rfl | rfl <;> rfl
theorem other (kind : Int) (k0 : kind ≠ 0) (k1 : kind ≠ 1) (k2 : kind ≠ 2) (k3 : kind ≠ 3) (k4 : kind ≠ 4) (k5 : kind ≠ 5) (k6 : kind ≠ 6) (k7 : kind ≠ 7) : kindB kind = false := by
  unfold kindB
  simp
  omega
end Go.Proofs.Ytkphidaoodedjaa.M
