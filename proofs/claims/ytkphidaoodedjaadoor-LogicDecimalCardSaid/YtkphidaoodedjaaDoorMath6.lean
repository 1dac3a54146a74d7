/- Plain numbers: what the layers 6 and 7 reckon by bits. No Go, no memory. -/
import Derived.Test.YtkphidaoodedjaaDoorMath3
namespace Go.Proofs.YtkphidaoodedjaaDoor.M
set_option linter.unusedVariables false

/-- A result's flags, with P of its bits. -/
def evenF (r : Int) : Int := mk (is r 7) (r == 0) (is r 5) false (is r 3) (evenB r) false false
theorem evenF_range (r : Int) : 0 ≤ evenF r ∧ evenF r ≤ 255 := mk_range _ _ _ _ _ _ _ _
/-- A byte, shifted bit by bit: what stands when k bits are done. -/
def mfold (b : Int) (left : Bool) : Nat → Int
  | 0 => 0
  | k + 1 => withB (mfold b left k) (if left then (k : Int) + 1 else (k : Int) - 1) (is b k)
theorem mfold_range (b : Int) (left : Bool) : ∀ k, 0 ≤ mfold b left k ∧ mfold b left k ≤ 255
  | 0 => ⟨by simp [mfold], by simp [mfold]⟩
  | k + 1 => with_range _ _ _ (mfold_range b left k).1 (mfold_range b left k).2
/-- Bit against bit: what stands when k bits are done. -/
def xfold (u v : Int) : Nat → Int
  | 0 => 0
  | k + 1 => withB (xfold u v k) k (is u k != is v k)
theorem xfold_range (u v : Int) : ∀ k, 0 ≤ xfold u v k ∧ xfold u v k ≤ 255
  | 0 => ⟨by simp [xfold], by simp [xfold]⟩
  | k + 1 => with_range _ _ _ (xfold_range u v k).1 (xfold_range u v k).2
def rmovedR (b : Int) (left inn : Bool) : Int := withB (mfold b left 8) (if left then 0 else 7) inn
def rmovedO (b : Int) (left : Bool) : Bool := is b (if left then 7 else 0)
theorem rmovedR_range (b : Int) (left inn : Bool) : 0 ≤ rmovedR b left inn ∧ rmovedR b left inn ≤ 255 := with_range _ _ _ (mfold_range b left 8).1 (mfold_range b left 8).2
/-- What comes in, by kind. -/
def tin (kind b f : Int) : Bool :=
  if kind = 0 then is b 7 else if kind = 1 then is b 0 else if kind = 2 then is f 0 else if kind = 3 then is f 0 else if kind = 5 then is b 7 else if kind = 6 then true else false
def tleft (kind : Int) : Bool := kind % 2 == 0
def kindB (kind : Int) : Bool := decide (0 ≤ kind) && decide (kind ≤ 7)
def turnedR (kind b f : Int) : Int := if kindB kind then rmovedR b (tleft kind) (tin kind b f) else b
def turnedO (kind b : Int) : Bool := if kindB kind then rmovedO b (tleft kind) else false
theorem turnedR_range (kind b f : Int) (h0 : 0 ≤ b) (h1 : b ≤ 255) : 0 ≤ turnedR kind b f ∧ turnedR kind b f ≤ 255 := by
  unfold turnedR
  split
  · exact rmovedR_range _ _ _
  · exact ⟨h0, h1⟩
/-- The reference's turned accumulator. -/
def acc3 (kind : Int) : Bool := kindB kind && decide (kind ≤ 3)
def raccF (kind a f : Int) : Int := if acc3 kind then mk (is f 7) (is f 6) (is (turnedR kind a f) 5) false (is (turnedR kind a f) 3) (is f 2) false (turnedO kind a) else f
def raccR (kind a f : Int) : Int := if acc3 kind then turnedR kind a f else a
def rbitF (n b l f : Int) : Int := mk ((n == 7) && is b n) (!is b n) (is l 5) true (is l 3) (!is b n) false (is f 0)
def rmoveF (a b bc f : Int) : Int := mk (is f 7) (is f 6) (is ((a + b) % 256) 1) false (is ((a + b) % 256) 3) (bc != 0) false (is f 0)
def rfindN (a b : Int) : Int := if is (subF a b false) 4 then (subR a b false + 255) % 256 else subR a b false
def rfindF (a b bc f : Int) : Int := mk (is (subF a b false) 7) (is (subF a b false) 6) (is (rfindN a b) 1) (is (subF a b false) 4) (is (rfindN a b) 3) (bc != 0) true (is f 0)
def rcountF (b left k : Int) : Int := mk (is left 7) (left == 0) (is left 5) (decide (k > 255)) (is left 3) (evenB (xfold (k % 8) left 8)) (is b 7) (decide (k > 255))
def ragain (kind f : Int) : Bool := if kind = 0 then is f 2 else if kind = 1 then is f 2 && !is f 6 else if kind = 2 then !is f 6 else if kind = 3 then !is f 6 else false
end Go.Proofs.YtkphidaoodedjaaDoor.M
