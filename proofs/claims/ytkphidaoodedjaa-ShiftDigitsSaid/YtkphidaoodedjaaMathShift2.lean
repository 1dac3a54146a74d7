/- Plain numbers: flags of a shift, nibbles that turn, a byte turned bit by bit through itself and through carry. No Go, no memory. -/
import Derived.Handy
import Derived.Laws.BitsAllLaws
import Derived.Test.YtkphidaoodedjaaMathShift
namespace Go.Proofs.Ytkphidaoodedjaa.M
open Go
set_option linter.unusedVariables false

/-- A shift's flags. -/
def doF (kind b f : Int) : Int := withB (evenF (turnedR kind b f)) 0 (turnedO kind b)
theorem doF_range (kind b f : Int) : 0 ≤ doF kind b f ∧ doF kind b f ≤ 255 := with_range _ _ _ (evenF_range _).1 (evenF_range _).2
theorem res4 : ∀ s z y x : Bool, bits .or .u8 (mk s z y false x false false false) 4 = mk s z y false x true false false := by decide +kernel
theorem set_tab : ∀ s z y x p o : Bool, bits .or .u8 (mk s z y false x p false false) (b01 o) = mk s z y false x p false o := by decide +kernel
theorem with_tab0 : ∀ s z y x p o : Bool, withB (mk s z y false x p false false) 0 o = mk s z y false x p false o := by decide +kernel
/-- The flags, bit by bit. -/
def evenC (r : Int) (o : Bool) : Int := mk (is r 7) (r == 0) (is r 5) false (is r 3) (evenB r) false o
theorem even_or (r : Int) (o : Bool) : bits .or .u8 (evenF r) (b01 o) = evenC r o := set_tab _ _ _ _ _ _
theorem even_with (r : Int) (o : Bool) : withB (evenF r) 0 o = evenC r o := with_tab0 _ _ _ _ _ _
theorem doF_is (kind b f : Int) : doF kind b f = evenC (turnedR kind b f) (turnedO kind b) := even_with _ _
theorem evenC_0 (r : Int) (o : Bool) : is (evenC r o) 0 = o := is_mk0 _ _ _ _ _ _ _ _
theorem evenC_range (r : Int) (o : Bool) : 0 ≤ evenC r o ∧ evenC r o ≤ 255 := mk_range _ _ _ _ _ _ _ _
theorem and40_fin : ∀ l : Fin 256, bits .and .u8 (l.val : Int) 40 = mk false false (is (l.val : Int) 5) false (is (l.val : Int) 3) false false false := by decide +kernel
theorem and40 (l : Int) (h0 : 0 ≤ l) (h1 : l ≤ 255) : bits .and .u8 l 40 = mk false false (is l 5) false (is l 3) false false false := by
  obtain ⟨x, rfl⟩ := fin_of h0 h1
  exact and40_fin x
theorem acc_tab : ∀ s z y h x p n c o : Bool, bits .or .u8 (bits .andNot .u8 (mk s z y h x p n c) 19) (b01 o) = mk s z y false x p false o := by decide +kernel
theorem acc_is (f r : Int) (o : Bool) : bits .or .u8 (bits .andNot .u8 (bits .or .u8 (bits .andNot .u8 f 40) (bits .and .u8 r 40)) 19) (b01 o) = mk (is f 7) (is f 6) (is r 5) false (is r 3) (is f 2) false o := by
  rw [keep_lines]
  exact acc_tab _ _ _ _ _ _ _ _ _
theorem bit_tab : ∀ c y x : Bool, bits .or .u8 (bits .or .u8 (bits .or .u8 (bits .or .u8 (b01 c) 16) (mk false false y false x false false false)) 64) 4 = mk false true y true x true false c
    ∧ bits .or .u8 (bits .or .u8 (bits .or .u8 (b01 c) 16) (mk false false y false x false false false)) 128 = mk true false y true x false false c
    ∧ bits .or .u8 (bits .or .u8 (b01 c) 16) (mk false false y false x false false false) = mk false false y true x false false c := by decide +kernel

/-! nibbles -/
theorem and15_fin : ∀ l : Fin 256, bits .and .u8 (l.val : Int) 15 = (l.val : Int) % 16 ∧ bits .and .u8 (l.val : Int) 240 = (l.val : Int) / 16 * 16 := by decide +kernel
theorem and15 (l : Int) (h0 : 0 ≤ l) (h1 : l ≤ 255) : bits .and .u8 l 15 = l % 16 ∧ bits .and .u8 l 240 = l / 16 * 16 := by
  obtain ⟨x, rfl⟩ := fin_of h0 h1
  exact and15_fin x
theorem or16_fin : ∀ h t : Fin 16, bits .or .u8 ((h.val : Int) * 16) (t.val : Int) = (h.val : Int) * 16 + t.val := by decide +kernel
theorem or16 (h t : Int) (h0 : 0 ≤ h) (h1 : h ≤ 15) (t0 : 0 ≤ t) (t1 : t ≤ 15) : bits .or .u8 (h * 16) t = h * 16 + t := by
  have a := or16_fin ⟨h.toNat, by omega⟩ ⟨t.toNat, by omega⟩
  have e1 : ((h.toNat : Nat) : Int) = h := by omega
  have e2 : ((t.toNat : Nat) : Int) = t := by omega
  simpa only [e1, e2] using a
theorem orw (i : Nat) (x y : Int) (h0 : 0 ≤ x) (h1 : x < 65536) (h2 : 0 ≤ y) (h3 : y < 65536) (hx : x.toNat % 2 ^ i = 0) (hy : y.toNat < 2 ^ i) : bits .or .u16 x y = x + y := by
  rw [u16_or x y h0 h1 h2 h3, nat_join i _ _ hx hy]
  omega
theorem orw' (i : Nat) (x y : Int) (h0 : 0 ≤ x) (h1 : x < 65536) (h2 : 0 ≤ y) (h3 : y < 65536) (hy : y.toNat % 2 ^ i = 0) (hx : x.toNat < 2 ^ i) : bits .or .u16 x y = x + y := by
  rw [u16_or x y h0 h1 h2 h3, Nat.or_comm, nat_join i _ _ hy hx]
  omega
theorem andw4 (x : Int) (h0 : 0 ≤ x) (h1 : x < 65536) : bits .and .u16 x 15 = x % 16 := by
  rw [u16_and x 15 h0 h1 (by decide) (by decide), show (15 : Int).toNat = 15 from rfl, nat_mask4]
  omega
theorem andw12 (x : Int) (h0 : 0 ≤ x) (h1 : x < 65536) : bits .and .u16 x 4095 = x % 4096 := by
  rw [u16_and x 4095 h0 h1 (by decide) (by decide), show (4095 : Int).toNat = 2 ^ 12 - 1 from rfl, Nat.and_two_pow_sub_one_eq_mod]
  omega
/-- The three nibbles. -/
def tri (a b : Int) : Int := a % 16 * 256 + b
theorem tri_is (a b : Int) (h0 : 0 ≤ a) (h1 : a ≤ 255) (h2 : 0 ≤ b) (h3 : b ≤ 255) : bits .or .u16 (IntKind.u16.wrap ((IntKind.u16.wrap (bits .and .u8 a 15)) * 256)) (IntKind.u16.wrap b) = tri a b := by
  rw [(and15 a h0 h1).1]
  simp only [IntKind.wrap_u16]
  unfold tri
  rw [orw 8 _ _ (by omega) (by omega) (by omega) (by omega) (by omega) (by omega)]
  omega
theorem tri_right (a b : Int) (h0 : 0 ≤ a) (h1 : a ≤ 255) (h2 : 0 ≤ b) (h3 : b ≤ 255) : bits .or .u16 (tri a b / 16) (IntKind.u16.wrap (bits .and .u16 (tri a b) 15 * 256)) = b % 16 * 256 + (a % 16 * 16 + b / 16) := by
  have r : 0 ≤ tri a b ∧ tri a b < 4096 := by unfold tri; omega
  rw [andw4 _ r.1 (by omega)]
  simp only [IntKind.wrap_u16]
  have e : tri a b % 16 = b % 16 := by unfold tri; omega
  have e2 : tri a b / 16 = a % 16 * 16 + b / 16 := by unfold tri; omega
  rw [e, e2, orw' 8 _ _ (by omega) (by omega) (by omega) (by omega) (by omega) (by omega)]
  omega
theorem tri_left (a b : Int) (h0 : 0 ≤ a) (h1 : a ≤ 255) (h2 : 0 ≤ b) (h3 : b ≤ 255) : bits .or .u16 (bits .and .u16 (IntKind.u16.wrap (tri a b * 16)) 4095) (tri a b / 256) = b / 16 * 256 + (b % 16 * 16 + a % 16) := by
  have r : 0 ≤ tri a b ∧ tri a b < 4096 := by unfold tri; omega
  have e1 : IntKind.u16.wrap (tri a b * 16) = tri a b * 16 := by simp only [IntKind.wrap_u16]; omega
  rw [e1, andw12 _ (by omega) (by omega)]
  have e : tri a b * 16 % 4096 = b * 16 := by unfold tri; omega
  have e2 : tri a b / 256 = a % 16 := by unfold tri; omega
  rw [e, e2, orw 4 _ _ (by omega) (by omega) (by omega) (by omega) (by omega) (by omega)]
  omega
def digL (a b : Int) : Int := a / 16 * 16 + b / 16
def digLb (a b : Int) : Int := b % 16 * 16 + a % 16
def digR (a b : Int) : Int := a / 16 * 16 + b % 16
def digRb (a b : Int) : Int := a % 16 * 16 + b / 16
theorem dig_range (a b : Int) (h0 : 0 ≤ a) (h1 : a ≤ 255) (h2 : 0 ≤ b) (h3 : b ≤ 255) : (0 ≤ digL a b ∧ digL a b ≤ 255) ∧ (0 ≤ digLb a b ∧ digLb a b ≤ 255) ∧ (0 ≤ digR a b ∧ digR a b ≤ 255) ∧ (0 ≤ digRb a b ∧ digRb a b ≤ 255) := by
  unfold digL digLb digR digRb; omega
theorem dig_back (a b : Int) (h0 : 0 ≤ a) (h1 : a ≤ 255) (h2 : 0 ≤ b) (h3 : b ≤ 255) : digR (digL a b) (digLb a b) = a ∧ digRb (digL a b) (digLb a b) = b := by
  unfold digL digLb digR digRb; omega
theorem dig_nibbles (a b : Int) (h0 : 0 ≤ a) (h1 : a ≤ 255) (h2 : 0 ≤ b) (h3 : b ≤ 255) : digR a b / 16 = a / 16 ∧ digR a b % 16 = b % 16 ∧ digRb a b / 16 = a % 16 ∧ digRb a b % 16 = b / 16 := by
  unfold digR digRb; omega
theorem dig_three (a b : Int) (h0 : 0 ≤ a) (h1 : a ≤ 255) (h2 : 0 ≤ b) (h3 : b ≤ 255) :
    digR (digR (digR a b) (digRb a b)) (digRb (digR a b) (digRb a b)) = a ∧ digRb (digR (digR a b) (digRb a b)) (digRb (digR a b) (digRb a b)) = b := by
  have r := (dig_range a b h0 h1 h2 h3).2.2
  have n1 := dig_nibbles a b h0 h1 h2 h3
  have r2 := (dig_range _ _ r.1.1 r.1.2 r.2.1 r.2.2).2.2
  have n2 := dig_nibbles _ _ r.1.1 r.1.2 r.2.1 r.2.2
  have n3 := dig_nibbles _ _ r2.1.1 r2.1.2 r2.2.1 r2.2.2
  generalize digR (digR a b) (digRb a b) = p at *
  generalize digRb (digR a b) (digRb a b) = q at *
  generalize digR p q = u at *
  generalize digRb p q = v at *
  omega
/-! round and back -/
theorem turn01_fin : ∀ b : Fin 256, rmovedR (rmovedR (b.val : Int) true (is (b.val : Int) 7)) false (is (rmovedR (b.val : Int) true (is (b.val : Int) 7)) 0) = b.val := by decide +kernel
theorem turn23_fin : ∀ c : Bool, ∀ b : Fin 256, rmovedR (rmovedR (b.val : Int) true c) false (is (b.val : Int) 7) = b.val ∧ is (rmovedR (b.val : Int) true c) 0 = c := by decide +kernel
theorem back01 (b f g : Int) (h0 : 0 ≤ b) (h1 : b ≤ 255) : turnedR 1 (turnedR 0 b f) g = b := by
  obtain ⟨x, rfl⟩ := fin_of h0 h1
  exact turn01_fin x
theorem back23 (b f g : Int) (h0 : 0 ≤ b) (h1 : b ≤ 255) (hg : is g 0 = is b 7) : turnedR 3 (turnedR 2 b f) g = b ∧ turnedO 3 (turnedR 2 b f) = is f 0 := by
  show rmovedR (rmovedR b true (is f 0)) false (is g 0) = b ∧ is (rmovedR b true (is f 0)) 0 = is f 0
  rw [hg]
  obtain ⟨x, rfl⟩ := fin_of h0 h1
  exact turn23_fin _ x
/-- A byte, turned n times to the left. -/
def roll : Nat → Int → Int
  | 0, x => x
  | n + 1, x => roll n (rmovedR x true (is x 7))
theorem roll_fin : ∀ b : Fin 256, roll 8 (b.val : Int) = b.val := by decide +kernel
theorem roll8 (b : Int) (h0 : 0 ≤ b) (h1 : b ≤ 255) : roll 8 b = b := by
  obtain ⟨x, rfl⟩ := fin_of h0 h1
  exact roll_fin x
/-- A byte and a carry, turned n times to the right. -/
def rollC : Nat → Int → Bool → Int × Bool
  | 0, x, c => (x, c)
  | n + 1, x, c => rollC n (rmovedR x false c) (is x 0)
theorem rollC_fin : ∀ c : Bool, ∀ b : Fin 256, rollC 9 (b.val : Int) c = ((b.val : Int), c) := by decide +kernel
theorem rollC9 (b : Int) (c : Bool) (h0 : 0 ≤ b) (h1 : b ≤ 255) : rollC 9 b c = (b, c) := by
  obtain ⟨x, rfl⟩ := fin_of h0 h1
  exact rollC_fin c x
/-! what two bytes' flags share -/
theorem xor_bit (x y : Int) (k : Nat) (hk : k < 8) : bit (bits .xor .u8 x y) k = (bit x k ^^ bit y k) := bit_xor x y k hk
theorem xor1 (x y : Int) (h : is x 0 = is y 0) : bits .and .u8 (bits .xor .u8 x y) 1 = 0 := by
  have r := bits_range .xor x y
  rw [and1 _ r.1 r.2, bit_xor _ _ 0 (by omega), ← is0, ← is0, h, Bool.xor_self]
  rfl
theorem and196_fin : ∀ l : Fin 256, bits .and .u8 (l.val : Int) 196 = mk (bit (l.val : Int) 7) (bit (l.val : Int) 6) false false false (bit (l.val : Int) 2) false false := by decide +kernel
theorem xor196 (x y : Int) (h7 : is x 7 = is y 7) (h6 : is x 6 = is y 6) (h2 : is x 2 = is y 2) : bits .and .u8 (bits .xor .u8 x y) 196 = 0 := by
  have r := bits_range .xor x y
  obtain ⟨l, hl⟩ := fin_of r.1 r.2
  have e := and196_fin l
  rw [← hl] at e
  rw [e, bit_xor _ _ 7 (by omega), bit_xor _ _ 6 (by omega), bit_xor _ _ 2 (by omega), ← is7, ← is7, ← is6, ← is6, ← is2, ← is2, h7, h6, h2, Bool.xor_self, Bool.xor_self, Bool.xor_self]
  rfl
end Go.Proofs.Ytkphidaoodedjaa.M
