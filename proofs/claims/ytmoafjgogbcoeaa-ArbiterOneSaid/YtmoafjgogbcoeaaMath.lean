/- Plain numbers: the bits of a byte, and what the layers 1 to 7 reckon. No Go, no memory. -/
import Derived.WalkKit
namespace Go.Proofs.Ytmoafjgogbcoeaa.M

/-- Bit k of a number. -/
def bit (b : Int) (k : Nat) : Bool := b / 2 ^ k % 2 == 1
/-- The bits below k that are set, from the lowest on. -/
def upto (b : Int) (k : Nat) : List Int := ((List.range k).filter (fun i : Nat => bit b i)).map (fun i : Nat => (i : Int))
theorem upto_zero (b : Int) : upto b 0 = [] := rfl
theorem upto_yes {b : Int} {k : Nat} (h : bit b k = true) : upto b (k + 1) = upto b k ++ [(k : Int)] := by
  simp [upto, List.range_succ, h]
theorem upto_no {b : Int} {k : Nat} (h : bit b k = false) : upto b (k + 1) = upto b k := by
  simp [upto, List.range_succ, h]
theorem upto_len (b : Int) (k : Nat) : (upto b k).length ≤ k := by
  unfold upto
  have h1 := List.length_filter_le (fun i => bit b i) (List.range k)
  simp at h1 ⊢
  exact h1
def may (n : Int) : Bool := decide (0 ≤ n) && decide (n < 8)
def is (b n : Int) : Bool := may n && bit b n.toNat
def evenB (b : Int) : Bool := (upto b 8).length % 2 == 0
def firstB (b : Int) : Int := match upto b 8 with | [] => -1 | x :: _ => x

theorem par_succ (n : Nat) : ((n + 1) % 2 == 0) = !(n % 2 == 0) := by
  rcases Nat.mod_two_eq_zero_or_one n with h | h <;> simp [Nat.add_mod, h]
theorem first_of {b x : Int} {k : Nat} (hk : k ≤ 8) (h : [x] = upto b k) : firstB b = x := by
  have hp : ∀ j, ∃ r, upto b (k + j) = upto b k ++ r := by
    intro j
    induction j with
    | zero => exact ⟨[], by simp⟩
    | succ j ih =>
      obtain ⟨r, hr⟩ := ih
      cases hb : bit b (k + j) with
      | true => exact ⟨r ++ [((k + j : Nat) : Int)], by rw [← Nat.add_assoc, upto_yes hb, hr, List.append_assoc]⟩
      | false => exact ⟨r, by rw [← Nat.add_assoc, upto_no hb, hr]⟩
  obtain ⟨r, hr⟩ := hp (8 - k)
  rw [show k + (8 - k) = 8 by omega, ← h] at hr
  unfold firstB
  rw [hr]
  rfl

/-! ### bits through words -/
theorem lt8 {k : Nat} (h : k < 8) : k = 0 ∨ k = 1 ∨ k = 2 ∨ k = 3 ∨ k = 4 ∨ k = 5 ∨ k = 6 ∨ k = 7 := by omega
theorem bit_word (x : Int) (k : Nat) (hk : k < 8) : bit x k = (BitVec.ofInt 8 x).getLsbD k := by
  rw [BitVec.getLsbD, BitVec.toNat_ofInt, Nat.testBit_eq_decide_div_mod_eq]
  unfold bit
  rw [Bool.eq_iff_iff]
  simp only [beq_iff_eq, decide_eq_true_eq]
  rcases lt8 hk with rfl | rfl | rfl | rfl | rfl | rfl | rfl | rfl <;> simp <;> omega
theorem word_wrap (v : BitVec 8) : BitVec.ofInt 8 (IntKind.u8.wrap (v.toNat : Int)) = v := by
  have h := v.isLt
  apply BitVec.eq_of_toNat_eq
  rw [BitVec.toNat_ofInt, IntKind.wrap_u8']
  omega
theorem bit_and (x y : Int) (k : Nat) (hk : k < 8) : bit (bits .and .u8 x y) k = (bit x k && bit y k) := by
  rw [bit_word _ _ hk, bit_word _ _ hk, bit_word _ _ hk]
  show (BitVec.ofInt 8 (IntKind.u8.wrap ((BitVec.ofInt 8 x &&& BitVec.ofInt 8 y).toNat : Int))).getLsbD k = _
  rw [word_wrap, BitVec.getLsbD_and]
theorem bit_or (x y : Int) (k : Nat) (hk : k < 8) : bit (bits .or .u8 x y) k = (bit x k || bit y k) := by
  rw [bit_word _ _ hk, bit_word _ _ hk, bit_word _ _ hk]
  show (BitVec.ofInt 8 (IntKind.u8.wrap ((BitVec.ofInt 8 x ||| BitVec.ofInt 8 y).toNat : Int))).getLsbD k = _
  rw [word_wrap, BitVec.getLsbD_or]
theorem bit_xor (x y : Int) (k : Nat) (hk : k < 8) : bit (bits .xor .u8 x y) k = (bit x k ^^ bit y k) := by
  rw [bit_word _ _ hk, bit_word _ _ hk, bit_word _ _ hk]
  show (BitVec.ofInt 8 (IntKind.u8.wrap ((BitVec.ofInt 8 x ^^^ BitVec.ofInt 8 y).toNat : Int))).getLsbD k = _
  rw [word_wrap, BitVec.getLsbD_xor]
theorem bit_andNot (x y : Int) (k : Nat) (hk : k < 8) : bit (bits .andNot .u8 x y) k = (bit x k && !bit y k) := by
  rw [bit_word _ _ hk, bit_word _ _ hk, bit_word _ _ hk]
  show (BitVec.ofInt 8 (IntKind.u8.wrap ((BitVec.ofInt 8 x &&& ~~~ BitVec.ofInt 8 y).toNat : Int))).getLsbD k = _
  rw [word_wrap, BitVec.getLsbD_and, BitVec.getLsbD_not]
  simp [hk]
theorem bit_wrap (x : Int) (k : Nat) (hk : k < 8) : bit (IntKind.u8.wrap x) k = bit x k := by
  unfold bit
  rw [IntKind.wrap_u8']
  rw [Bool.eq_iff_iff]
  simp only [beq_iff_eq]
  rcases lt8 hk with rfl | rfl | rfl | rfl | rfl | rfl | rfl | rfl <;> simp <;> omega
/-- Two bytes that have the same bits are one. -/
theorem byte_ext {x y : Int} (hx : 0 ≤ x) (hx' : x ≤ 255) (hy : 0 ≤ y) (hy' : y ≤ 255) (h : ∀ k, k < 8 → bit x k = bit y k) : x = y := by
  have e : BitVec.ofInt 8 x = BitVec.ofInt 8 y := by
    apply BitVec.eq_of_getLsbD_eq
    intro i hi
    rw [← bit_word _ _ hi, ← bit_word _ _ hi, h i hi]
  have e2 := congrArg BitVec.toNat e
  rw [BitVec.toNat_ofInt, BitVec.toNat_ofInt] at e2
  omega
theorem bits_range (op : BinOp) (x y : Int) : 0 ≤ bits op .u8 x y ∧ bits op .u8 x y ≤ 255 := by
  unfold bits
  simp only [IntKind.wrap_u8']
  omega

theorem shr_bit (b : Int) (k : Nat) (h0 : 0 ≤ b) (h1 : b ≤ 255) : (bits .and .u8 (b / 2 ^ k) 1 == 1) = bit b k := by
  have hm := Nat.two_pow_pos k
  have hc : (2 : Int) ^ k = ((2 ^ k : Nat) : Int) := by simp
  have hd : 0 ≤ b / 2 ^ k := Int.ediv_nonneg h0 (by rw [hc]; omega)
  have hd' : b / 2 ^ k ≤ 255 := Int.le_trans (Int.ediv_le_self _ h0) h1
  rw [u8_and _ _ hd (by omega) (by omega) (by omega), show ((1 : Int)).toNat = 1 from rfl, nat_mask1]
  unfold bit
  rw [Bool.eq_iff_iff]
  simp only [beq_iff_eq]
  omega
/-- A byte with a bit set, or not. -/
def withB (b n : Int) (on : Bool) : Int := if may n then (if on then bits .or .u8 b (IntKind.u8.wrap (1 * 2 ^ n.toNat)) else bits .andNot .u8 b (IntKind.u8.wrap (1 * 2 ^ n.toNat))) else b
end Go.Proofs.Ytmoafjgogbcoeaa.M
