/- Plain numbers: bits of a byte, words. -/
import Derived.WalkKit
namespace Go.Proofs.Ytkkkjdbcckaedaa.M

/-- Bit k of a number. -/
def bit (b : Int) (k : Nat) : Bool := b / 2 ^ k % 2 == 1
/-- The bits below k that are set, from the lowest on. -/
def upto (b : Int) (k : Nat) : List Int := ((List.range k).filter (fun i : Nat => bit b i)).map (fun i : Nat => (i : Int))
theorem upto_zero (b : Int) : upto b 0 = [] := rfl
theorem upto_yes {b : Int} {k : Nat} (h : bit b k = true) : upto b (k + 1) = upto b k ++ [(k : Int)] := by
  simp [upto, List.range_succ, h]
theorem upto_no {b : Int} {k : Nat} (h : bit b k = false) : upto b (k + 1) = upto b k := by
  simp [upto, List.range_succ, h]
theorem upto_len (b : Int) (k : Nat) : (upto b k).length ≤ k := by
  unfold upto
  have h1 := List.length_filter_le (fun i => bit b i) (List.range k)
  simp at h1 ⊢
  exact h1
def may (n : Int) : Bool := decide (0 ≤ n) && decide (n < 8)
def is (b n : Int) : Bool := may n && bit b n.toNat
def evenB (b : Int) : Bool := (upto b 8).length % 2 == 0
def firstB (b : Int) : Int := match upto b 8 with | [] => -1 | x :: _ => x

theorem par_succ (n : Nat) : ((n + 1) % 2 == 0) = !(n % 2 == 0) := by
  rcases Nat.mod_two_eq_zero_or_one n with h | h <;> simp [Nat.add_mod, h]
theorem first_of {b x : Int} {k : Nat} (hk : k ≤ 8) (h : [x] = upto b k) : firstB b = x := by
  have hp : ∀ j, ∃ r, upto b (k + j) = upto b k ++ r := by
    intro j
    induction j with
    | zero => exact ⟨[], by simp⟩
    | succ j ih =>
      obtain ⟨r, hr⟩ := ih
      cases hb : bit b (k + j) with
      | true => exact ⟨r ++ [((k + j : Nat) : Int)], by rw [← Nat.add_assoc, upto_yes hb, hr, List.append_assoc]⟩
      | false => exact ⟨r, by rw [← Nat.add_assoc, upto_no hb, hr]⟩
  obtain ⟨r, hr⟩ := hp (8 - k)
  rw [show k + (8 - k) = 8 by omega, ← h] at hr
  unfold firstB
  rw [hr]
  rfl

/-! ### bits through words -/
theorem lt8 {k : Nat} (h : k < 8) : k = 0 ∨ k = 1 ∨ k = 2 ∨ k = 3 ∨ k = 4 ∨ k = 5 ∨ k = 6 ∨ k = 7 := by omega
theorem bit_word (x : Int) (k : Nat) (hk : k < 8) : bit x k = (BitVec.ofInt 8 x).getLsbD k := by
  rw [BitVec.getLsbD, BitVec.toNat_ofInt, Nat.testBit_eq_decide_div_mod_eq]
  unfold bit
  rw [Bool.eq_iff_iff]
  simp only [beq_iff_eq, decide_eq_true_eq]
  rcases lt8 hk with rfl | rfl | rfl | rfl | rfl | rfl | rfl | rfl <;> simp <;> omega
theorem word_wrap (v : BitVec 8) : BitVec.ofInt 8 (IntKind.u8.wrap (v.toNat : Int)) = v := by
  have h := v.isLt
  apply BitVec.eq_of_toNat_eq
  rw [BitVec.toNat_ofInt, IntKind.wrap_u8']
  omega
theorem bit_and (x y : Int) (k : Nat) (hk : k < 8) : bit (bits .and .u8 x y) k = (bit x k && bit y k) := by
  rw [bit_word _ _ hk, bit_word _ _ hk, bit_word _ _ hk]
  show (BitVec.ofInt 8 (IntKind.u8.wrap ((BitVec.ofInt 8 x &&& BitVec.ofInt 8 y).toNat : Int))).getLsbD k = _
  rw [word_wrap, BitVec.getLsbD_and]
theorem bit_or (x y : Int) (k : Nat) (hk : k < 8) : bit (bits .or .u8 x y) k = (bit x k || bit y k) := by
  rw [bit_word _ _ hk, bit_word _ _ hk, bit_word _ _ hk]
  show (BitVec.ofInt 8 (IntKind.u8.wrap ((BitVec.ofInt 8 x ||| BitVec.ofInt 8 y).toNat : Int))).getLsbD k = _
  rw [word_wrap, BitVec.getLsbD_or]
theorem bit_xor (x y : Int) (k : Nat) (hk : k < 8) : bit (bits .xor .u8 x y) k = (bit x k ^^ bit y k) := by
  rw [bit_word _ _ hk, bit_word _ _ hk, bit_word _ _ hk]
  show (BitVec.ofInt 8 (IntKind.u8.wrap ((BitVec.ofInt 8 x ^^^ BitVec.ofInt 8 y).toNat : Int))).getLsbD k = _
  rw [word_wrap, BitVec.getLsbD_xor]
theorem bit_andNot (x y : Int) (k : Nat) (hk : k < 8) : bit (bits .andNot .u8 x y) k = (bit x k && !bit y k) := by
  rw [bit_word _ _ hk, bit_word _ _ hk, bit_word _ _ hk]
  show (BitVec.ofInt 8 (IntKind.u8.wrap ((BitVec.ofInt 8 x &&& ~~~ BitVec.ofInt 8 y).toNat : Int))).getLsbD k = _
  rw [word_wrap, BitVec.getLsbD_and, BitVec.getLsbD_not]
  simp [hk]
theorem bit_wrap (x : Int) (k : Nat) (hk : k < 8) : bit (IntKind.u8.wrap x) k = bit x k := by
  unfold bit
  rw [IntKind.wrap_u8']
  rw [Bool.eq_iff_iff]
  simp only [beq_iff_eq]
  rcases lt8 hk with rfl | rfl | rfl | rfl | rfl | rfl | rfl | rfl <;> simp <;> omega
/-- Two bytes that have the same bits are one. -/
theorem byte_ext {x y : Int} (hx : 0 ≤ x) (hx' : x ≤ 255) (hy : 0 ≤ y) (hy' : y ≤ 255) (h : ∀ k, k < 8 → bit x k = bit y k) : x = y := by
  have e : BitVec.ofInt 8 x = BitVec.ofInt 8 y := by
    apply BitVec.eq_of_getLsbD_eq
    intro i hi
    rw [← bit_word _ _ hi, ← bit_word _ _ hi, h i hi]
  have e2 := congrArg BitVec.toNat e
  rw [BitVec.toNat_ofInt, BitVec.toNat_ofInt] at e2
  omega
theorem bits_range (op : BinOp) (x y : Int) : 0 ≤ bits op .u8 x y ∧ bits op .u8 x y ≤ 255 := by
  unfold bits
  simp only [IntKind.wrap_u8']
  omega

theorem shr_bit (b : Int) (k : Nat) (h0 : 0 ≤ b) (h1 : b ≤ 255) : (bits .and .u8 (b / 2 ^ k) 1 == 1) = bit b k := by
  have hm := Nat.two_pow_pos k
  have hc : (2 : Int) ^ k = ((2 ^ k : Nat) : Int) := by simp
  have hd : 0 ≤ b / 2 ^ k := Int.ediv_nonneg h0 (by rw [hc]; omega)
  have hd' : b / 2 ^ k ≤ 255 := Int.le_trans (Int.ediv_le_self _ h0) h1
  rw [u8_and _ _ hd (by omega) (by omega) (by omega), show ((1 : Int)).toNat = 1 from rfl, nat_mask1]
  unfold bit
  rw [Bool.eq_iff_iff]
  simp only [beq_iff_eq]
  omega
/-- A byte with a bit set, or not. -/
def withB (b n : Int) (on : Bool) : Int := if may n then (if on then bits .or .u8 b (IntKind.u8.wrap (1 * 2 ^ n.toNat)) else bits .andNot .u8 b (IntKind.u8.wrap (1 * 2 ^ n.toNat))) else b
end Go.Proofs.Ytkkkjdbcckaedaa.M
namespace Go.Proofs.Ytkkkjdbcckaedaa.M

theorem fin_of {a : Int} (h0 : 0 ≤ a) (h1 : a ≤ 255) : ∃ x : Fin 256, a = (x.val : Int) := ⟨⟨a.toNat, by omega⟩, by simp; omega⟩
theorem fin8_of {n : Int} (h0 : 0 ≤ n) (h1 : n ≤ 7) : ∃ x : Fin 8, n = (x.val : Int) := ⟨⟨n.toNat, by omega⟩, by simp; omega⟩
theorem with_tab : ∀ b : Fin 256, ∀ n : Fin 8, (if is b.val n.val then withB b.val n.val true = b.val ∧ withB b.val n.val false = b.val - 2 ^ n.val ∧ 2 ^ n.val ≤ (b.val : Int) else withB b.val n.val true = b.val + 2 ^ n.val ∧ withB b.val n.val false = b.val ∧ (b.val : Int) + 2 ^ n.val ≤ 255)
    ∧ 0 ≤ withB b.val n.val true ∧ withB b.val n.val true ≤ 255 ∧ 0 ≤ withB b.val n.val false ∧ withB b.val n.val false ≤ 255 := by decide +kernel
theorem with_out {a n : Int} (h : ¬ (0 ≤ n ∧ n ≤ 7)) (on : Bool) : withB a n on = a := by
  unfold withB may
  have : (decide (0 ≤ n) && decide (n < 8)) = false := by simp; omega
  rw [this]
  rfl
theorem is_out {a n : Int} (h : ¬ (0 ≤ n ∧ n ≤ 7)) : is a n = false := by
  unfold is may
  have : (decide (0 ≤ n) && decide (n < 8)) = false := by simp; omega
  rw [this]
  rfl
theorem with_range (b n : Int) (on : Bool) (h0 : 0 ≤ b) (h1 : b ≤ 255) : 0 ≤ withB b n on ∧ withB b n on ≤ 255 := by
  by_cases hn : 0 ≤ n ∧ n ≤ 7
  · obtain ⟨x, rfl⟩ := fin_of h0 h1
    obtain ⟨y, rfl⟩ := fin8_of hn.1 hn.2
    have h := (with_tab x y).2
    cases on
    · exact h.2.2
    · exact ⟨h.1, h.2.1⟩
  · rw [with_out hn]; exact ⟨h0, h1⟩
theorem with_yes (b n : Int) (h0 : 0 ≤ b) (h1 : b ≤ 255) (hn : 0 ≤ n) (hn7 : n ≤ 7) (h : is b n = true) : withB b n true = b ∧ withB b n false = b - 2 ^ n.toNat ∧ 2 ^ n.toNat ≤ b := by
  obtain ⟨x, rfl⟩ := fin_of h0 h1
  obtain ⟨y, rfl⟩ := fin8_of hn hn7
  have t := (with_tab x y).1
  rw [if_pos h] at t
  exact t
theorem with_no (b n : Int) (h0 : 0 ≤ b) (h1 : b ≤ 255) (hn : 0 ≤ n) (hn7 : n ≤ 7) (h : is b n = false) : withB b n true = b + 2 ^ n.toNat ∧ withB b n false = b ∧ b + 2 ^ n.toNat ≤ 255 := by
  obtain ⟨x, rfl⟩ := fin_of h0 h1
  obtain ⟨y, rfl⟩ := fin8_of hn hn7
  have t := (with_tab x y).1
  rw [if_neg (by rw [h]; decide)] at t
  exact t
/-- Eight flags as a number: S, Z, Y, H, X, P, N, C. -/
def b2i (b : Bool) : Int := if b then 1 else 0
def mk (s z y h x p n c : Bool) : Int := 128 * b2i s + 64 * b2i z + 32 * b2i y + 16 * b2i h + 8 * b2i x + 4 * b2i p + 2 * b2i n + b2i c
theorem mk_with : ∀ s z y h x p n c : Bool, withB (withB (withB (withB (withB (withB (withB (withB 0 7 s) 6 z) 5 y) 4 h) 3 x) 2 p) 1 n) 0 c = mk s z y h x p n c := by decide +kernel
theorem mk_range (s z y h x p n c : Bool) : 0 ≤ mk s z y h x p n c ∧ mk s z y h x p n c ≤ 255 := by
  have e : ∀ b, 0 ≤ b2i b ∧ b2i b ≤ 1 := by decide
  have := e s; have := e z; have := e y; have := e h; have := e x; have := e p; have := e n; have := e c
  unfold mk
  omega
theorem is_mk7 : ∀ s z y h x p n c : Bool, is (mk s z y h x p n c) 7 = s := by decide +kernel
theorem is_mk6 : ∀ s z y h x p n c : Bool, is (mk s z y h x p n c) 6 = z := by decide +kernel
theorem is_mk5 : ∀ s z y h x p n c : Bool, is (mk s z y h x p n c) 5 = y := by decide +kernel
theorem is_mk4 : ∀ s z y h x p n c : Bool, is (mk s z y h x p n c) 4 = h := by decide +kernel
theorem is_mk3 : ∀ s z y h x p n c : Bool, is (mk s z y h x p n c) 3 = x := by decide +kernel
theorem is_mk2 : ∀ s z y h x p n c : Bool, is (mk s z y h x p n c) 2 = p := by decide +kernel
theorem is_mk1 : ∀ s z y h x p n c : Bool, is (mk s z y h x p n c) 1 = n := by decide +kernel
theorem is_mk0 : ∀ s z y h x p n c : Bool, is (mk s z y h x p n c) 0 = c := by decide +kernel
/-- S, Z, Y and X of a result. -/
def resF (r : Int) : Int := mk (is r 7) (r == 0) (is r 5) false (is r 3) false false false
/-- Some flags with other Y and X; with another C. -/
def linesF (f b : Int) : Int := mk (is f 7) (is f 6) (is b 5) (is f 4) (is b 3) (is f 2) (is f 1) (is f 0)
def carryF (g f : Int) : Int := mk (is g 7) (is g 6) (is g 5) (is g 4) (is g 3) (is g 2) (is g 1) (is f 0)
/-- A byte as a signed number; a number that is no signed byte. -/
def sg (b : Int) : Int := if b < 128 then b else b - 256
theorem sg_range (b : Int) (h0 : 0 ≤ b) (h1 : b ≤ 255) : -128 ≤ sg b ∧ sg b ≤ 127 := by unfold sg; split <;> omega
def far (n : Int) : Bool := decide (n < -128) || decide (n > 127)
/-- A sum of bytes and its flags. -/
def addR (a b : Int) (c : Bool) : Int := (a + b + b2i c) % 256
def addF (a b : Int) (c : Bool) : Int := mk (is (addR a b c) 7) (addR a b c == 0) (is (addR a b c) 5) (decide (a % 16 + b % 16 + b2i c > 15)) (is (addR a b c) 3) (far (sg a + sg b + b2i c)) false (decide (a + b + b2i c > 255))
def subR (a b : Int) (c : Bool) : Int := (a - b - b2i c) % 256
def subF (a b : Int) (c : Bool) : Int := mk (is (subR a b c) 7) (subR a b c == 0) (is (subR a b c) 5) (decide (a % 16 - b % 16 - b2i c < 0)) (is (subR a b c) 3) (far (sg a - sg b - b2i c)) true (decide (a - b - b2i c < 0))
theorem addR_range (a b : Int) (c : Bool) : 0 ≤ addR a b c ∧ addR a b c ≤ 255 := by unfold addR; omega
theorem subR_range (a b : Int) (c : Bool) : 0 ≤ subR a b c ∧ subR a b c ≤ 255 := by unfold subR; omega
theorem addF_range (a b : Int) (c : Bool) : 0 ≤ addF a b c ∧ addF a b c ≤ 255 := mk_range _ _ _ _ _ _ _ _
theorem subF_range (a b : Int) (c : Bool) : 0 ≤ subF a b c ∧ subF a b c ≤ 255 := mk_range _ _ _ _ _ _ _ _
end Go.Proofs.Ytkkkjdbcckaedaa.M
namespace Go.Proofs.Ytkkkjdbcckaedaa.M
set_option linter.unusedVariables false

theorem bit_1 {x : Int} {k : Nat} (h : bit x k = true) : x / 2 ^ k % 2 = 1 := by simpa [bit] using h
theorem bit_0 {x : Int} {k : Nat} (h : bit x k = false) : x / 2 ^ k % 2 = 0 := by
  have : ¬ x / 2 ^ k % 2 = 1 := by simpa [bit] using h
  omega
theorem is_bit (x : Int) (k : Nat) (hk : k < 8) : is x k = bit x k := by
  unfold is may
  rw [decide_eq_true (show (0 : Int) ≤ k by omega), decide_eq_true (show (k : Int) < 8 by omega)]
  rfl
theorem and16_tab : ∀ x : Fin 256, bits .and .u8 (x.val : Int) 16 = 16 * b2i (bit x.val 4) ∧ (bits .and .u8 (x.val : Int) 128 != 0) = bit x.val 7 ∧ bits .and .u8 (x.val : Int) 1 = b2i (bit x.val 0) ∧ (if (x.val : Int) = 0 then 64 else bits .and .u8 (x.val : Int) 168) = resF x.val := by decide +kernel
theorem and16 (x : Int) (h0 : 0 ≤ x) (h1 : x ≤ 255) : bits .and .u8 x 16 = 16 * b2i (bit x 4) := by
  obtain ⟨y, rfl⟩ := fin_of h0 h1
  exact (and16_tab y).1
theorem and128 (x : Int) (h0 : 0 ≤ x) (h1 : x ≤ 255) : (bits .and .u8 x 128 != 0) = bit x 7 := by
  obtain ⟨y, rfl⟩ := fin_of h0 h1
  exact (and16_tab y).2.1
theorem and1 (x : Int) (h0 : 0 ≤ x) (h1 : x ≤ 255) : bits .and .u8 x 1 = b2i (bit x 0) := by
  obtain ⟨y, rfl⟩ := fin_of h0 h1
  exact (and16_tab y).2.2.1
theorem resF_is (x : Int) (h0 : 0 ≤ x) (h1 : x ≤ 255) : (if x = 0 then 64 else bits .and .u8 x 168) = resF x := by
  obtain ⟨y, rfl⟩ := fin_of h0 h1
  exact (and16_tab y).2.2.2
/-- The carry into bit 4. -/
theorem half_add (a b q : Int) (h0 : 0 ≤ a) (h1 : a ≤ 255) (h2 : 0 ≤ b) (h3 : b ≤ 255) (h4 : 0 ≤ q) (h5 : q ≤ 1) :
    ((bit a 4 ^^ bit b 4) ^^ bit ((a + b + q) % 256) 4) = decide (a % 16 + b % 16 + q > 15) := by
  cases ha : bit a 4 <;> cases hb : bit b 4 <;> cases hr : bit ((a + b + q) % 256) 4
  all_goals
    first | replace ha := bit_1 ha | replace ha := bit_0 ha
    first | replace hb := bit_1 hb | replace hb := bit_0 hb
    first | replace hr := bit_1 hr | replace hr := bit_0 hr
    simp
    omega
theorem half_sub (a b q : Int) (h0 : 0 ≤ a) (h1 : a ≤ 255) (h2 : 0 ≤ b) (h3 : b ≤ 255) (h4 : 0 ≤ q) (h5 : q ≤ 1) :
    ((bit a 4 ^^ bit b 4) ^^ bit ((a - b - q) % 256) 4) = decide (a % 16 - b % 16 - q < 0) := by
  cases ha : bit a 4 <;> cases hb : bit b 4 <;> cases hr : bit ((a - b - q) % 256) 4
  all_goals
    first | replace ha := bit_1 ha | replace ha := bit_0 ha
    first | replace hb := bit_1 hb | replace hb := bit_0 hb
    first | replace hr := bit_1 hr | replace hr := bit_0 hr
    simp
    omega
theorem over_add (a b q : Int) (h0 : 0 ≤ a) (h1 : a ≤ 255) (h2 : 0 ≤ b) (h3 : b ≤ 255) (h4 : 0 ≤ q) (h5 : q ≤ 1) :
    ((bit a 7 ^^ bit ((a + b + q) % 256) 7) && (bit b 7 ^^ bit ((a + b + q) % 256) 7)) = far (sg a + sg b + q) := by
  cases ha : bit a 7 <;> cases hb : bit b 7 <;> cases hr : bit ((a + b + q) % 256) 7
  all_goals
    first | replace ha := bit_1 ha | replace ha := bit_0 ha
    first | replace hb := bit_1 hb | replace hb := bit_0 hb
    first | replace hr := bit_1 hr | replace hr := bit_0 hr
    unfold far sg
    simp
    split <;> split <;> omega
theorem over_sub (a b q : Int) (h0 : 0 ≤ a) (h1 : a ≤ 255) (h2 : 0 ≤ b) (h3 : b ≤ 255) (h4 : 0 ≤ q) (h5 : q ≤ 1) :
    ((bit a 7 ^^ bit b 7) && (bit a 7 ^^ bit ((a - b - q) % 256) 7)) = far (sg a - sg b - q) := by
  cases ha : bit a 7 <;> cases hb : bit b 7 <;> cases hr : bit ((a - b - q) % 256) 7
  all_goals
    first | replace ha := bit_1 ha | replace ha := bit_0 ha
    first | replace hb := bit_1 hb | replace hb := bit_0 hb
    first | replace hr := bit_1 hr | replace hr := bit_0 hr
    unfold far sg
    simp
    split <;> split <;> omega
theorem or_add : ∀ s z y h x p c : Bool, bits .or .u8 (bits .or .u8 (bits .or .u8 (bits .or .u8 0 (mk s z y false x false false false)) (16 * b2i h)) (4 * b2i p % 256)) (1 * b2i c % 256) = mk s z y h x p false c := by decide +kernel
theorem or_sub : ∀ s z y h x p c : Bool, bits .or .u8 (bits .or .u8 (bits .or .u8 (bits .or .u8 (bits .or .u8 0 (mk s z y false x false false false)) (16 * b2i h)) (4 * b2i p % 256)) 2) (1 * b2i c % 256) = mk s z y h x p true c := by decide +kernel
/-- The flags as the program puts them together. -/
theorem addF_or (a b : Int) (c : Bool) (h0 : 0 ≤ a) (h1 : a ≤ 255) (h2 : 0 ≤ b) (h3 : b ≤ 255) :
    bits .or .u8 (bits .or .u8 (bits .or .u8 (bits .or .u8 0 (resF (addR a b c))) (bits .and .u8 (bits .xor .u8 (bits .xor .u8 a b) (addR a b c)) 16)) (4 * b2i (bits .and .u8 (bits .and .u8 (bits .xor .u8 a (addR a b c)) (bits .xor .u8 b (addR a b c))) 128 != 0) % 256)) (1 * b2i (decide (a + b + b2i c > 255)) % 256) = addF a b c := by
  have hc : 0 ≤ b2i c ∧ b2i c ≤ 1 := by cases c <;> decide
  have r1 := bits_range .xor (bits .xor .u8 a b) (addR a b c)
  have r2 := bits_range .and (bits .xor .u8 a (addR a b c)) (bits .xor .u8 b (addR a b c))
  rw [and16 _ r1.1 r1.2, and128 _ r2.1 r2.2, bit_and _ _ 7 (by omega), bit_xor _ _ 7 (by omega), bit_xor _ _ 7 (by omega), bit_xor _ _ 4 (by omega), bit_xor _ _ 4 (by omega)]
  unfold resF addF addR
  rw [half_add a b (b2i c) h0 h1 h2 h3 hc.1 hc.2, over_add a b (b2i c) h0 h1 h2 h3 hc.1 hc.2, or_add]
theorem subF_or (a b : Int) (c : Bool) (h0 : 0 ≤ a) (h1 : a ≤ 255) (h2 : 0 ≤ b) (h3 : b ≤ 255) :
    bits .or .u8 (bits .or .u8 (bits .or .u8 (bits .or .u8 (bits .or .u8 0 (resF (subR a b c))) (bits .and .u8 (bits .xor .u8 (bits .xor .u8 a b) (subR a b c)) 16)) (4 * b2i (bits .and .u8 (bits .and .u8 (bits .xor .u8 a b) (bits .xor .u8 a (subR a b c))) 128 != 0) % 256)) 2) (1 * b2i (decide (a - b - b2i c < 0)) % 256) = subF a b c := by
  have hc : 0 ≤ b2i c ∧ b2i c ≤ 1 := by cases c <;> decide
  have r1 := bits_range .xor (bits .xor .u8 a b) (subR a b c)
  have r2 := bits_range .and (bits .xor .u8 a b) (bits .xor .u8 a (subR a b c))
  rw [and16 _ r1.1 r1.2, and128 _ r2.1 r2.2, bit_and _ _ 7 (by omega), bit_xor _ _ 7 (by omega), bit_xor _ _ 7 (by omega), bit_xor _ _ 4 (by omega), bit_xor _ _ 4 (by omega)]
  unfold resF subF subR
  rw [half_sub a b (b2i c) h0 h1 h2 h3 hc.1 hc.2, over_sub a b (b2i c) h0 h1 h2 h3 hc.1 hc.2, or_sub]
theorem mk_bits (s z y h x p n c : Bool) : bit (mk s z y h x p n c) 7 = s ∧ bit (mk s z y h x p n c) 6 = z ∧ bit (mk s z y h x p n c) 5 = y ∧ bit (mk s z y h x p n c) 4 = h ∧ bit (mk s z y h x p n c) 3 = x ∧ bit (mk s z y h x p n c) 2 = p ∧ bit (mk s z y h x p n c) 1 = n ∧ bit (mk s z y h x p n c) 0 = c := by
  revert s z y h x p n c
  decide +kernel
/-- A number that is put together of flags: whoever has the same bits is it. -/
theorem mk_eq {v : Int} (h0 : 0 ≤ v) (h1 : v ≤ 255) (s z y h x p n c : Bool) (b7 : bit v 7 = s) (b6 : bit v 6 = z) (b5 : bit v 5 = y) (b4 : bit v 4 = h) (b3 : bit v 3 = x) (b2 : bit v 2 = p) (b1 : bit v 1 = n) (b0 : bit v 0 = c) : v = mk s z y h x p n c := by
  have r := mk_range s z y h x p n c
  obtain ⟨m7, m6, m5, m4, m3, m2, m1, m0⟩ := mk_bits s z y h x p n c
  refine byte_ext h0 h1 r.1 r.2 fun k hk => ?_
  rcases lt8 hk with rfl | rfl | rfl | rfl | rfl | rfl | rfl | rfl
  · rw [b0, m0]
  · rw [b1, m1]
  · rw [b2, m2]
  · rw [b3, m3]
  · rw [b4, m4]
  · rw [b5, m5]
  · rw [b6, m6]
  · rw [b7, m7]
theorem is7 (x : Int) : is x 7 = bit x 7 := is_bit x 7 (by omega)
theorem is6 (x : Int) : is x 6 = bit x 6 := is_bit x 6 (by omega)
theorem is5 (x : Int) : is x 5 = bit x 5 := is_bit x 5 (by omega)
theorem is4 (x : Int) : is x 4 = bit x 4 := is_bit x 4 (by omega)
theorem is3 (x : Int) : is x 3 = bit x 3 := is_bit x 3 (by omega)
theorem is2 (x : Int) : is x 2 = bit x 2 := is_bit x 2 (by omega)
theorem is1 (x : Int) : is x 1 = bit x 1 := is_bit x 1 (by omega)
theorem is0 (x : Int) : is x 0 = bit x 0 := is_bit x 0 (by omega)
/-- Some flags of one byte, the others of another one: by a mask whose bits are known. -/
theorem keep_bit (f old m : Int) (k : Nat) (hk : k < 8) : bit (bits .or .u8 (bits .andNot .u8 f m) (bits .and .u8 old m)) k = if bit m k then bit old k else bit f k := by
  rw [bit_or _ _ k hk, bit_andNot _ _ k hk, bit_and _ _ k hk]
  cases bit m k <;> cases bit f k <;> cases bit old k <;> rfl
theorem keep_lines (f b : Int) : bits .or .u8 (bits .andNot .u8 f 40) (bits .and .u8 b 40) = linesF f b := by
  have r := bits_range .or (bits .andNot .u8 f 40) (bits .and .u8 b 40)
  unfold linesF
  rw [is7, is6, is5, is4, is3, is2, is1, is0]
  refine mk_eq r.1 r.2 _ _ _ _ _ _ _ _ ?_ ?_ ?_ ?_ ?_ ?_ ?_ ?_
  all_goals
    rw [keep_bit _ _ _ _ (by omega)]
    rfl
theorem keep_carry (g f : Int) : bits .or .u8 (bits .andNot .u8 g 1) (bits .and .u8 f 1) = carryF g f := by
  have r := bits_range .or (bits .andNot .u8 g 1) (bits .and .u8 f 1)
  unfold carryF
  rw [is7, is6, is5, is4, is3, is2, is1, is0]
  refine mk_eq r.1 r.2 _ _ _ _ _ _ _ _ ?_ ?_ ?_ ?_ ?_ ?_ ?_ ?_
  all_goals
    rw [keep_bit _ _ _ _ (by omega)]
    rfl
theorem carry_same (g f : Int) : bits .and .u8 (bits .xor .u8 (carryF g f) f) 1 = 0 := by
  have r := bits_range .xor (carryF g f) f
  rw [and1 _ r.1 r.2, bit_xor _ _ 0 (by omega)]
  unfold carryF
  rw [(mk_bits _ _ _ _ _ _ _ _).2.2.2.2.2.2.2, is0]
  cases bit f 0 <;> rfl
theorem carryF_range (g f : Int) : 0 ≤ carryF g f ∧ carryF g f ≤ 255 := mk_range _ _ _ _ _ _ _ _
theorem linesF_range (g f : Int) : 0 ≤ linesF g f ∧ linesF g f ≤ 255 := mk_range _ _ _ _ _ _ _ _
end Go.Proofs.Ytkkkjdbcckaedaa.M
