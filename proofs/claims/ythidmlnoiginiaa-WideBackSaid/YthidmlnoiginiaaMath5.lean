/- Plain numbers: sums of words by their bytes, and by numbers, are one. No Go, no memory. -/
import Derived.Test.YthidmlnoiginiaaMath4
namespace Go.Proofs.Ythidmlnoiginiaa.M
set_option linter.unusedVariables false

def sgw (w : Int) : Int := if w < 32768 then w else w - 65536
def farw (n : Int) : Bool := decide (n < -32768) || decide (n > 32767)
/-- All flags of a word that is a sum or a difference. -/
def wflag (r : Int) (half over out minus : Bool) : Int := mk (is (r / 256) 7) (r == 0) (is (r / 256) 5) half (is (r / 256) 3) over minus out
theorem b2i_range (c : Bool) : 0 ≤ b2i c ∧ b2i c ≤ 1 := by cases c <;> decide
theorem b2i_dec (p : Prop) [Decidable p] : b2i (decide p) = if p then 1 else 0 := by by_cases h : p <;> simp [b2i, h]
theorem one_ne (c : Bool) : (b2i c != 0) = c := by cases c <;> rfl
theorem one_eq (c : Bool) : (b2i c == 1) = c := by cases c <;> rfl
theorem andNot64 : ∀ s z y h x p n c : Bool, bits .andNot .u8 (mk s z y h x p n c) 64 = mk s false y h x p n c := by decide +kernel
theorem addF_c (a b : Int) (c : Bool) : bits .and .u8 (addF a b c) 1 = b2i (decide (a + b + b2i c > 255)) := by
  rw [and1 _ (addF_range a b c).1 (addF_range a b c).2]
  unfold addF
  rw [(mk_bits _ _ _ _ _ _ _ _).2.2.2.2.2.2.2]
theorem subF_c (a b : Int) (c : Bool) : bits .and .u8 (subF a b c) 1 = b2i (decide (a - b - b2i c < 0)) := by
  rw [and1 _ (subF_range a b c).1 (subF_range a b c).2]
  unfold subF
  rw [(mk_bits _ _ _ _ _ _ _ _).2.2.2.2.2.2.2]

theorem waddR_is (a b : Int) (c : Bool) (h0 : 0 ≤ a) (h1 : a ≤ 65535) (h2 : 0 ≤ b) (h3 : b ≤ 65535) : waddR a b c = (a + b + b2i c) % 65536 := by
  have hc := b2i_range c
  unfold waddR
  rw [addF_c, one_ne]
  unfold addR
  rw [b2i_dec]
  split <;> omega
theorem wsubR_is (a b : Int) (c : Bool) (h0 : 0 ≤ a) (h1 : a ≤ 65535) (h2 : 0 ≤ b) (h3 : b ≤ 65535) : wsubR a b c = (a - b - b2i c) % 65536 := by
  have hc := b2i_range c
  unfold wsubR
  rw [subF_c, one_ne]
  unfold subR
  rw [b2i_dec]
  split <;> omega
theorem far_word_add (a b q p : Int) (h0 : 0 ≤ a) (h1 : a ≤ 65535) (h2 : 0 ≤ b) (h3 : b ≤ 65535) (h4 : 0 ≤ q) (h5 : q ≤ 1) (hp : p = if a % 256 + b % 256 + q > 255 then 1 else 0) : far (sg (a / 256) + sg (b / 256) + p) = farw (sgw a + sgw b + q) := by
  subst hp
  unfold far farw sg sgw
  rw [Bool.eq_iff_iff]
  simp
  split <;> split <;> split <;> split <;> split <;> omega
theorem far_word_sub (a b q p : Int) (h0 : 0 ≤ a) (h1 : a ≤ 65535) (h2 : 0 ≤ b) (h3 : b ≤ 65535) (h4 : 0 ≤ q) (h5 : q ≤ 1) (hp : p = if a % 256 - b % 256 - q < 0 then 1 else 0) : far (sg (a / 256) - sg (b / 256) - p) = farw (sgw a - sgw b - q) := by
  subst hp
  unfold far farw sg sgw
  rw [Bool.eq_iff_iff]
  simp
  split <;> split <;> split <;> split <;> split <;> omega
theorem waddH (a b : Int) (c : Bool) (h0 : 0 ≤ a) (h1 : a ≤ 65535) (h2 : 0 ≤ b) (h3 : b ≤ 65535) :
    addF (a / 256) (b / 256) (decide (a % 256 + b % 256 + b2i c > 255)) = mk (is ((a + b + b2i c) % 65536 / 256) 7) ((a + b + b2i c) % 65536 / 256 == 0) (is ((a + b + b2i c) % 65536 / 256) 5) (decide (a % 4096 + b % 4096 + b2i c > 4095)) (is ((a + b + b2i c) % 65536 / 256) 3) (farw (sgw a + sgw b + b2i c)) false (decide (a + b + b2i c > 65535)) := by
  have hc := b2i_range c
  have hd := b2i_dec (a % 256 + b % 256 + b2i c > 255)
  have hr : addR (a / 256) (b / 256) (decide (a % 256 + b % 256 + b2i c > 255)) = (a + b + b2i c) % 65536 / 256 := by
    unfold addR; rw [hd]; split <;> omega
  have hh : decide (a / 256 % 16 + b / 256 % 16 + b2i (decide (a % 256 + b % 256 + b2i c > 255)) > 15) = decide (a % 4096 + b % 4096 + b2i c > 4095) := by
    rw [Bool.eq_iff_iff]; simp only [decide_eq_true_eq]; rw [hd]; split <;> omega
  have ho : decide (a / 256 + b / 256 + b2i (decide (a % 256 + b % 256 + b2i c > 255)) > 255) = decide (a + b + b2i c > 65535) := by
    rw [Bool.eq_iff_iff]; simp only [decide_eq_true_eq]; rw [hd]; split <;> omega
  unfold addF
  rw [hr, hh, ho, far_word_add a b (b2i c) _ h0 h1 h2 h3 hc.1 hc.2 hd]
theorem wsubH (a b : Int) (c : Bool) (h0 : 0 ≤ a) (h1 : a ≤ 65535) (h2 : 0 ≤ b) (h3 : b ≤ 65535) :
    subF (a / 256) (b / 256) (decide (a % 256 - b % 256 - b2i c < 0)) = mk (is ((a - b - b2i c) % 65536 / 256) 7) ((a - b - b2i c) % 65536 / 256 == 0) (is ((a - b - b2i c) % 65536 / 256) 5) (decide (a % 4096 - b % 4096 - b2i c < 0)) (is ((a - b - b2i c) % 65536 / 256) 3) (farw (sgw a - sgw b - b2i c)) true (decide (a - b - b2i c < 0)) := by
  have hc := b2i_range c
  have hd := b2i_dec (a % 256 - b % 256 - b2i c < 0)
  have hr : subR (a / 256) (b / 256) (decide (a % 256 - b % 256 - b2i c < 0)) = (a - b - b2i c) % 65536 / 256 := by
    unfold subR; rw [hd]; split <;> omega
  have hh : decide (a / 256 % 16 - b / 256 % 16 - b2i (decide (a % 256 - b % 256 - b2i c < 0)) < 0) = decide (a % 4096 - b % 4096 - b2i c < 0) := by
    rw [Bool.eq_iff_iff]; simp only [decide_eq_true_eq]; rw [hd]; split <;> omega
  have ho : decide (a / 256 - b / 256 - b2i (decide (a % 256 - b % 256 - b2i c < 0)) < 0) = decide (a - b - b2i c < 0) := by
    rw [Bool.eq_iff_iff]; simp only [decide_eq_true_eq]; rw [hd]; split <;> omega
  unfold subF
  rw [hr, hh, ho, far_word_sub a b (b2i c) _ h0 h1 h2 h3 hc.1 hc.2 hd]
theorem waddF_is (a b : Int) (c : Bool) (h0 : 0 ≤ a) (h1 : a ≤ 65535) (h2 : 0 ≤ b) (h3 : b ≤ 65535) :
    waddF a b c = wflag ((a + b + b2i c) % 65536) (decide (a % 4096 + b % 4096 + b2i c > 4095)) (farw (sgw a + sgw b + b2i c)) (decide (a + b + b2i c > 65535)) false := by
  unfold waddF wflag
  rw [waddR_is a b c h0 h1 h2 h3, addF_c, one_ne, waddH a b c h0 h1 h2 h3, andNot64]
  by_cases h : (a + b + b2i c) % 65536 = 0
  · rw [h]; rfl
  · have e : ((a + b + b2i c) % 65536 != 0) = true := by simpa using h
    have e2 : ((a + b + b2i c) % 65536 == 0) = false := by simpa using h
    rw [if_pos e, e2]
theorem wsubF_is (a b : Int) (c : Bool) (h0 : 0 ≤ a) (h1 : a ≤ 65535) (h2 : 0 ≤ b) (h3 : b ≤ 65535) :
    wsubF a b c = wflag ((a - b - b2i c) % 65536) (decide (a % 4096 - b % 4096 - b2i c < 0)) (farw (sgw a - sgw b - b2i c)) (decide (a - b - b2i c < 0)) true := by
  unfold wsubF wflag
  rw [wsubR_is a b c h0 h1 h2 h3, subF_c, one_ne, wsubH a b c h0 h1 h2 h3, andNot64]
  by_cases h : (a - b - b2i c) % 65536 = 0
  · rw [h]; rfl
  · have e : ((a - b - b2i c) % 65536 != 0) = true := by simpa using h
    have e2 : ((a - b - b2i c) % 65536 == 0) = false := by simpa using h
    rw [if_pos e, e2]
theorem wflag_range (r : Int) (half over out minus : Bool) : 0 ≤ wflag r half over out minus ∧ wflag r half over out minus ≤ 255 := mk_range _ _ _ _ _ _ _ _
/-- S, Z and P of another byte. -/
theorem keep196 (s z y h x p n c : Bool) (f : Int) : bits .or .u8 (bits .andNot .u8 (mk s z y h x p n c) 196) (bits .and .u8 f 196) = mk (is f 7) (is f 6) y h x (is f 2) n c := by
  have r := bits_range .or (bits .andNot .u8 (mk s z y h x p n c) 196) (bits .and .u8 f 196)
  obtain ⟨m7, m6, m5, m4, m3, m2, m1, m0⟩ := mk_bits s z y h x p n c
  rw [is7, is6, is2]
  refine mk_eq r.1 r.2 _ _ _ _ _ _ _ _ ?_ ?_ ?_ ?_ ?_ ?_ ?_ ?_
  all_goals
    rw [keep_bit _ _ _ _ (by omega)]
  · rfl
  · rfl
  · exact m5
  · exact m4
  · exact m3
  · rfl
  · exact m1
  · exact m0
theorem wadd_keep (a b f : Int) (h0 : 0 ≤ a) (h1 : a ≤ 65535) (h2 : 0 ≤ b) (h3 : b ≤ 65535) : bits .or .u8 (bits .andNot .u8 (waddF a b false) 196) (bits .and .u8 f 196) = rwaddF a b f := by
  rw [waddF_is a b false h0 h1 h2 h3]
  unfold wflag rwaddF
  rw [keep196]
  have e : b2i false = 0 := rfl
  simp only [e, Int.add_zero, gt_iff_lt]
end Go.Proofs.Ythidmlnoiginiaa.M
