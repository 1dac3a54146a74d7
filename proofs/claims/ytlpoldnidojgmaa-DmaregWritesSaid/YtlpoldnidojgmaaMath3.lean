/- Plain numbers: the flags of sums by bits, and by numbers, are one. No Go, no memory. -/
import Derived.Test.YtlpoldnidojgmaaMath2
namespace Go.Proofs.Ytlpoldnidojgmaa.M
set_option linter.unusedVariables false

theorem bit_1 {x : Int} {k : Nat} (h : bit x k = true) : x / 2 ^ k % 2 = 1 := by simpa [bit] using h
theorem bit_0 {x : Int} {k : Nat} (h : bit x k = false) : x / 2 ^ k % 2 = 0 := by
  have : ¬ x / 2 ^ k % 2 = 1 := by simpa [bit] using h
  omega
theorem is_bit (x : Int) (k : Nat) (hk : k < 8) : is x k = bit x k := by
  unfold is may
  rw [decide_eq_true (show (0 : Int) ≤ k by omega), decide_eq_true (show (k : Int) < 8 by omega)]
  rfl
theorem and16_tab : ∀ x : Fin 256, bits .and .u8 (x.val : Int) 16 = 16 * b2i (bit x.val 4) ∧ (bits .and .u8 (x.val : Int) 128 != 0) = bit x.val 7 ∧ bits .and .u8 (x.val : Int) 1 = b2i (bit x.val 0) ∧ (if (x.val : Int) = 0 then 64 else bits .and .u8 (x.val : Int) 168) = resF x.val := by decide +kernel
theorem and16 (x : Int) (h0 : 0 ≤ x) (h1 : x ≤ 255) : bits .and .u8 x 16 = 16 * b2i (bit x 4) := by
  obtain ⟨y, rfl⟩ := fin_of h0 h1
  exact (and16_tab y).1
theorem and128 (x : Int) (h0 : 0 ≤ x) (h1 : x ≤ 255) : (bits .and .u8 x 128 != 0) = bit x 7 := by
  obtain ⟨y, rfl⟩ := fin_of h0 h1
  exact (and16_tab y).2.1
theorem and1 (x : Int) (h0 : 0 ≤ x) (h1 : x ≤ 255) : bits .and .u8 x 1 = b2i (bit x 0) := by
  obtain ⟨y, rfl⟩ := fin_of h0 h1
  exact (and16_tab y).2.2.1
theorem resF_is (x : Int) (h0 : 0 ≤ x) (h1 : x ≤ 255) : (if x = 0 then 64 else bits .and .u8 x 168) = resF x := by
  obtain ⟨y, rfl⟩ := fin_of h0 h1
  exact (and16_tab y).2.2.2
/-- The carry into bit 4. -/
theorem half_add (a b q : Int) (h0 : 0 ≤ a) (h1 : a ≤ 255) (h2 : 0 ≤ b) (h3 : b ≤ 255) (h4 : 0 ≤ q) (h5 : q ≤ 1) :
    ((bit a 4 ^^ bit b 4) ^^ bit ((a + b + q) % 256) 4) = decide (a % 16 + b % 16 + q > 15) := by
  cases ha : bit a 4 <;> cases hb : bit b 4 <;> cases hr : bit ((a + b + q) % 256) 4
  all_goals
    first | replace ha := bit_1 ha | replace ha := bit_0 ha
    first | replace hb := bit_1 hb | replace hb := bit_0 hb
    first | replace hr := bit_1 hr | replace hr := bit_0 hr
    simp
    omega
theorem half_sub (a b q : Int) (h0 : 0 ≤ a) (h1 : a ≤ 255) (h2 : 0 ≤ b) (h3 : b ≤ 255) (h4 : 0 ≤ q) (h5 : q ≤ 1) :
    ((bit a 4 ^^ bit b 4) ^^ bit ((a - b - q) % 256) 4) = decide (a % 16 - b % 16 - q < 0) := by
  cases ha : bit a 4 <;> cases hb : bit b 4 <;> cases hr : bit ((a - b - q) % 256) 4
  all_goals
    first | replace ha := bit_1 ha | replace ha := bit_0 ha
    first | replace hb := bit_1 hb | replace hb := bit_0 hb
    first | replace hr := bit_1 hr | replace hr := bit_0 hr
    simp
    omega
theorem over_add (a b q : Int) (h0 : 0 ≤ a) (h1 : a ≤ 255) (h2 : 0 ≤ b) (h3 : b ≤ 255) (h4 : 0 ≤ q) (h5 : q ≤ 1) :
    ((bit a 7 ^^ bit ((a + b + q) % 256) 7) && (bit b 7 ^^ bit ((a + b + q) % 256) 7)) = far (sg a + sg b + q) := by
  cases ha : bit a 7 <;> cases hb : bit b 7 <;> cases hr : bit ((a + b + q) % 256) 7
  all_goals
    first | replace ha := bit_1 ha | replace ha := bit_0 ha
    first | replace hb := bit_1 hb | replace hb := bit_0 hb
    first | replace hr := bit_1 hr | replace hr := bit_0 hr
    unfold far sg
    simp
    split <;> split <;> omega
theorem over_sub (a b q : Int) (h0 : 0 ≤ a) (h1 : a ≤ 255) (h2 : 0 ≤ b) (h3 : b ≤ 255) (h4 : 0 ≤ q) (h5 : q ≤ 1) :
    ((bit a 7 ^^ bit b 7) && (bit a 7 ^^ bit ((a - b - q) % 256) 7)) = far (sg a - sg b - q) := by
  cases ha : bit a 7 <;> cases hb : bit b 7 <;> cases hr : bit ((a - b - q) % 256) 7
  all_goals
    first | replace ha := bit_1 ha | replace ha := bit_0 ha
    first | replace hb := bit_1 hb | replace hb := bit_0 hb
    first | replace hr := bit_1 hr | replace hr := bit_0 hr
    unfold far sg
    simp
    split <;> split <;> omega
theorem or_add : ∀ s z y h x p c : Bool, bits .or .u8 (bits .or .u8 (bits .or .u8 (bits .or .u8 0 (mk s z y false x false false false)) (16 * b2i h)) (4 * b2i p % 256)) (1 * b2i c % 256) = mk s z y h x p false c := by decide +kernel
theorem or_sub : ∀ s z y h x p c : Bool, bits .or .u8 (bits .or .u8 (bits .or .u8 (bits .or .u8 (bits .or .u8 0 (mk s z y false x false false false)) (16 * b2i h)) (4 * b2i p % 256)) 2) (1 * b2i c % 256) = mk s z y h x p true c := by decide +kernel
/-- The flags as the program puts them together. -/
theorem addF_or (a b : Int) (c : Bool) (h0 : 0 ≤ a) (h1 : a ≤ 255) (h2 : 0 ≤ b) (h3 : b ≤ 255) :
    bits .or .u8 (bits .or .u8 (bits .or .u8 (bits .or .u8 0 (resF (addR a b c))) (bits .and .u8 (bits .xor .u8 (bits .xor .u8 a b) (addR a b c)) 16)) (4 * b2i (bits .and .u8 (bits .and .u8 (bits .xor .u8 a (addR a b c)) (bits .xor .u8 b (addR a b c))) 128 != 0) % 256)) (1 * b2i (decide (a + b + b2i c > 255)) % 256) = addF a b c := by
  have hc : 0 ≤ b2i c ∧ b2i c ≤ 1 := by cases c <;> decide
  have r1 := bits_range .xor (bits .xor .u8 a b) (addR a b c)
  have r2 := bits_range .and (bits .xor .u8 a (addR a b c)) (bits .xor .u8 b (addR a b c))
  rw [and16 _ r1.1 r1.2, and128 _ r2.1 r2.2, bit_and _ _ 7 (by omega), bit_xor _ _ 7 (by omega), bit_xor _ _ 7 (by omega), bit_xor _ _ 4 (by omega), bit_xor _ _ 4 (by omega)]
  unfold resF addF addR
  rw [half_add a b (b2i c) h0 h1 h2 h3 hc.1 hc.2, over_add a b (b2i c) h0 h1 h2 h3 hc.1 hc.2, or_add]
theorem subF_or (a b : Int) (c : Bool) (h0 : 0 ≤ a) (h1 : a ≤ 255) (h2 : 0 ≤ b) (h3 : b ≤ 255) :
    bits .or .u8 (bits .or .u8 (bits .or .u8 (bits .or .u8 (bits .or .u8 0 (resF (subR a b c))) (bits .and .u8 (bits .xor .u8 (bits .xor .u8 a b) (subR a b c)) 16)) (4 * b2i (bits .and .u8 (bits .and .u8 (bits .xor .u8 a b) (bits .xor .u8 a (subR a b c))) 128 != 0) % 256)) 2) (1 * b2i (decide (a - b - b2i c < 0)) % 256) = subF a b c := by
  have hc : 0 ≤ b2i c ∧ b2i c ≤ 1 := by cases c <;> decide
  have r1 := bits_range .xor (bits .xor .u8 a b) (subR a b c)
  have r2 := bits_range .and (bits .xor .u8 a b) (bits .xor .u8 a (subR a b c))
  rw [and16 _ r1.1 r1.2, and128 _ r2.1 r2.2, bit_and _ _ 7 (by omega), bit_xor _ _ 7 (by omega), bit_xor _ _ 7 (by omega), bit_xor _ _ 4 (by omega), bit_xor _ _ 4 (by omega)]
  unfold resF subF subR
  rw [half_sub a b (b2i c) h0 h1 h2 h3 hc.1 hc.2, over_sub a b (b2i c) h0 h1 h2 h3 hc.1 hc.2, or_sub]
theorem mk_bits (s z y h x p n c : Bool) : bit (mk s z y h x p n c) 7 = s ∧ bit (mk s z y h x p n c) 6 = z ∧ bit (mk s z y h x p n c) 5 = y ∧ bit (mk s z y h x p n c) 4 = h ∧ bit (mk s z y h x p n c) 3 = x ∧ bit (mk s z y h x p n c) 2 = p ∧ bit (mk s z y h x p n c) 1 = n ∧ bit (mk s z y h x p n c) 0 = c := by
  revert s z y h x p n c
  decide +kernel
/-- A number that is put together of flags: whoever has the same bits is it. -/
theorem mk_eq {v : Int} (h0 : 0 ≤ v) (h1 : v ≤ 255) (s z y h x p n c : Bool) (b7 : bit v 7 = s) (b6 : bit v 6 = z) (b5 : bit v 5 = y) (b4 : bit v 4 = h) (b3 : bit v 3 = x) (b2 : bit v 2 = p) (b1 : bit v 1 = n) (b0 : bit v 0 = c) : v = mk s z y h x p n c := by
  have r := mk_range s z y h x p n c
  obtain ⟨m7, m6, m5, m4, m3, m2, m1, m0⟩ := mk_bits s z y h x p n c
  refine byte_ext h0 h1 r.1 r.2 fun k hk => ?_
  rcases lt8 hk with rfl | rfl | rfl | rfl | rfl | rfl | rfl | rfl
  · rw [b0, m0]
  · rw [b1, m1]
  · rw [b2, m2]
  · rw [b3, m3]
  · rw [b4, m4]
  · rw [b5, m5]
  · rw [b6, m6]
  · rw [b7, m7]
theorem is7 (x : Int) : is x 7 = bit x 7 := is_bit x 7 (by omega)
theorem is6 (x : Int) : is x 6 = bit x 6 := is_bit x 6 (by omega)
theorem is5 (x : Int) : is x 5 = bit x 5 := is_bit x 5 (by omega)
theorem is4 (x : Int) : is x 4 = bit x 4 := is_bit x 4 (by omega)
theorem is3 (x : Int) : is x 3 = bit x 3 := is_bit x 3 (by omega)
theorem is2 (x : Int) : is x 2 = bit x 2 := is_bit x 2 (by omega)
theorem is1 (x : Int) : is x 1 = bit x 1 := is_bit x 1 (by omega)
theorem is0 (x : Int) : is x 0 = bit x 0 := is_bit x 0 (by omega)
/-- Some flags of one byte, the others of another one: by a mask whose bits are known. -/
theorem keep_bit (f old m : Int) (k : Nat) (hk : k < 8) : bit (bits .or .u8 (bits .andNot .u8 f m) (bits .and .u8 old m)) k = if bit m k then bit old k else bit f k := by
  rw [bit_or _ _ k hk, bit_andNot _ _ k hk, bit_and _ _ k hk]
  cases bit m k <;> cases bit f k <;> cases bit old k <;> rfl
theorem keep_lines (f b : Int) : bits .or .u8 (bits .andNot .u8 f 40) (bits .and .u8 b 40) = linesF f b := by
  have r := bits_range .or (bits .andNot .u8 f 40) (bits .and .u8 b 40)
  unfold linesF
  rw [is7, is6, is5, is4, is3, is2, is1, is0]
  refine mk_eq r.1 r.2 _ _ _ _ _ _ _ _ ?_ ?_ ?_ ?_ ?_ ?_ ?_ ?_
  all_goals
    rw [keep_bit _ _ _ _ (by omega)]
    rfl
theorem keep_carry (g f : Int) : bits .or .u8 (bits .andNot .u8 g 1) (bits .and .u8 f 1) = carryF g f := by
  have r := bits_range .or (bits .andNot .u8 g 1) (bits .and .u8 f 1)
  unfold carryF
  rw [is7, is6, is5, is4, is3, is2, is1, is0]
  refine mk_eq r.1 r.2 _ _ _ _ _ _ _ _ ?_ ?_ ?_ ?_ ?_ ?_ ?_ ?_
  all_goals
    rw [keep_bit _ _ _ _ (by omega)]
    rfl
theorem carry_same (g f : Int) : bits .and .u8 (bits .xor .u8 (carryF g f) f) 1 = 0 := by
  have r := bits_range .xor (carryF g f) f
  rw [and1 _ r.1 r.2, bit_xor _ _ 0 (by omega)]
  unfold carryF
  rw [(mk_bits _ _ _ _ _ _ _ _).2.2.2.2.2.2.2, is0]
  cases bit f 0 <;> rfl
theorem carryF_range (g f : Int) : 0 ≤ carryF g f ∧ carryF g f ≤ 255 := mk_range _ _ _ _ _ _ _ _
theorem linesF_range (g f : Int) : 0 ≤ linesF g f ∧ linesF g f ≤ 255 := mk_range _ _ _ _ _ _ _ _
end Go.Proofs.Ytlpoldnidojgmaa.M
