/- Plain numbers: flags of and, or, xor; the decimal correction. No Go, no memory. -/
import Derived.Handy
import Derived.Test.YtkphidaoodedjaaDoorMath6
namespace Go.Proofs.YtkphidaoodedjaaDoor.M
open Go
set_option linter.unusedVariables false

/-- A result's flags, H as it is told. -/
def logF (r : Int) (h : Bool) : Int := mk (is r 7) (r == 0) (is r 5) h (is r 3) (evenB r) false false
theorem logF_range (r : Int) (h : Bool) : 0 ≤ logF r h ∧ logF r h ≤ 255 := mk_range _ _ _ _ _ _ _ _
theorem or16_tab : ∀ s z y x p : Bool, bits .or .u8 (mk s z y false x p false false) 16 = mk s z y true x p false false ∧ bits .or .u8 (mk s z y false x p false false) 0 = mk s z y false x p false false
    ∧ withB (mk s z y false x p false false) 4 true = mk s z y true x p false false := by decide +kernel
theorem or16 (r : Int) : bits .or .u8 (evenF r) 16 = logF r true := (or16_tab _ _ _ _ _).1
theorem or0 (r : Int) : bits .or .u8 (evenF r) 0 = logF r false := (or16_tab _ _ _ _ _).2.1
theorem with16 (r : Int) : withB (evenF r) 4 true = logF r true := (or16_tab _ _ _ _ _).2.2
theorem res4 : ∀ s z y x : Bool, bits .or .u8 (mk s z y false x false false false) 4 = mk s z y false x true false false := by decide +kernel
theorem masks_fin : ∀ n : Fin 256, (bits .and .u8 (n.val : Int) 16 != 0) = is (n.val : Int) 4 ∧ (bits .and .u8 (n.val : Int) 1 != 0) = is (n.val : Int) 0 ∧ (bits .and .u8 (n.val : Int) 2 != 0) = is (n.val : Int) 1 ∧ bits .and .u8 (n.val : Int) 15 = (n.val : Int) % 16
    ∧ bits .and .u8 (n.val : Int) 2 = mk false false false false false false (is (n.val : Int) 1) false ∧ bits .and .u8 (n.val : Int) 16 = mk false false false (is (n.val : Int) 4) false false false false := by decide +kernel
theorem masks (n : Int) (h0 : 0 ≤ n) (h1 : n ≤ 255) : (bits .and .u8 n 16 != 0) = is n 4 ∧ (bits .and .u8 n 1 != 0) = is n 0 ∧ (bits .and .u8 n 2 != 0) = is n 1 ∧ bits .and .u8 n 15 = n % 16
    ∧ bits .and .u8 n 2 = mk false false false false false false (is n 1) false ∧ bits .and .u8 n 16 = mk false false false (is n 4) false false false false := by
  obtain ⟨x, rfl⟩ := fin_of h0 h1
  exact masks_fin x
/-- What a correction adds or takes, from the four questions. -/
def dBy (p l c g : Bool) : Int := (if p || l then 6 else 0) + (if c || g then 96 else 0)
def dR (n : Bool) (y a : Int) : Int := if n then (a - y) % 256 else (a + y) % 256
theorem dR_range (n : Bool) (y a : Int) : 0 ≤ dR n y a ∧ dR n y a ≤ 255 := by unfold dR; split <;> omega
def daaBy (a f : Int) : Int := dBy (is f 4) (decide (9 < a % 16)) (is f 0) (decide (153 < a))
def daaR (a f : Int) : Int := dR (is f 1) (daaBy a f) a
def dF (a r : Int) (n c : Bool) : Int := mk (is r 7) (r == 0) (is r 5) (is a 4 != is r 4) (is r 3) (evenB r) n c
def daaF (a f : Int) : Int := dF a (daaR a f) (is f 1) (is f 0 || decide (153 < a))
theorem daaR_range (a f : Int) : 0 ≤ daaR a f ∧ daaR a f ≤ 255 := dR_range _ _ _
theorem daaF_range (a f : Int) : 0 ≤ daaF a f ∧ daaF a f ≤ 255 := mk_range _ _ _ _ _ _ _ _
theorem dF_tab : ∀ s z y x p n h : Bool, bits .or .u8 (bits .or .u8 (mk s z y false x p false false) (mk false false false false false false n false)) (mk false false false h false false false false) = mk s z y h x p n false
    ∧ bits .or .u8 (bits .or .u8 (bits .or .u8 (mk s z y false x p false false) (mk false false false false false false n false)) (mk false false false h false false false false)) 1 = mk s z y h x p n true := by decide +kernel
theorem dF_or (a r f : Int) (h0 : 0 ≤ f) (h1 : f ≤ 255) : bits .or .u8 (bits .or .u8 (evenF r) (bits .and .u8 f 2)) (bits .and .u8 (bits .xor .u8 a r) 16) = dF a r (is f 1) false
    ∧ bits .or .u8 (bits .or .u8 (bits .or .u8 (evenF r) (bits .and .u8 f 2)) (bits .and .u8 (bits .xor .u8 a r) 16)) 1 = dF a r (is f 1) true := by
  have rx := bits_range .xor a r
  have hx : is (bits .xor .u8 a r) 4 = (is a 4 != is r 4) := by rw [is4, bit_xor _ _ 4 (by omega), is4, is4]
  rw [(masks f h0 h1).2.2.2.2.1, (masks _ rx.1 rx.2).2.2.2.2.2, hx]
  exact dF_tab _ _ _ _ _ _ _
/-- Two bytes, bit by bit: what stands when k bits are done. -/
def afold (o : Bool → Bool → Bool) (u v : Int) : Nat → Int
  | 0 => 0
  | k + 1 => withB (afold o u v k) k (o (is u k) (is v k))
theorem afold_range (o : Bool → Bool → Bool) (u v : Int) : ∀ k, 0 ≤ afold o u v k ∧ afold o u v k ≤ 255
  | 0 => ⟨by simp [afold], by simp [afold]⟩
  | k + 1 => with_range _ _ _ (afold_range o u v k).1 (afold_range o u v k).2
theorem one_tab : ∀ n j : Fin 8, bit (IntKind.u8.wrap (1 * 2 ^ n.val)) j.val = decide (j = n) := by decide +kernel
theorem with_bit (b : Int) (n : Nat) (on : Bool) (hn : n < 8) (j : Nat) (hj : j < 8) : bit (withB b n on) j = if j = n then on else bit b j := by
  have h1 := one_tab ⟨n, hn⟩ ⟨j, hj⟩
  have hm : may (n : Int) = true := by simp [may]; omega
  simp only [Fin.mk.injEq] at h1
  unfold withB
  rw [if_pos hm, Int.toNat_natCast]
  cases on
  · simp only [Bool.false_eq_true, if_false]
    rw [bit_andNot _ _ j hj, h1]
    by_cases e : j = n <;> simp [e]
  · simp only [if_true]
    rw [bit_or _ _ j hj, h1]
    by_cases e : j = n <;> simp [e]
theorem zero_bit : ∀ j : Fin 8, bit 0 j.val = false := by decide +kernel
theorem afold_bit (o : Bool → Bool → Bool) (u v : Int) : ∀ (k : Nat), k ≤ 8 → ∀ j, j < 8 → bit (afold o u v k) j = if j < k then o (bit u j) (bit v j) else false
  | 0, _, j, hj => by simpa [afold] using zero_bit ⟨j, hj⟩
  | k + 1, hk, j, hj => by
    show bit (withB (afold o u v k) k _) j = _
    rw [with_bit _ k _ (by omega) j hj, is_bit _ _ (by omega), is_bit _ _ (by omega), afold_bit o u v k (by omega) j hj]
    by_cases e : j = k
    · subst e; simp
    · rw [if_neg e]
      by_cases l : j < k
      · rw [if_pos l, if_pos (by omega)]
      · rw [if_neg l, if_neg (by omega)]
theorem afold_and (u v : Int) : afold and u v 8 = bits .and .u8 u v := by
  refine byte_ext (afold_range _ _ _ _).1 (afold_range _ _ _ _).2 (bits_range _ _ _).1 (bits_range _ _ _).2 fun j hj => ?_
  rw [afold_bit _ _ _ 8 (by omega) j hj, if_pos hj, bit_and _ _ j hj]
theorem afold_or (u v : Int) : afold or u v 8 = bits .or .u8 u v := by
  refine byte_ext (afold_range _ _ _ _).1 (afold_range _ _ _ _).2 (bits_range _ _ _).1 (bits_range _ _ _).2 fun j hj => ?_
  rw [afold_bit _ _ _ 8 (by omega) j hj, if_pos hj, bit_or _ _ j hj]
theorem afold_xor (u v : Int) : afold (fun x y => x != y) u v 8 = bits .xor .u8 u v := by
  refine byte_ext (afold_range _ _ _ _).1 (afold_range _ _ _ _).2 (bits_range _ _ _).1 (bits_range _ _ _).2 fun j hj => ?_
  rw [afold_bit _ _ _ 8 (by omega) j hj, if_pos hj, bit_xor _ _ j hj]
end Go.Proofs.YtkphidaoodedjaaDoor.M
