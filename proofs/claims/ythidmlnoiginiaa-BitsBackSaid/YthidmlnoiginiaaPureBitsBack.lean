/- The statement BitsBack over plain numbers: a word is its two bytes; what is turned there and back is as it was; a bit that is set and then isn't is as if it never was. -/
import Derived.Test.YthidmlnoiginiaaPureRef01
import Derived.Test.YthidmlnoiginiaaPureBitsWords
import Derived.Test.YthidmlnoiginiaaPBx3
namespace Go.Proofs.Ythidmlnoiginiaa.Pure
open Go.RowKit Go.Proofs.Ythidmlnoiginiaa.PB Go.Proofs.YthidmlnoiginiaaW.PrintWords Go.Proofs.YthidmlnoiginiaaW.PrintLast Go.Proofs.YthidmlnoiginiaaW.PrintMore
theorem set_tab : ∀ b : Fin 256, ∀ n : Fin 8, (M.is (M.withB b.val n.val true) n.val = true ∧ M.is (M.withB b.val n.val false) n.val = false ∧ M.withB (M.withB b.val n.val true) n.val false = M.withB b.val n.val false
    ∧ (M.withB b.val n.val true - M.withB b.val n.val false) % 256 = turnF 1 n.val) ∧ (0 ≤ M.withB b.val n.val true ∧ M.withB b.val n.val true ≤ 255) ∧ (0 ≤ M.withB b.val n.val false ∧ M.withB b.val n.val false ≤ 255) := by decide +kernel
theorem turn_back : ∀ b : Fin 256, ∀ r : Fin 8, turnF (turnF b.val r.val) ((8 - (r.val : Int)) % 8) = b.val ∧ M.evenB (turnF b.val r.val) = M.evenB b.val ∧ (0 ≤ turnF b.val r.val ∧ turnF b.val r.val ≤ 255) := by decide +kernel
theorem one_tab : ∀ b : Fin 256, turnF b.val 0 = b.val ∧ (∃ s, bits_Signed.f (b.val : Int) = some s ∧ s % 256 = b.val) := by
  have h : ∀ b : Fin 256, turnF b.val 0 = b.val ∧ ((bits_Signed.f (b.val : Int)).map (fun s => s % 256)) = some (b.val : Int) := by decide +kernel
  intro b
  refine ⟨(h b).1, ?_⟩
  obtain ⟨s, hs, h2⟩ := Option.map_eq_some_iff.1 (h b).2
  exact ⟨s, hs, h2⟩
theorem back_end (k : Nat) (w n : Int) (b : Fin 256) (hb : w % 256 = b.val) (hw : 0 ≤ w ∧ w ≤ 65535) : charabanclaw01_BitsBack.j0 (k + 1) w b.val (n % 1024) (turnF b.val (n % 8)) false = some true := by
  simp only [charabanclaw01_BitsBack.j0, bits_Hi.f, bits_Lo.f, bits_Word.f, Option.bind_some]
  rw [if_neg (by decide), word_is _ _ (by omega) (by omega) (by omega) (by omega), if_pos (by omega)]
  obtain ⟨r, hr⟩ := fin8_of (n := n % 8) (by omega) (by omega)
  obtain ⟨t1, t2, t3⟩ := turn_back b r
  obtain ⟨o1, s, hs, o2⟩ := one_tab b
  rw [bits_turn, show wrap64 (-(n % 1024)) % 8 = (8 - (r.val : Int)) % 8 by unfold wrap64; omega, hr]
  simp only [Option.bind_some]
  rw [t1, if_pos rfl, bits_turn, show (8 : Int) % 8 = 0 by decide]
  simp only [Option.bind_some]
  rw [o1, if_pos rfl]
  unfold bits_Even.f
  rw [if_pos t3, if_pos (by omega), t2, hs]
  simp [o2]
theorem BitsBack : charabanclaw01_BitsBack.Pure := by
  intro w n m ww _ _
  have bw := bounds_u16 ww
  refine ⟨1, ?_⟩
  unfold charabanclaw01_BitsBack.f
  rw [awake01]
  simp only [Option.bind_some, if_true, bits_Lo.f]
  obtain ⟨b, hb⟩ := fin_of (a := w % 256) (by omega) (by omega)
  rw [hb, i64_and1023, bits_turn, bits_with, bits_with, show n % 1024 % 8 = n % 8 by omega]
  simp only [Option.bind_some]
  by_cases hm : 0 ≤ m ∧ m ≤ 7
  · obtain ⟨q, hq⟩ := fin8_of hm.1 hm.2
    rw [if_pos hm.1, if_pos hm.2, hq]
    obtain ⟨⟨s1, s2, s3, s4⟩, s5, s6⟩ := set_tab b q
    rw [bits_is _ _ s5.1 s5.2, s1]
    simp only [Option.bind_some, if_true]
    rw [bits_is _ _ s6.1 s6.2, s2]
    simp only [Option.bind_some]
    rw [if_neg (by decide), bits_with]
    simp only [Option.bind_some]
    rw [s3, if_pos rfl, bits_turn, show (q.val : Int) % 8 = q.val by omega]
    simp only [Option.bind_some]
    rw [s4, bne_self_eq_false]
    exact back_end 0 w n b hb bw
  · by_cases h : m ≥ 0
    · rw [if_pos h, if_neg (by omega)]
      exact back_end 0 w n b hb bw
    · rw [if_neg h]
      exact back_end 0 w n b hb bw
end Go.Proofs.Ythidmlnoiginiaa.Pure
