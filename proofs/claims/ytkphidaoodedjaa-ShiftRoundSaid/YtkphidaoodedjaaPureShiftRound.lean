/- The statement ShiftRound over plain numbers: eight turns to the left, nine to the right through carry, three turns of nibbles bring all back. -/
import Derived.Test.YtkphidaoodedjaaPureShift
import Derived.Test.YtkphidaoodedjaaPTx3
namespace Go.Proofs.Ytkphidaoodedjaa.Pure
open Go.RowKit Go.Proofs.Ytkphidaoodedjaa.PT Go.Proofs.YtkphidaoodedjaaW.PrintWords Go.Proofs.YtkphidaoodedjaaW.PrintLast Go.Proofs.YtkphidaoodedjaaW.PrintMore
theorem lap0 (k : Nat) (a b f : Int) : ∀ (n : Nat) (x g : Int), n ≤ 8 → 0 ≤ x → x ≤ 255 → 0 ≤ g → g ≤ 255 → charabanclaw06_ShiftRound.l0 (k + 1 + n) a b f x g (8 - n : Int) = charabanclaw06_ShiftRound.l1 k a b f (M.roll n x) b f 0
  | 0, x, g, _, _, _, _, _ => by
      show charabanclaw06_ShiftRound.l0 (k + 1) a b f x g _ = _
      simp only [charabanclaw06_ShiftRound.l0]
      rw [if_neg (by omega)]
      rfl
  | n + 1, x, g, hn, x0, x1, g0, g1 => by
      have r := M.turnedR_range 0 x g x0 x1
      have d := M.doF_range 0 x g
      have h := lap0 k a b f n (M.turnedR 0 x g) (M.doF 0 x g) (by omega) r.1 r.2 d.1 d.2
      have e : charabanclaw06_ShiftRound.l0 (k + 1 + (n + 1)) a b f x g (8 - ((n + 1 : Nat) : Int)) = charabanclaw06_ShiftRound.l0 (k + 1 + n) a b f (M.turnedR 0 x g) (M.doF 0 x g) (8 - (n : Int)) := by
        show charabanclaw06_ShiftRound.l0 (k + 1 + n + 1) a b f x g _ = _
        simp only [charabanclaw06_ShiftRound.l0]
        rw [if_pos (by omega), do_yes 0 x g rfl x0 x1 g0 g1]
        simp only [Option.bind_some]
        rw [show wrap64 (8 - ((n + 1 : Nat) : Int) + 1) = 8 - (n : Int) by unfold wrap64; omega]
      rw [e, h]
      rfl
theorem lap1 (k : Nat) (a b f q : Int) : ∀ (n : Nat) (y h : Int), n ≤ 9 → 0 ≤ y → y ≤ 255 → 0 ≤ h → h ≤ 255 → ∃ h', charabanclaw06_ShiftRound.l1 (k + 1 + n) a b f q y h (9 - n : Int) = charabanclaw06_ShiftRound.l2 k a b f q (M.rollC n y (M.is h 0)).1 h' a b 0 ∧ M.is h' 0 = (M.rollC n y (M.is h 0)).2
  | 0, y, h, _, _, _, _, _ => ⟨h, by
      show charabanclaw06_ShiftRound.l1 (k + 1) a b f q y h _ = _
      simp only [charabanclaw06_ShiftRound.l1]
      rw [if_neg (by omega)]
      rfl, rfl⟩
  | n + 1, y, h, hn, y0, y1, h0, h1 => by
      have r := M.turnedR_range 3 y h y0 y1
      have d := M.doF_range 3 y h
      obtain ⟨h', e1, e2⟩ := lap1 k a b f q n (M.turnedR 3 y h) (M.doF 3 y h) (by omega) r.1 r.2 d.1 d.2
      have ec : M.is (M.doF 3 y h) 0 = M.is y 0 := by rw [M.doF_is, M.evenC_0]; rfl
      have et : M.turnedR 3 y h = M.rmovedR y false (M.is h 0) := rfl
      rw [ec, et] at e1 e2
      refine ⟨h', ?_, e2⟩
      have e : charabanclaw06_ShiftRound.l1 (k + 1 + (n + 1)) a b f q y h (9 - ((n + 1 : Nat) : Int)) = charabanclaw06_ShiftRound.l1 (k + 1 + n) a b f q (M.turnedR 3 y h) (M.doF 3 y h) (9 - (n : Int)) := by
        show charabanclaw06_ShiftRound.l1 (k + 1 + n + 1) a b f q y h _ = _
        simp only [charabanclaw06_ShiftRound.l1]
        rw [if_pos (by omega), do_yes 3 y h rfl y0 y1 h0 h1]
        simp only [Option.bind_some]
        rw [show wrap64 (9 - ((n + 1 : Nat) : Int) + 1) = 9 - (n : Int) by unfold wrap64; omega]
      rw [e, et]
      exact e1
theorem lap2 (a b f h : Int) (h0 : 0 ≤ a) (h1 : a ≤ 255) (h2 : 0 ≤ b) (h3 : b ≤ 255) (h4 : 0 ≤ f) (h5 : f ≤ 255) (hh : M.is h 0 = M.is f 0) : charabanclaw06_ShiftRound.l2 4 a b f b b h a b 0 = some true := by
  have r1 := (M.dig_range a b h0 h1 h2 h3).2.2
  have r2 := (M.dig_range _ _ r1.1.1 r1.1.2 r1.2.1 r1.2.2).2.2
  have e := M.dig_three a b h0 h1 h2 h3
  simp only [charabanclaw06_ShiftRound.l2]
  rw [if_pos (by decide), digit_right a b f h0 h1 h2 h3 h4 h5]
  simp only [Option.bind_some]
  rw [if_pos (by decide +kernel), digit_right _ _ f r1.1.1 r1.1.2 r1.2.1 r1.2.2 h4 h5]
  simp only [Option.bind_some]
  rw [if_pos (by decide +kernel), digit_right _ _ f r2.1.1 r2.1.2 r2.2.1 r2.2.2 h4 h5]
  simp only [Option.bind_some]
  rw [if_neg (by decide +kernel), if_pos trivial, if_pos trivial, if_pos (M.xor1 _ _ hh), if_pos e.1, e.2]
  simp
theorem ShiftRound : charabanclaw06_ShiftRound.Pure := by
  intro a b f wa wb wf
  have ba := bounds_u8 wa
  have bb := bounds_u8 wb
  have bf := bounds_u8 wf
  refine ⟨23, ?_⟩
  unfold charabanclaw06_ShiftRound.f
  rw [awake06]
  simp only [Option.bind_some, if_true]
  have l := lap0 14 a b f 8 b f (by omega) bb.1 bb.2 bf.1 bf.2
  obtain ⟨h, e1, e2⟩ := lap1 4 a b f (M.roll 8 b) 9 b f (by omega) bb.1 bb.2 bf.1 bf.2
  rw [M.roll8 b bb.1 bb.2] at l e1
  rw [M.rollC9 b _ bb.1 bb.2] at e1 e2
  exact (l.trans e1).trans (lap2 a b f h ba.1 ba.2 bb.1 bb.2 bf.1 bf.2 e2)
end Go.Proofs.Ytkphidaoodedjaa.Pure
