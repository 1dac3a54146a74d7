/- The statement LogicDecimal over plain numbers: sums and differences of decimal digits, put right, are decimal. -/
import Derived.Test.YtkphidaoodedjaaDoorPDx2
import Derived.Test.YtkphidaoodedjaaDoorMathDecimal
import Derived.OpenShut
namespace Go.Proofs.YtkphidaoodedjaaDoor.Pure
open Go.RowKit Go.Proofs.YtkphidaoodedjaaDoor.PD Go.Proofs.YtkphidaoodedjaaDoorW.PrintWords Go.Proofs.YtkphidaoodedjaaDoorW.PrintLast Go.Proofs.YtkphidaoodedjaaDoorW.PrintMore
theorem awake05d : charabanclaw05_awake.f = some true := by decide +kernel
theorem bcd_is (x : Int) (h0 : 0 ≤ x) (h1 : x ≤ 255) : (wrap64 ((wrap64 ((wrap64 (Int.tdiv (Int.tmod (wrap64 x) 100) 10)) * 16)) + (Int.tmod (wrap64 x) 10))) % 256 = M.bcd (x % 100) := by
  have e : wrap64 x = x := by unfold wrap64; omega
  rw [e, Int.tmod_eq_emod_of_nonneg h0, Int.tmod_eq_emod_of_nonneg h0, Int.tdiv_eq_ediv_of_nonneg (by omega)]
  unfold wrap64 M.bcd
  omega
theorem dec_is (d : Int) (h0 : 0 ≤ d) (h1 : d ≤ 255) : wrap64 ((((Int.tdiv d 16) % 256) * 10) + (wrap64 (Int.tmod d 16))) = M.dec d := by
  have q1 : 0 ≤ d / 16 ∧ d / 16 ≤ 15 := by omega
  have q2 : wrap64 (d % 16) = d % 16 := by unfold wrap64; omega
  rw [Int.tdiv_eq_ediv_of_nonneg h0, Int.tmod_eq_emod_of_nonneg h0, q2, show d / 16 % 256 = d / 16 by omega]
  unfold M.dec
  have q3 : 0 ≤ d % 16 ∧ d % 16 ≤ 15 := by omega
  generalize d / 16 = u at *
  generalize d % 16 = v at *
  unfold wrap64
  omega
theorem low_is (g : Int) (h0 : 0 ≤ g) (h1 : g ≤ 255) : ((Go.bits .and .u8 g 1) == 1) = M.is g 0 := by
  rw [M.and1 g h0 h1, ← M.is0]
  cases M.is g 0 <;> rfl
theorem LogicDecimal : charabanclaw05_LogicDecimal.Pure := by
  intro x y c wx wy
  have bx := bounds_u8 wx
  have byy := bounds_u8 wy
  have ex : Int.tmod (wrap64 x) 100 = x % 100 := by rw [show wrap64 x = x by unfold wrap64; omega, Int.tmod_eq_emod_of_nonneg bx.1]
  have ey : Int.tmod (wrap64 y) 100 = y % 100 := by rw [show wrap64 y = y by unfold wrap64; omega, Int.tmod_eq_emod_of_nonneg byy.1]
  have p := M.plus_is (x % 100) (y % 100) c (by omega) (by omega) (by omega) (by omega)
  have l := M.less_is (x % 100) (y % 100) c (by omega) (by omega) (by omega) (by omega)
  refine ⟨2, ?_⟩
  unfold charabanclaw05_LogicDecimal.f
  rw [awake05d, bcd_is x bx.1 bx.2, bcd_is y byy.1 byy.2, ex, ey]
  have m0 : 0 ≤ x % 100 ∧ x % 100 ≤ 99 := by omega
  have n0 : 0 ≤ y % 100 ∧ y % 100 ≤ 99 := by omega
  generalize x % 100 = m at *
  generalize y % 100 = n at *
  have a0 : 0 ≤ M.bcd m ∧ M.bcd m ≤ 255 := by unfold M.bcd; omega
  have b0 : 0 ≤ M.bcd n ∧ M.bcd n ≤ 255 := by unfold M.bcd; omega
  have r1 := M.addR_range (M.bcd m) (M.bcd n) c
  have r2 := M.addF_range (M.bcd m) (M.bcd n) c
  have s1 := M.subR_range (M.bcd m) (M.bcd n) c
  have s2 := M.subF_range (M.bcd m) (M.bcd n) c
  have d1 := M.daaR_range (M.addR (M.bcd m) (M.bcd n) c) (M.addF (M.bcd m) (M.bcd n) c)
  have d2 := M.daaF_range (M.addR (M.bcd m) (M.bcd n) c) (M.addF (M.bcd m) (M.bcd n) c)
  have e1 := M.daaR_range (M.subR (M.bcd m) (M.bcd n) c) (M.subF (M.bcd m) (M.bcd n) c)
  have e2 := M.daaF_range (M.subR (M.bcd m) (M.bcd n) c) (M.subF (M.bcd m) (M.bcd n) c)
  unfold charabancref03_Add.f logic_Daa.f
  rw [if_pos ⟨a0, b0⟩]
  simp only [Option.bind_some, if_true]
  rw [if_pos ⟨r1, r2⟩]
  simp only [Option.bind_some, charabanclaw05_LogicDecimal.j0, charabanclaw05_LogicDecimal.j1, charabancref03_Sub.f, logic_Daa.f, if_pos (show (0 ≤ M.bcd m ∧ M.bcd m ≤ 255) ∧ (0 ≤ M.bcd n ∧ M.bcd n ≤ 255) from ⟨a0, b0⟩),
    if_pos (show (0 ≤ M.subR (M.bcd m) (M.bcd n) c ∧ M.subR (M.bcd m) (M.bcd n) c ≤ 255) ∧ (0 ≤ M.subF (M.bcd m) (M.bcd n) c ∧ M.subF (M.bcd m) (M.bcd n) c ≤ 255) from ⟨s1, s2⟩)]
  rw [dec_is _ d1.1 d1.2, dec_is _ e1.1 e1.2, low_is _ d2.1 d2.2, low_is _ e2.1 e2.2, p.1, p.2, l.1, l.2]
  cases c
  · have q1 : wrap64 (m + n) = m + n := by unfold wrap64; omega
    have q2 : wrap64 (m - n) = m - n := by unfold wrap64; omega
    have q3 : wrap64 (m - n + 100) = m - n + 100 := by unfold wrap64; omega
    simp [q1, q2, q3, M.b2i, Int.tmod_eq_emod_of_nonneg (show 0 ≤ m + n by omega), Int.tmod_eq_emod_of_nonneg (show 0 ≤ m - n + 100 by omega)]
  · have q1 : wrap64 (wrap64 (m + n) + 1) = m + n + 1 := by unfold wrap64; omega
    have q2 : wrap64 (wrap64 (m - n) - 1) = m - n - 1 := by unfold wrap64; omega
    have q3 : wrap64 (m - n - 1 + 100) = m - n - 1 + 100 := by unfold wrap64; omega
    simp [q1, q2, q3, M.b2i, Int.tmod_eq_emod_of_nonneg (show 0 ≤ m + n + 1 by omega), Int.tmod_eq_emod_of_nonneg (show 0 ≤ m - n - 1 + 100 by omega)]
end Go.Proofs.YtkphidaoodedjaaDoor.Pure
