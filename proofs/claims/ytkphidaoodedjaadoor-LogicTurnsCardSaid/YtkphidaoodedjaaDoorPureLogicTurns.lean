/- The statement LogicTurns over plain numbers: the complement, the decimal correction, the carry set and turned, are the reference's. -/
import Derived.Test.YtkphidaoodedjaaDoorPureLogic
import Derived.Test.YtkphidaoodedjaaDoorPLx2
namespace Go.Proofs.YtkphidaoodedjaaDoor.Pure
open Go.RowKit Go.Proofs.YtkphidaoodedjaaDoor.PL Go.Proofs.YtkphidaoodedjaaDoorW.PrintWords Go.Proofs.YtkphidaoodedjaaDoorW.PrintLast Go.Proofs.YtkphidaoodedjaaDoorW.PrintMore
theorem scf_tab : ∀ s z y h x p n c : Bool, Go.bits .or .u8 (Go.bits .andNot .u8 (M.mk s z y h x p n c) 18) 1 = M.mk s z y false x p false true := by decide +kernel
theorem ccf_tab : ∀ s z y x p : Bool, Go.bits .or .u8 (Go.bits .andNot .u8 (M.mk s z y false x p false true) 1) 16 = M.mk s z y true x p false false := by decide +kernel
theorem scf_is (a f : Int) : logic_Scf.f a f = some (M.scfF a f) := by
  unfold logic_Scf.f flags_Keep.f
  simp only [Option.bind_some]
  rw [M.keep_lines, show Go.bits .or .u8 (Go.bits .andNot .u8 (M.linesF f a) 18) 1 = M.scfF a f from scf_tab _ _ _ _ _ _ _ _]
theorem ccf_is (a f : Int) (h0 : 0 ≤ f) (h1 : f ≤ 255) : logic_Ccf.f a f = some (M.ccfF a f) := by
  have m := (M.masks f h0 h1).2.1
  unfold logic_Ccf.f
  rw [scf_is]
  simp only [Option.bind_some]
  unfold M.ccfF M.scfF
  cases hc : M.is f 0
  · rw [hc] at m
    rw [if_pos (by simpa using m)]
    rfl
  · rw [hc] at m
    rw [if_neg (by simpa using m), ccf_tab]
    rfl
theorem LogicTurns : charabanclaw05_LogicTurns.Pure := by
  intro a f wa wf
  have ba := bounds_u8 wa
  have bf := bounds_u8 wf
  unfold charabanclaw05_LogicTurns.f
  rw [awake05, scf_is, ccf_is a f bf.1 bf.2]
  unfold logic_Cpl.f charabancref05_Cpl.f logic_Daa.f charabancref05_Daa.f charabancref05_Scf.f charabancref05_Ccf.f
  simp only [if_pos (show (0 ≤ a ∧ a ≤ 255) ∧ (0 ≤ f ∧ f ≤ 255) from ⟨ba, bf⟩), Option.bind_some, if_true, beq_self_eq_true]
end Go.Proofs.YtkphidaoodedjaaDoor.Pure
