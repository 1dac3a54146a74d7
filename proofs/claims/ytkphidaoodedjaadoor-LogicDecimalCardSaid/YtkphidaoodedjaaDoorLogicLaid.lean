/- What the rows' listed variable (logic.right) gives the walks: its four cells; the door's own heap meets the condition. -/
import Derived.Test.YtkphidaoodedjaaDoorRows
import Derived.Test.YtkphidaoodedjaaDoorLogicDaa
import Derived.ProofKit
import Derived.LaidMore
import Derived.OpenShut
import Derived.Stop.Joined
namespace Go.Proofs.YtkphidaoodedjaaDoor
open Go.ChangeShapes Go.WideShapes Go.ChangeAt Go.RowKit
set_option linter.unusedVariables false

def laidL {H : Type} : List (String × DataW H) := [("charabanc/logic.right", Rows.laid_charabanc_logic_right)]
theorem gRight : Tryd.prog.globalNamed "charabanc/logic.right" = some 0 := by kernel_rfl
theorem tRight : (Tryd.prog.globals[0]?).map (·.type) = some 38 := by kernel_rfl
theorem uRight : Tryd.prog.underlying 38 = some (.array 4 5) := by kernel_rfl
/-- The door's own heap meets the condition. -/
theorem door_met (os : Os) (args : Array Value) : laidMetH Tryd.prog laidL ((World.doorLaid Tryd.prog 400 os).forCall (fun _ _ => 0) ⟨#[], args, []⟩).memory :=
  laidMetH_of_parts3 (fuel := 8) (laidMet_of_run' 8 (by kernel_rfl) (by kernel_rfl)) (by kernel_rfl) (by kernel_rfl)
theorem of_laid {W : World} (h : laidMetH Tryd.prog laidL W) : Laid W := by
  rw [MakeChecks.laidMetH_plain _ _ _ (by kernel_rfl)] at h
  obtain ⟨ps, ⟨g0, t0, cs0, f0, p0, q0, hg0, ht0, hv0, hd0, _, _⟩, _, _⟩ := h
  obtain rfl := Option.some.inj (gRight.symm.trans hg0)
  obtain rfl := Option.some.inj (tRight.symm.trans ht0)
  have c5 : Tryd.prog.cellsOf 5 = 1 := by kernel_rfl
  have c38 : Tryd.prog.cellsOf 38 = 4 := by kernel_rfl
  obtain ⟨xs, m1, rfl, hx1, hlen, hn3, hel⟩ := DataW.trod_array uRight hd0
  rw [c38] at hlen
  rw [c5] at hel
  have v0 := World.var?_cell hg0 hv0 0
  have v1 := World.var?_cell hg0 hv0 1
  have v2 := World.var?_cell hg0 hv0 2
  have v3 := World.var?_cell hg0 hv0 3
  obtain ⟨l⟩ := cs0
  match l, hlen, xs, hn3, hx1, hel with
  | [a0, a1, a2, a3], _, [x0, x1, x2, x3], _, hx1, hel =>
    simp only [Rows.laid_charabanc_logic_right, Prod.mk.injEq, DataW.agg.injEq, List.map_cons, List.map_nil, List.cons.injEq] at hx1
    obtain ⟨⟨y0, y1, y2, y3, _⟩, _⟩ := hx1
    have take (i : Nat) (a : Value) (x : DataW Unit × List MemPlace) (n : Int) (h : DataW.trod (fun _ => ()) Tryd.prog W 0 (fun _ => true) false m1 5 [a] = some x) (hy : .lit (.int .u8 n) = x.1) : a = .int .u8 n := by
      obtain ⟨k, e1, e2, _⟩ := DataW.trod_int Tryd.underlying5 h
      rw [e2] at hy
      simp only [DataW.lit.injEq, Lit.int.injEq, true_and] at hy
      simp only [List.cons.injEq, and_true] at e1
      rw [e1, hy]
    have r0 := take 0 a0 x0 0 (hel 0 (by decide)) y0
    have r1 := take 1 a1 x1 6 (hel 1 (by decide)) y1
    have r2 := take 2 a2 x2 96 (hel 2 (by decide)) y2
    have r3 := take 3 a3 x3 102 (hel 3 (by decide)) y3
    subst r0 r1 r2 r3
    exact ⟨v0, v1, v2, v3, World.block_lt_of_cell? _ _ v0⟩
end Go.Proofs.YtkphidaoodedjaaDoor
