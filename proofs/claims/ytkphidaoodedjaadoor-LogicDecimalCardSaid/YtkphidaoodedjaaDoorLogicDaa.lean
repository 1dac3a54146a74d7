/- The program's decimal correction (logic.Daa) over its laid table, by its contract: nothing that lay before is turned. -/
import Derived.Test.YtkphidaoodedjaaDoorLogic
namespace Go.Proofs.YtkphidaoodedjaaDoor
open Go.RowKit
set_option linter.unusedVariables false

/-- The table's cells, as the text lays them. -/
def Laid (w : World) : Prop := w.cell? ⟨0, 0, none⟩ = some (.int .u8 0) ∧ w.cell? ⟨0, 1, none⟩ = some (.int .u8 6) ∧ w.cell? ⟨0, 2, none⟩ = some (.int .u8 96) ∧ w.cell? ⟨0, 3, none⟩ = some (.int .u8 102) ∧ 0 < w.heap.size
theorem Laid.later {w w' : World} (h : Laid w) (b : Below w.heap.size w w') : Laid w' := by
  obtain ⟨a0, a1, a2, a3, hz⟩ := h
  have k : ∀ i, w'.cell? ⟨0, i, none⟩ = w.cell? ⟨0, i, none⟩ := fun i => b.cell (p := ⟨0, i, none⟩) hz
  exact ⟨(k 0).trans a0, (k 1).trans a1, (k 2).trans a2, (k 3).trans a3, Nat.lt_of_lt_of_le hz b.size⟩
set_option maxHeartbeats 4000000 in
theorem daa_walk (a f : Int) (h0 : 0 ≤ a) (h1 : a ≤ 255) (h2 : 0 ≤ f) (h3 : f ≤ 255) (p l c g n : Bool) (hp : (bits .and .u8 f 16 != 0) = p) (hl : decide (9 < a % 16) = l) (hc : (bits .and .u8 f 1 != 0) = c) (hg : decide (153 < a) = g) (hn : (bits .and .u8 f 2 != 0) = n)
    (w : World) (L : Laid w) : Calls Tryd.prog 16 #[.int .u8 a, .int .u8 f] w fun e w' =>
      e = .returned (.tuple #[.int .u8 (M.dR n (M.dBy p l c g) a), .int .u8 (M.dF a (M.dR n (M.dBy p l c g) a) (M.is f 1) (c || g))]) ∧ Below w.heap.size w w' := by
  obtain ⟨a0, a1, a2, a3, _⟩ := L
  have b1 : bits .or .i64 0 1 = 1 := by decide +kernel
  have b2 : bits .or .i64 0 2 = 2 := by decide +kernel
  have b3 : bits .or .i64 1 2 = 3 := by decide +kernel
  have c0 : bits .and .i64 0 2 = 0 := by decide +kernel
  have c1 : bits .and .i64 1 2 = 0 := by decide +kernel
  have c2 : bits .and .i64 2 2 = 2 := by decide +kernel
  have c3 : bits .and .i64 3 2 = 2 := by decide +kernel
  obtain ⟨X, hX⟩ : ∃ X, M.dR n (M.dBy p l c g) a = X := ⟨_, rfl⟩
  have hf := M.dF_or a X f h2 h3
  rw [hX]
  have Hf := Lib.hid hf
  have HX := Lib.hid hX
  clear hf hX
  cases p <;> cases l <;> cases c <;> cases g <;> cases n
  all_goals
    go_enter Tryd.func16, Tryd.ntmps16
    go_wp2_with fail
    refine (flagseven_any _ (by omega) (by omega) _).mono ?_
    rintro e w1 ⟨rfl, hb1⟩
    go_wp2_with fail
    go_returns
    have hX := HX.out
    simp only [M.dR, M.dBy, Bool.or_self, Bool.or_false, Bool.or_true, Bool.false_eq_true, if_true, if_false, Int.add_zero, Int.sub_zero, Int.zero_add, Int.reduceAdd] at hX
    first
      | (subst hX; first | exact ⟨ret2 rfl Hf.out.1, hb1⟩ | exact ⟨ret2 rfl Hf.out.2, hb1⟩)
      | (rw [Int.emod_eq_of_lt h0 (by omega)] at hX; subst hX; first | exact ⟨ret2 rfl Hf.out.1, hb1⟩ | exact ⟨ret2 rfl Hf.out.2, hb1⟩)
theorem daa_any (a f : Int) (h0 : 0 ≤ a) (h1 : a ≤ 255) (h2 : 0 ≤ f) (h3 : f ≤ 255) (w : World) (L : Laid w) : Calls Tryd.prog 16 #[.int .u8 a, .int .u8 f] w fun e w' =>
      e = .returned (.tuple #[.int .u8 (M.daaR a f), .int .u8 (M.daaF a f)]) ∧ Below w.heap.size w w' := by
  have m := M.masks f h2 h3
  exact daa_walk a f h0 h1 h2 h3 (M.is f 4) (decide (9 < a % 16)) (M.is f 0) (decide (153 < a)) (M.is f 1) m.1 rfl m.2.1 rfl m.2.2.1 w L
end Go.Proofs.YtkphidaoodedjaaDoor
