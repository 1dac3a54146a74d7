/- What a DMA was told, in one box: the types' sizes, the zero values, one cell turned. -/
import Derived.Test.YtlpoldnidojgmaaRgWord
import Derived.Test.YtlpoldnidojgmaaSlApp
namespace Go.Proofs.Ytlpoldnidojgmaa
open Go.RowKit
set_option linter.unusedVariables false
set_option maxRecDepth 100000
theorem sc3 : Scalar Try.prog 3 := ⟨⟨_, Try.underlying3, rfl⟩, by kernel_rfl⟩
theorem sc4 : Scalar Try.prog 4 := ⟨⟨_, Try.underlying4, rfl⟩, by kernel_rfl⟩
theorem sc5 : Scalar Try.prog 5 := ⟨⟨_, Try.underlying5, rfl⟩, by kernel_rfl⟩
theorem scW : Scalar Try.prog 56 := ⟨⟨_, Try.underlying56, rfl⟩, by kernel_rfl⟩
theorem scS : Scalar Try.prog 57 := ⟨⟨_, Try.underlying57, rfl⟩, by kernel_rfl⟩
theorem scP : Scalar Try.prog 100 := ⟨⟨_, Try.underlying100, rfl⟩, by kernel_rfl⟩
theorem scT (T : TypeId) (h : (T == 3 || T == 4 || T == 5 || T == 56 || T == 57 || T == 100) = true) : Scalar Try.prog T := by
  simp only [Bool.or_eq_true, beq_iff_eq] at h
  rcases h with ((((rfl | rfl) | rfl) | rfl) | rfl) | rfl
  · exact sc3
  · exact sc4
  · exact sc5
  · exact scW
  · exact scS
  · exact scP
def nilS : Value := .slice none 0 0
theorem rgZ (w : World) : (zeroValue 59).run Try.prog w = .ok (.agg (M.rZero.c nilS)) w := Try.zeroValue59 w
theorem rrgZ (w : World) : (zeroValue 62).run Try.prog w = .ok (.agg (M.rZero.c nilS)) w := Try.zeroValue62 w
theorem rgI : (Try.prog.info? 59).map (·.size) = some 24 := by kernel_rfl
theorem rrgI : (Try.prog.info? 62).map (·.size) = some 24 := by kernel_rfl
theorem rg_one (r : M.Rg) (A : Option Addr) (m c : Nat) : (r.c (.slice A m c)).all (·.oneCell') = true := by simp [M.Rg.c, M.Rg.v, Value.oneCell']
theorem rg_oneS (r : M.Rg) (s : Value) (h : ∃ A m c, s = .slice A m c) : (r.c s).all (·.oneCell') = true := by
  obtain ⟨A, m, c, rfl⟩ := h
  exact rg_one _ _ _ _
theorem rg_eq {r r' : M.Rg} {s : Value} (h : r = r') : Value.agg (r.c s) = .agg (r'.c s) := by rw [h]
theorem rg_ss : (∀ (x : M.Rg) (s : Value) (v : Int), (x.c s).setIfInBounds 0 (.int .i64 v) = ({ x with cls := v } : M.Rg).c s) ∧ (∀ (x : M.Rg) (s : Value) (v : Bool), (x.c s).setIfInBounds 1 (.bool v) = ({ x with atob := v } : M.Rg).c s) ∧ (∀ (x : M.Rg) (s : Value) (v : Int), (x.c s).setIfInBounds 2 (.int .u16 v) = ({ x with a := v } : M.Rg).c s) ∧ (∀ (x : M.Rg) (s : Value) (v : Int), (x.c s).setIfInBounds 3 (.int .u16 v) = ({ x with b := v } : M.Rg).c s) ∧ (∀ (x : M.Rg) (s : Value) (v : Int), (x.c s).setIfInBounds 4 (.int .u16 v) = ({ x with len := v } : M.Rg).c s) ∧ (∀ (x : M.Rg) (s : Value) (v : Bool), (x.c s).setIfInBounds 5 (.bool v) = ({ x with aio := v } : M.Rg).c s) ∧ (∀ (x : M.Rg) (s : Value) (v : Bool), (x.c s).setIfInBounds 6 (.bool v) = ({ x with bio := v } : M.Rg).c s) ∧ (∀ (x : M.Rg) (s : Value) (v : Int), (x.c s).setIfInBounds 7 (.int .i64 v) = ({ x with astep := v } : M.Rg).c s) ∧ (∀ (x : M.Rg) (s : Value) (v : Int), (x.c s).setIfInBounds 8 (.int .i64 v) = ({ x with bstep := v } : M.Rg).c s) ∧ (∀ (x : M.Rg) (s : Value) (v : Int), (x.c s).setIfInBounds 9 (.int .i64 v) = ({ x with atime := v } : M.Rg).c s) ∧ (∀ (x : M.Rg) (s : Value) (v : Int), (x.c s).setIfInBounds 10 (.int .i64 v) = ({ x with btime := v } : M.Rg).c s) ∧ (∀ (x : M.Rg) (s : Value) (v : Int), (x.c s).setIfInBounds 11 (.int .u8 v) = ({ x with mask := v } : M.Rg).c s) ∧ (∀ (x : M.Rg) (s : Value) (v : Int), (x.c s).setIfInBounds 12 (.int .u8 v) = ({ x with mat := v } : M.Rg).c s) ∧ (∀ (x : M.Rg) (s : Value) (v : Bool), (x.c s).setIfInBounds 13 (.bool v) = ({ x with stop := v } : M.Rg).c s) ∧ (∀ (x : M.Rg) (s : Value) (v : Int), (x.c s).setIfInBounds 14 (.int .i64 v) = ({ x with mode := v } : M.Rg).c s) ∧ (∀ (x : M.Rg) (s : Value) (v : Int), (x.c s).setIfInBounds 15 (.int .u8 v) = ({ x with ctl := v } : M.Rg).c s) ∧ (∀ (x : M.Rg) (s : Value) (v : Int), (x.c s).setIfInBounds 16 (.int .u8 v) = ({ x with pulse := v } : M.Rg).c s) ∧ (∀ (x : M.Rg) (s : Value) (v : Int), (x.c s).setIfInBounds 17 (.int .u8 v) = ({ x with vec := v } : M.Rg).c s) ∧ (∀ (x : M.Rg) (s : Value) (v : Bool), (x.c s).setIfInBounds 18 (.bool v) = ({ x with high := v } : M.Rg).c s) ∧ (∀ (x : M.Rg) (s : Value) (v : Bool), (x.c s).setIfInBounds 19 (.bool v) = ({ x with auto := v } : M.Rg).c s) ∧ (∀ (x : M.Rg) (s : Value) (v : Int), (x.c s).setIfInBounds 20 (.int .u8 v) = ({ x with rmask := v } : M.Rg).c s) ∧ (∀ (x : M.Rg) (s : Value) (v : Bool), (x.c s).setIfInBounds 21 (.bool v) = ({ x with ints := v } : M.Rg).c s) ∧ (∀ (x : M.Rg) (s : Value) (v : Bool), (x.c s).setIfInBounds 22 (.bool v) = ({ x with on := v } : M.Rg).c s) ∧ (∀ (x : M.Rg) (s : Value) (A : Option Addr) (m c : Nat), (x.c s).setIfInBounds 23 (.slice A m c) = x.c (.slice A m c)) :=
  ⟨fun _ _ _ => rfl, fun _ _ _ => rfl, fun _ _ _ => rfl, fun _ _ _ => rfl, fun _ _ _ => rfl, fun _ _ _ => rfl, fun _ _ _ => rfl, fun _ _ _ => rfl, fun _ _ _ => rfl, fun _ _ _ => rfl, fun _ _ _ => rfl, fun _ _ _ => rfl, fun _ _ _ => rfl, fun _ _ _ => rfl, fun _ _ _ => rfl, fun _ _ _ => rfl, fun _ _ _ => rfl, fun _ _ _ => rfl, fun _ _ _ => rfl, fun _ _ _ => rfl, fun _ _ _ => rfl, fun _ _ _ => rfl, fun _ _ _ => rfl, fun _ _ _ _ _ => rfl⟩
end Go.Proofs.Ytlpoldnidojgmaa
