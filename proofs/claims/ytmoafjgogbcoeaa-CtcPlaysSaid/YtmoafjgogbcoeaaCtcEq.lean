/- Counters and four bools are the same as themselves, as Go's == sees them. -/
import Derived.Test.YtmoafjgogbcoeaaCtcRead
import Derived.Laws.StructEq
import Derived.ChangeKeysEq
namespace Go.Proofs.Ytmoafjgogbcoeaa
open Go.RowKit
set_option linter.unusedVariables false
set_option linter.unusedSimpArgs false
set_option maxRecDepth 100000

theorem eq48 (x : M.Ch) (d : Nat) (w : World) : (Op.equalIn (d + 1 + 1) 48 (.agg x.a) (.agg x.a)).run Try.prog w = .ok true w := by
  rw [run_equalIn_agg _ _ _ _ _ (by kernel_rfl) (by kernel_rfl)]
  have ha : x.a = #[.int .u8 x.con, .int .u8 x.cst, .int .i64 x.cnt, .int .i64 x.pre, .bool x.runs, .bool x.waits, .bool x.wants, .bool x.pend] := rfl
  rw [ha]
  clear ha
  go_simp
theorem eq44 (x : M.Ch) (d : Nat) (w : World) : (Op.equalIn (d + 1 + 1) 44 (.agg x.a) (.agg x.a)).run Try.prog w = .ok true w := by
  rw [run_equalIn_agg _ _ _ _ _ (by kernel_rfl) (by kernel_rfl)]
  have ha : x.a = #[.int .u8 x.con, .int .u8 x.cst, .int .i64 x.cnt, .int .i64 x.pre, .bool x.runs, .bool x.waits, .bool x.wants, .bool x.pend] := rfl
  rw [ha]
  clear ha
  go_simp
theorem eql44 (x : M.Ch) (w : World) : (binOp .eql 44 (.agg x.a) (.agg x.a)).run Try.prog w = .ok (.bool true) w := by
  rw [run_eql_struct, eq44 x 9998 w]
  rfl
theorem ext4 (c : M.Ct) (k : Nat) (hk : k < 4) : c.a4.extract (k * 8) (k * 8 + 8) = (c.at k).a := by
  rcases (show k = 0 ∨ k = 1 ∨ k = 2 ∨ k = 3 by omega) with rfl | rfl | rfl | rfl <;> rfl
theorem part48 (c : M.Ct) (k : Nat) (hk : k < 4) (w : World) : (part 48 c.a4 (k * 8)).run Try.prog w = .ok (.agg (c.at k).a) w := by
  have hs : (sizeOf 48).run Try.prog w = .ok 8 w := by
    have := info48
    cases hq : Try.prog.info? 48 with
    | none => simp [hq] at this
    | some i => simp [hq] at this; simp [sizeOf, typeInfo, hq, this]
  have ha : (isAgg 48).run Try.prog w = .ok true w := by
    have h2 := run_underlying Try.underlying48 w
    simp [isAgg, Sem.run_bind, h2]
  simp only [part, Sem.run_bind, ha, Result.andThen_ok, if_true, hs, Sem.run_pure]
  rw [ext4 c k hk]
theorem eq49 (c : M.Ct) (d : Nat) (w : World) : (Op.equalIn (d + 1 + 1 + 1) 49 (.agg c.a4) (.agg c.a4)).run Try.prog w = .ok true w := by
  have hi : ∃ i, Try.prog.info? 48 = some i := by
    have := info48
    cases hq : Try.prog.info? 48 with
    | none => simp [hq] at this
    | some i => exact ⟨i, rfl⟩
  obtain ⟨i, hi⟩ := hi
  rw [run_equalIn_array w _ _ _ Try.underlying49 hi]
  have hcl : Try.prog.cellsOf 48 = 8 := by kernel_rfl
  rw [hcl, show List.range 4 = [0, 1, 2, 3] from rfl]
  have p0 := part48 c 0 (by omega) w
  have p1 := part48 c 1 (by omega) w
  have p2 := part48 c 2 (by omega) w
  have p3 := part48 c 3 (by omega) w
  have e0 := fun x : M.Ch => eq48 x d w
  simp only [Op.eqItems, Sem.run_bind, p0, p1, p2, p3, Result.andThen_ok, e0, Bool.not_true, Bool.false_eq_true, if_false, if_true, Sem.run_pure]
theorem a_ext (c : M.Ct) : c.a.extract 0 32 = c.a4 := by
  apply Array.ext'
  simp [M.Ct.a, M.Ct.a4, M.Ct.v, M.Ch.v]
theorem eq51 (c : M.Ct) (d : Nat) (w : World) : (Op.equalIn (d + 1 + 1 + 1 + 1) 51 (.agg c.a) (.agg c.a)).run Try.prog w = .ok true w := by
  rw [run_equalIn_agg _ _ _ _ _ (by kernel_rfl) (by kernel_rfl)]
  have h1 : (part 49 c.a 0).run Try.prog w = .ok (.agg c.a4) w := by
    have hs : (sizeOf 49).run Try.prog w = .ok 32 w := by
      have h32 : (Try.prog.info? 49).map (·.size) = some 32 := by kernel_rfl
      cases hq : Try.prog.info? 49 with
      | none => simp [hq] at h32
      | some i => simp [hq] at h32; simp [sizeOf, typeInfo, hq, h32]
    have ha : (isAgg 49).run Try.prog w = .ok true w := by
      have h2 := run_underlying Try.underlying49 w
      simp [isAgg, Sem.run_bind, h2]
    simp only [part, Sem.run_bind, ha, Result.andThen_ok, if_true, hs, Sem.run_pure, Nat.zero_add, a_ext]
  have h2 : (part 5 c.a 32).run Try.prog w = .ok (.int .u8 c.vec) w := by
    have ha : (isAgg 5).run Try.prog w = .ok false w := by
      have h2 := run_underlying Try.underlying5 w
      simp [isAgg, Sem.run_bind, h2]
    have hv : c.a[32]? = some (.int .u8 c.vec) := rfl
    simp only [part, Sem.run_bind, ha, Result.andThen_ok, Bool.false_eq_true, if_false, hv, Sem.run_pure]
  have hx := a_ext c
  have hv : c.a[32]? = some (.int .u8 c.vec) := rfl
  have h3 : (Op.equalIn (d + 3) 49 (.agg c.a4) (.agg c.a4)).run Try.prog w = .ok true w := eq49 c d w
  have h4 : (Op.equalIn (d + 3) 5 (.int .u8 c.vec) (.int .u8 c.vec)).run Try.prog w = .ok true w := by
    rw [run_equalIn_int w (d + 2) 5 .u8 .u8 c.vec c.vec Try.underlying5, beq_self_eq_true]
  go_simp
theorem eql51 (c : M.Ct) (w : World) : (binOp .eql 51 (.agg c.a) (.agg c.a)).run Try.prog w = .ok (.bool true) w := by
  rw [run_eql_struct, eq51 c 9996 w]
  rfl
theorem neq51 (c : M.Ct) (w : World) : (binOp .neq 51 (.agg c.a) (.agg c.a)).run Try.prog w = .ok (.bool false) w := by
  rw [run_neq_struct, eq51 c 9996 w]
  rfl
theorem eq58 (c : M.E4) (d : Nat) (w : World) : (Op.equalIn (d + 1 + 1) 58 (.agg c.a) (.agg c.a)).run Try.prog w = .ok true w := by
  have hi : ∃ i, Try.prog.info? 4 = some i := by
    have h1 : (Try.prog.info? 4).map (·.size) = some 1 := by kernel_rfl
    cases hq : Try.prog.info? 4 with
    | none => simp [hq] at h1
    | some i => exact ⟨i, rfl⟩
  obtain ⟨i, hi⟩ := hi
  rw [run_equalIn_array w _ _ _ Try.underlying58 hi]
  have hcl : Try.prog.cellsOf 4 = 1 := by kernel_rfl
  rw [hcl, show List.range 4 = [0, 1, 2, 3] from rfl]
  have ha : (isAgg 4).run Try.prog w = .ok false w := by
    have h2 := run_underlying Try.underlying4 w
    simp [isAgg, Sem.run_bind, h2]
  have v0 : c.a[0]? = some (.bool c.e0) := rfl
  have v1 : c.a[1]? = some (.bool c.e1) := rfl
  have v2 : c.a[2]? = some (.bool c.e2) := rfl
  have v3 : c.a[3]? = some (.bool c.e3) := rfl
  have hb := fun b : Bool => run_equalIn_bool w d 4 b b Try.underlying4
  simp only [Op.eqItems, Sem.run_bind, part, ha, Nat.mul_one, v0, v1, v2, v3, hb, beq_self_eq_true, Result.andThen_ok, Bool.not_true, Bool.false_eq_true, if_false, if_true, Sem.run_pure]
theorem eql58 (c : M.E4) (w : World) : (binOp .eql 58 (.agg c.a) (.agg c.a)).run Try.prog w = .ok (.bool true) w := by
  rw [run_eql_struct, eq58 c 9998 w]
  rfl
theorem neq58 (c : M.E4) (w : World) : (binOp .neq 58 (.agg c.a) (.agg c.a)).run Try.prog w = .ok (.bool false) w := by
  rw [run_neq_struct, eq58 c 9998 w]
  rfl
end Go.Proofs.Ytmoafjgogbcoeaa
