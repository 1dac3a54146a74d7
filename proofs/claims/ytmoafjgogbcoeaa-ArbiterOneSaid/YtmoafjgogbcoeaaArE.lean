/- Two states of the arbiter are the same as themselves, as Go's == sees them. -/
import Derived.Test.YtmoafjgogbcoeaaArQ
import Derived.Laws.StructEq
import Derived.ChangeKeysEq
namespace Go.Proofs.Ytmoafjgogbcoeaa
open Go.RowKit
set_option linter.unusedVariables false
set_option linter.unusedSimpArgs false
set_option maxRecDepth 100000
theorem eqS (m o : Int) (d : Nat) (w : World) : (Op.equalIn (d + 1 + 1) 23 (.agg #[.int .i64 m, .int .i64 o]) (.agg #[.int .i64 m, .int .i64 o])).run Try.prog w = .ok true w := by
  rw [run_equalIn_agg _ _ _ _ _ (by kernel_rfl) (by kernel_rfl)]
  go_simp
theorem eqlS (m o : Int) (w : World) : (binOp .eql 23 (.agg #[.int .i64 m, .int .i64 o]) (.agg #[.int .i64 m, .int .i64 o])).run Try.prog w = .ok (.bool true) w := by
  rw [run_eql_struct, eqS m o 9998 w]
  rfl
theorem neqS (m o : Int) (w : World) : (binOp .neq 23 (.agg #[.int .i64 m, .int .i64 o]) (.agg #[.int .i64 m, .int .i64 o])).run Try.prog w = .ok (.bool false) w := by
  rw [run_neq_struct, eqS m o 9998 w]
  rfl
theorem eqR (m o : Int) (d : Nat) (w : World) : (Op.equalIn (d + 1 + 1) 28 (.agg #[.int .i64 m, .int .i64 o]) (.agg #[.int .i64 m, .int .i64 o])).run Try.prog w = .ok true w := by
  rw [run_equalIn_agg _ _ _ _ _ (by kernel_rfl) (by kernel_rfl)]
  go_simp
theorem eqlR (m o : Int) (w : World) : (binOp .eql 28 (.agg #[.int .i64 m, .int .i64 o]) (.agg #[.int .i64 m, .int .i64 o])).run Try.prog w = .ok (.bool true) w := by
  rw [run_eql_struct, eqR m o 9998 w]
  rfl
theorem neqR (m o : Int) (w : World) : (binOp .neq 28 (.agg #[.int .i64 m, .int .i64 o]) (.agg #[.int .i64 m, .int .i64 o])).run Try.prog w = .ok (.bool false) w := by
  rw [run_neq_struct, eqR m o 9998 w]
  rfl
end Go.Proofs.Ytmoafjgogbcoeaa
