/- Two ports are the same as themselves, as Go's == sees them. -/
import Derived.Test.YtmoafjgogbcoeaaPioRef5
import Derived.Laws.StructEq
import Derived.ChangeKeysEq
namespace Go.Proofs.Ytmoafjgogbcoeaa
open Go.RowKit
set_option linter.unusedVariables false
set_option linter.unusedSimpArgs false
set_option maxRecDepth 100000
theorem pi_ext (p : M.Pi2) (k : Nat) (hk : k < 2) : p.a.extract (k * 11) (k * 11 + 11) = (p.at k).a := by
  rcases (show k = 0 ∨ k = 1 by omega) with rfl | rfl <;> rfl
theorem eqRP (x : M.Po) (d : Nat) (w : World) : (Op.equalIn (d + 1 + 1) 83 (.agg x.a) (.agg x.a)).run Try.prog w = .ok true w := by
  rw [run_equalIn_agg _ _ _ _ _ (by kernel_rfl) (by kernel_rfl)]
  obtain ⟨mode, out, inn, dir, vec, mask, con, next, ready, was, pend⟩ := x
  rw [po_mk]
  go_simp
theorem partR (c : M.Pi2) (k : Nat) (hk : k < 2) (w : World) : (part 83 c.a (k * 11)).run Try.prog w = .ok (.agg (c.at k).a) w := by
  have hs : (sizeOf 83).run Try.prog w = .ok 11 w := by
    have h11 : (Try.prog.info? 83).map (·.size) = some 11 := by kernel_rfl
    cases hq : Try.prog.info? 83 with
    | none => simp [hq] at h11
    | some i => simp [hq] at h11; simp [sizeOf, typeInfo, hq, h11]
  have ha : (isAgg 83).run Try.prog w = .ok true w := by
    have h2 := run_underlying Try.underlying83 w
    simp [isAgg, Sem.run_bind, h2]
  simp only [part, Sem.run_bind, ha, Result.andThen_ok, if_true, hs, Sem.run_pure]
  rw [pi_ext c k hk]
theorem eqRA (c : M.Pi2) (d : Nat) (w : World) : (Op.equalIn (d + 1 + 1 + 1) 84 (.agg c.a) (.agg c.a)).run Try.prog w = .ok true w := by
  have hi : ∃ i, Try.prog.info? 83 = some i := by
    have h11 : (Try.prog.info? 83).map (·.size) = some 11 := by kernel_rfl
    cases hq : Try.prog.info? 83 with
    | none => simp [hq] at h11
    | some i => exact ⟨i, rfl⟩
  obtain ⟨i, hi⟩ := hi
  rw [run_equalIn_array w _ _ _ Try.underlying84 hi]
  have hcl : Try.prog.cellsOf 83 = 11 := by kernel_rfl
  rw [hcl, show List.range 2 = [0, 1] from rfl]
  have p0 := partR c 0 (by omega) w
  have p1 := partR c 1 (by omega) w
  have e0 := fun x : M.Po => eqRP x d w
  simp only [Op.eqItems, Sem.run_bind, p0, p1, Result.andThen_ok, e0, Bool.not_true, Bool.false_eq_true, if_false, if_true, Sem.run_pure]
theorem eqR (c : M.Pi2) (d : Nat) (w : World) : (Op.equalIn (d + 1 + 1 + 1 + 1) 86 (.agg c.a) (.agg c.a)).run Try.prog w = .ok true w := by
  rw [run_equalIn_agg _ _ _ _ _ (by kernel_rfl) (by kernel_rfl)]
  have hx : c.a.extract 0 22 = c.a := by
    apply Array.ext'
    simp [M.Pi2.a, M.Pi2.v, M.Po.v]
  have h1 : (part 84 c.a 0).run Try.prog w = .ok (.agg c.a) w := by
    have hs : (sizeOf 84).run Try.prog w = .ok 22 w := by
      have h22 : (Try.prog.info? 84).map (·.size) = some 22 := by kernel_rfl
      cases hq : Try.prog.info? 84 with
      | none => simp [hq] at h22
      | some i => simp [hq] at h22; simp [sizeOf, typeInfo, hq, h22]
    have ha : (isAgg 84).run Try.prog w = .ok true w := by
      have h2 := run_underlying Try.underlying84 w
      simp [isAgg, Sem.run_bind, h2]
    simp only [part, Sem.run_bind, ha, Result.andThen_ok, if_true, hs, Sem.run_pure, Nat.zero_add, hx]
  have h3 : (Op.equalIn (d + 3) 84 (.agg c.a) (.agg c.a)).run Try.prog w = .ok true w := eqRA c d w
  go_simp
theorem eqlR (c : M.Pi2) (w : World) : (binOp .eql 86 (.agg c.a) (.agg c.a)).run Try.prog w = .ok (.bool true) w := by
  rw [run_eql_struct, eqR c 9996 w]
  rfl
theorem neqR (c : M.Pi2) (w : World) : (binOp .neq 86 (.agg c.a) (.agg c.a)).run Try.prog w = .ok (.bool false) w := by
  rw [run_neq_struct, eqR c 9996 w]
  rfl
theorem eqOP (x : M.Po) (d : Nat) (w : World) : (Op.equalIn (d + 1 + 1) 77 (.agg x.a) (.agg x.a)).run Try.prog w = .ok true w := by
  rw [run_equalIn_agg _ _ _ _ _ (by kernel_rfl) (by kernel_rfl)]
  obtain ⟨mode, out, inn, dir, vec, mask, con, next, ready, was, pend⟩ := x
  rw [po_mk]
  go_simp
theorem partO (c : M.Pi2) (k : Nat) (hk : k < 2) (w : World) : (part 77 c.a (k * 11)).run Try.prog w = .ok (.agg (c.at k).a) w := by
  have hs : (sizeOf 77).run Try.prog w = .ok 11 w := by
    have h11 : (Try.prog.info? 77).map (·.size) = some 11 := by kernel_rfl
    cases hq : Try.prog.info? 77 with
    | none => simp [hq] at h11
    | some i => simp [hq] at h11; simp [sizeOf, typeInfo, hq, h11]
  have ha : (isAgg 77).run Try.prog w = .ok true w := by
    have h2 := run_underlying Try.underlying77 w
    simp [isAgg, Sem.run_bind, h2]
  simp only [part, Sem.run_bind, ha, Result.andThen_ok, if_true, hs, Sem.run_pure]
  rw [pi_ext c k hk]
theorem eqOA (c : M.Pi2) (d : Nat) (w : World) : (Op.equalIn (d + 1 + 1 + 1) 78 (.agg c.a) (.agg c.a)).run Try.prog w = .ok true w := by
  have hi : ∃ i, Try.prog.info? 77 = some i := by
    have h11 : (Try.prog.info? 77).map (·.size) = some 11 := by kernel_rfl
    cases hq : Try.prog.info? 77 with
    | none => simp [hq] at h11
    | some i => exact ⟨i, rfl⟩
  obtain ⟨i, hi⟩ := hi
  rw [run_equalIn_array w _ _ _ Try.underlying78 hi]
  have hcl : Try.prog.cellsOf 77 = 11 := by kernel_rfl
  rw [hcl, show List.range 2 = [0, 1] from rfl]
  have p0 := partO c 0 (by omega) w
  have p1 := partO c 1 (by omega) w
  have e0 := fun x : M.Po => eqOP x d w
  simp only [Op.eqItems, Sem.run_bind, p0, p1, Result.andThen_ok, e0, Bool.not_true, Bool.false_eq_true, if_false, if_true, Sem.run_pure]
theorem eqO (c : M.Pi2) (d : Nat) (w : World) : (Op.equalIn (d + 1 + 1 + 1 + 1) 80 (.agg c.a) (.agg c.a)).run Try.prog w = .ok true w := by
  rw [run_equalIn_agg _ _ _ _ _ (by kernel_rfl) (by kernel_rfl)]
  have hx : c.a.extract 0 22 = c.a := by
    apply Array.ext'
    simp [M.Pi2.a, M.Pi2.v, M.Po.v]
  have h1 : (part 78 c.a 0).run Try.prog w = .ok (.agg c.a) w := by
    have hs : (sizeOf 78).run Try.prog w = .ok 22 w := by
      have h22 : (Try.prog.info? 78).map (·.size) = some 22 := by kernel_rfl
      cases hq : Try.prog.info? 78 with
      | none => simp [hq] at h22
      | some i => simp [hq] at h22; simp [sizeOf, typeInfo, hq, h22]
    have ha : (isAgg 78).run Try.prog w = .ok true w := by
      have h2 := run_underlying Try.underlying78 w
      simp [isAgg, Sem.run_bind, h2]
    simp only [part, Sem.run_bind, ha, Result.andThen_ok, if_true, hs, Sem.run_pure, Nat.zero_add, hx]
  have h3 : (Op.equalIn (d + 3) 78 (.agg c.a) (.agg c.a)).run Try.prog w = .ok true w := eqOA c d w
  go_simp
theorem eqlO (c : M.Pi2) (w : World) : (binOp .eql 80 (.agg c.a) (.agg c.a)).run Try.prog w = .ok (.bool true) w := by
  rw [run_eql_struct, eqO c 9996 w]
  rfl
theorem neqO (c : M.Pi2) (w : World) : (binOp .neq 80 (.agg c.a) (.agg c.a)).run Try.prog w = .ok (.bool false) w := by
  rw [run_neq_struct, eqO c 9996 w]
  rfl
end Go.Proofs.Ytmoafjgogbcoeaa
