/- Two serial channels are the same as themselves, as Go's == sees them. -/
import Derived.Test.YtlpoldnidojgmaaSioBase
import Derived.Test.YtlpoldnidojgmaaSioTake
import Derived.Laws.StructEq
import Derived.ChangeKeysEq
namespace Go.Proofs.Ytlpoldnidojgmaa
open Go.RowKit
set_option linter.unusedVariables false
set_option linter.unusedSimpArgs false
set_option maxRecDepth 100000
theorem si_ext (s : M.Si) (k : Nat) (hk : k < 2) : s.a.extract (k * 17) (k * 17 + 17) = (s.at k).a := by
  rcases (show k = 0 ∨ k = 1 by omega) with rfl | rfl <;> rfl
theorem eqItems_same (d : Nat) (xs : Array Value) (w : World) (f : Nat → Int) : ∀ (l : List Nat), (∀ i, i ∈ l → xs[i]? = some (.int .u8 (f i))) →
    (Op.eqItems (d + 1) 5 1 xs xs l).run Try.prog w = .ok true w := by
  have ha : (isAgg 5).run Try.prog w = .ok false w := by
    have h2 := run_underlying Try.underlying5 w
    simp [isAgg, Sem.run_bind, h2]
  have hb := fun a b : Int => run_equalIn_int (w := w) d 5 .u8 .u8 a b Try.underlying5
  intro l
  induction l with
  | nil => intro _; simp [Op.eqItems]
  | cons i l ih =>
    intro h
    have hx := h i (.head _)
    have hr := ih (fun j hj => h j (.tail _ hj))
    simp only [Op.eqItems, Sem.run_bind, part, ha, Nat.mul_one, hx, hb, Result.andThen_ok, Bool.false_eq_true, if_false, Sem.run_pure]
    simpa using hr
theorem eqArr_same (t n : Nat) (vs : List Int) (hn : vs.length = n) (hu : Try.prog.underlying t = some (.array n 5)) (d : Nat) (w : World) :
    (Op.equalIn (d + 1 + 1) t (.agg (vs.map (Value.int .u8)).toArray) (.agg (vs.map (Value.int .u8)).toArray)).run Try.prog w = .ok true w := by
  have hi : ∃ i, Try.prog.info? 5 = some i := by
    have h1 : (Try.prog.info? 5).map (·.size) = some 1 := by kernel_rfl
    cases hq : Try.prog.info? 5 with
    | none => simp [hq] at h1
    | some i => exact ⟨i, rfl⟩
  obtain ⟨i, hi⟩ := hi
  rw [run_equalIn_array w _ _ _ hu hi]
  have hcl : Try.prog.cellsOf 5 = 1 := by kernel_rfl
  rw [hcl]
  refine eqItems_same d _ w (fun i => vs.getD i 0) _ ?_
  intro i hi
  have : i < vs.length := by rw [hn]; simpa using hi
  simp [this, List.getD_eq_getElem?_getD]
theorem eqRP (x : M.Cn) (d : Nat) (w : World) : (Op.equalIn (d + 1 + 1 + 1) 32 (.agg x.a) (.agg x.a)).run Try.prog w = .ok true w := by
  rw [run_equalIn_agg _ _ _ _ _ (by kernel_rfl) (by kernel_rfl)]
  obtain ⟨x0, x1, x2, x3, x4, x5, x6, x7, pt, f0, f1, f2, n, over, tx, full, gone⟩ := x
  have hs8 : (sizeOf 22).run Try.prog w = .ok 8 w := by
    have h22 : (Try.prog.info? 22).map (·.size) = some 8 := by kernel_rfl
    cases hq : Try.prog.info? 22 with
    | none => simp [hq] at h22
    | some i => simp [hq] at h22; simp [sizeOf, typeInfo, hq, h22]
  have ha8 : (isAgg 22).run Try.prog w = .ok true w := by
    have h2 := run_underlying Try.underlying22 w
    simp [isAgg, Sem.run_bind, h2]
  have hs3 : (sizeOf 23).run Try.prog w = .ok 3 w := by
    have h22 : (Try.prog.info? 23).map (·.size) = some 3 := by kernel_rfl
    cases hq : Try.prog.info? 23 with
    | none => simp [hq] at h22
    | some i => simp [hq] at h22; simp [sizeOf, typeInfo, hq, h22]
  have ha3 : (isAgg 23).run Try.prog w = .ok true w := by
    have h2 := run_underlying Try.underlying23 w
    simp [isAgg, Sem.run_bind, h2]
  have e8 := eqArr_same 22 8 [x0, x1, x2, x3, x4, x5, x6, x7] rfl Try.underlying22 d w
  have e3 := eqArr_same 23 3 [f0, f1, f2] rfl Try.underlying23 d w
  simp only [List.map] at e8 e3
  rw [cn_mk]
  have p8 : (part 22 #[.int .u8 x0, .int .u8 x1, .int .u8 x2, .int .u8 x3, .int .u8 x4, .int .u8 x5, .int .u8 x6, .int .u8 x7, .int .i64 pt, .int .u8 f0, .int .u8 f1, .int .u8 f2, .int .i64 n, .bool over, .int .u8 tx, .bool full, .bool gone] 0).run Try.prog w = .ok (.agg #[.int .u8 x0, .int .u8 x1, .int .u8 x2, .int .u8 x3, .int .u8 x4, .int .u8 x5, .int .u8 x6, .int .u8 x7]) w := by
    simp only [part, Sem.run_bind, ha8, Result.andThen_ok, if_true, hs8, Sem.run_pure]
    rfl
  have p3 : (part 23 #[.int .u8 x0, .int .u8 x1, .int .u8 x2, .int .u8 x3, .int .u8 x4, .int .u8 x5, .int .u8 x6, .int .u8 x7, .int .i64 pt, .int .u8 f0, .int .u8 f1, .int .u8 f2, .int .i64 n, .bool over, .int .u8 tx, .bool full, .bool gone] 9).run Try.prog w = .ok (.agg #[.int .u8 f0, .int .u8 f1, .int .u8 f2]) w := by
    simp only [part, Sem.run_bind, ha3, Result.andThen_ok, if_true, hs3, Sem.run_pure]
    rfl
  clear hs8 ha8 hs3 ha3
  go_simp
theorem partR (c : M.Si) (k : Nat) (hk : k < 2) (w : World) : (part 32 c.a (k * 17)).run Try.prog w = .ok (.agg (c.at k).a) w := by
  have hs : (sizeOf 32).run Try.prog w = .ok 17 w := by
    have h11 : (Try.prog.info? 32).map (·.size) = some 17 := by kernel_rfl
    cases hq : Try.prog.info? 32 with
    | none => simp [hq] at h11
    | some i => simp [hq] at h11; simp [sizeOf, typeInfo, hq, h11]
  have ha : (isAgg 32).run Try.prog w = .ok true w := by
    have h2 := run_underlying Try.underlying32 w
    simp [isAgg, Sem.run_bind, h2]
  simp only [part, Sem.run_bind, ha, Result.andThen_ok, if_true, hs, Sem.run_pure]
  rw [si_ext c k hk]
theorem eqRA (c : M.Si) (d : Nat) (w : World) : (Op.equalIn (d + 1 + 1 + 1 + 1) 33 (.agg c.a) (.agg c.a)).run Try.prog w = .ok true w := by
  have hi : ∃ i, Try.prog.info? 32 = some i := by
    have h11 : (Try.prog.info? 32).map (·.size) = some 17 := by kernel_rfl
    cases hq : Try.prog.info? 32 with
    | none => simp [hq] at h11
    | some i => exact ⟨i, rfl⟩
  obtain ⟨i, hi⟩ := hi
  rw [run_equalIn_array w _ _ _ Try.underlying33 hi]
  have hcl : Try.prog.cellsOf 32 = 17 := by kernel_rfl
  rw [hcl, show List.range 2 = [0, 1] from rfl]
  have p0 := partR c 0 (by omega) w
  have p1 := partR c 1 (by omega) w
  have e0 := fun x : M.Cn => eqRP x d w
  simp only [Op.eqItems, Sem.run_bind, p0, p1, Result.andThen_ok, e0, Bool.not_true, Bool.false_eq_true, if_false, if_true, Sem.run_pure]
theorem eqR (c : M.Si) (d : Nat) (w : World) : (Op.equalIn (d + 1 + 1 + 1 + 1 + 1) 35 (.agg c.a) (.agg c.a)).run Try.prog w = .ok true w := by
  rw [run_equalIn_agg _ _ _ _ _ (by kernel_rfl) (by kernel_rfl)]
  have hx : c.a.extract 0 34 = c.a := by
    apply Array.ext'
    simp [M.Si.a, M.Si.v, M.Cn.v]
  have h1 : (part 33 c.a 0).run Try.prog w = .ok (.agg c.a) w := by
    have hs : (sizeOf 33).run Try.prog w = .ok 34 w := by
      have h22 : (Try.prog.info? 33).map (·.size) = some 34 := by kernel_rfl
      cases hq : Try.prog.info? 33 with
      | none => simp [hq] at h22
      | some i => simp [hq] at h22; simp [sizeOf, typeInfo, hq, h22]
    have ha : (isAgg 33).run Try.prog w = .ok true w := by
      have h2 := run_underlying Try.underlying33 w
      simp [isAgg, Sem.run_bind, h2]
    simp only [part, Sem.run_bind, ha, Result.andThen_ok, if_true, hs, Sem.run_pure, Nat.zero_add, hx]
  have h3 : (Op.equalIn (d + 4) 33 (.agg c.a) (.agg c.a)).run Try.prog w = .ok true w := eqRA c d w
  go_simp
theorem eqlR (c : M.Si) (w : World) : (binOp .eql 35 (.agg c.a) (.agg c.a)).run Try.prog w = .ok (.bool true) w := by
  rw [run_eql_struct, eqR c 9995 w]
  rfl
theorem neqR (c : M.Si) (w : World) : (binOp .neq 35 (.agg c.a) (.agg c.a)).run Try.prog w = .ok (.bool false) w := by
  rw [run_neq_struct, eqR c 9995 w]
  rfl
end Go.Proofs.Ytlpoldnidojgmaa
