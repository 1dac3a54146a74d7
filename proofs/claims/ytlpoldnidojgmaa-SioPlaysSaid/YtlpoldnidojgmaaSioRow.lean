/- Serial channels that came in as arguments: what they hold, and that they read behind the call as before. -/
import Derived.Test.YtlpoldnidojgmaaSioBase
import Derived.WalkKit
import Derived.ProofKit
import Derived.OpenShut
import Derived.ChangeArms
import Derived.Deep.Modes
namespace Go.Proofs.Ytlpoldnidojgmaa
open Go.ChangeShapes Go.WideShapes Go.RowKit
set_option linter.unusedVariables false
set_option linter.unusedSimpArgs false
set_option maxRecDepth 100000

theorem u8_bounds' {n : Int} (h : (Lit.int .u8 n).wf = true) : 0 ≤ n ∧ n ≤ 255 := by
  simp [Lit.wf, IntKind.min, IntKind.max, IntKind.bits, IntKind.signed] at h
  omega
theorem i64_bounds' {n : Int} (h : (Lit.int .i64 n).wf = true) : -9223372036854775808 ≤ n ∧ n ≤ 9223372036854775807 := by
  simp [Lit.wf, IntKind.min, IntKind.max, IntKind.bits, IntKind.signed] at h
  omega
section
variable {H : Type} {enc : TypeId × Value → H} {w : World} {base : Nat} {spare : Nat → Bool} {held : Bool}
theorem u8s8_open {n : Nat} {cs : List Value} {x : DataW H × List MemPlace} (h : DataW.trod enc Try.prog w base spare held n 22 cs = some x) : ∃ n0 n1 n2 n3 n4 n5 n6 n7 : Int, ((0 ≤ n0 ∧ n0 ≤ 255) ∧ (0 ≤ n1 ∧ n1 ≤ 255) ∧ (0 ≤ n2 ∧ n2 ≤ 255) ∧ (0 ≤ n3 ∧ n3 ≤ 255) ∧ (0 ≤ n4 ∧ n4 ≤ 255) ∧ (0 ≤ n5 ∧ n5 ≤ 255) ∧ (0 ≤ n6 ∧ n6 ≤ 255) ∧ (0 ≤ n7 ∧ n7 ≤ 255)) ∧ cs = [.int .u8 n0, .int .u8 n1, .int .u8 n2, .int .u8 n3, .int .u8 n4, .int .u8 n5, .int .u8 n6, .int .u8 n7] ∧ x.2 = [] := by
  obtain ⟨xs, m, _, hx, hl, hlen, hf⟩ := DataW.trod_array Try.underlying22 h
  have hc8 : Try.prog.cellsOf 22 = 8 := by kernel_rfl
  have k5 : Try.prog.cellsOf 5 = 1 := by kernel_rfl
  rw [hc8] at hl
  match cs, hl with
  | [c0, c1, c2, c3, c4, c5, c6, c7], _ =>
    match xs, hlen with
    | [y0, y1, y2, y3, y4, y5, y6, y7], _ =>
      have f0 := hf 0 (by omega)
      have f1 := hf 1 (by omega)
      have f2 := hf 2 (by omega)
      have f3 := hf 3 (by omega)
      have f4 := hf 4 (by omega)
      have f5 := hf 5 (by omega)
      have f6 := hf 6 (by omega)
      have f7 := hf 7 (by omega)
      simp only [k5, Nat.mul_one, Nat.mul_zero, Nat.zero_mul, Nat.one_mul, List.drop_succ_cons, List.drop_zero, List.take_succ_cons, List.take_zero, List.getElem?_cons_zero, List.getElem?_cons_succ] at f0 f1 f2 f3 f4 f5 f6 f7
      obtain ⟨n0, e0, z0, w0⟩ := DataW.trod_int Try.underlying5 f0
      obtain ⟨n1, e1, z1, w1⟩ := DataW.trod_int Try.underlying5 f1
      obtain ⟨n2, e2, z2, w2⟩ := DataW.trod_int Try.underlying5 f2
      obtain ⟨n3, e3, z3, w3⟩ := DataW.trod_int Try.underlying5 f3
      obtain ⟨n4, e4, z4, w4⟩ := DataW.trod_int Try.underlying5 f4
      obtain ⟨n5, e5, z5, w5⟩ := DataW.trod_int Try.underlying5 f5
      obtain ⟨n6, e6, z6, w6⟩ := DataW.trod_int Try.underlying5 f6
      obtain ⟨n7, e7, z7, w7⟩ := DataW.trod_int Try.underlying5 f7
      simp only [List.cons.injEq, and_true] at e0 e1 e2 e3 e4 e5 e6 e7
      subst e0 e1 e2 e3 e4 e5 e6 e7
      refine ⟨n0, n1, n2, n3, n4, n5, n6, n7, ⟨u8_bounds' w0, u8_bounds' w1, u8_bounds' w2, u8_bounds' w3, u8_bounds' w4, u8_bounds' w5, u8_bounds' w6, u8_bounds' w7⟩, rfl, ?_⟩
      rw [hx]
      simp [z0, z1, z2, z3, z4, z5, z6, z7]
theorem u8s3_open {n : Nat} {cs : List Value} {x : DataW H × List MemPlace} (h : DataW.trod enc Try.prog w base spare held n 23 cs = some x) : ∃ n0 n1 n2 : Int, ((0 ≤ n0 ∧ n0 ≤ 255) ∧ (0 ≤ n1 ∧ n1 ≤ 255) ∧ (0 ≤ n2 ∧ n2 ≤ 255)) ∧ cs = [.int .u8 n0, .int .u8 n1, .int .u8 n2] ∧ x.2 = [] := by
  obtain ⟨xs, m, _, hx, hl, hlen, hf⟩ := DataW.trod_array Try.underlying23 h
  have hc8 : Try.prog.cellsOf 23 = 3 := by kernel_rfl
  have k5 : Try.prog.cellsOf 5 = 1 := by kernel_rfl
  rw [hc8] at hl
  match cs, hl with
  | [c0, c1, c2], _ =>
    match xs, hlen with
    | [y0, y1, y2], _ =>
      have f0 := hf 0 (by omega)
      have f1 := hf 1 (by omega)
      have f2 := hf 2 (by omega)
      simp only [k5, Nat.mul_one, Nat.mul_zero, Nat.zero_mul, Nat.one_mul, List.drop_succ_cons, List.drop_zero, List.take_succ_cons, List.take_zero, List.getElem?_cons_zero, List.getElem?_cons_succ] at f0 f1 f2
      obtain ⟨n0, e0, z0, w0⟩ := DataW.trod_int Try.underlying5 f0
      obtain ⟨n1, e1, z1, w1⟩ := DataW.trod_int Try.underlying5 f1
      obtain ⟨n2, e2, z2, w2⟩ := DataW.trod_int Try.underlying5 f2
      simp only [List.cons.injEq, and_true] at e0 e1 e2
      subst e0 e1 e2
      refine ⟨n0, n1, n2, ⟨u8_bounds' w0, u8_bounds' w1, u8_bounds' w2⟩, rfl, ?_⟩
      rw [hx]
      simp [z0, z1, z2]
theorem cn_open {n : Nat} {cs : List Value} {x : DataW H × List MemPlace} (h : DataW.trod enc Try.prog w base spare held n 25 cs = some x) : ∃ X : M.Cn, X.ok ∧ cs = X.v ∧ x.2 = [] := by
  obtain ⟨xs, m, _, hx, hl, hlen, hf⟩ := DataW.trod_struct Try.underlying25 h
  have hc8 : Try.prog.cellsOf 25 = 17 := by kernel_rfl
  have k5 : Try.prog.cellsOf 5 = 1 := by kernel_rfl
  have k3 : Try.prog.cellsOf 3 = 1 := by kernel_rfl
  have k4 : Try.prog.cellsOf 4 = 1 := by kernel_rfl
  have k8 : Try.prog.cellsOf 22 = 8 := by kernel_rfl
  have k33 : Try.prog.cellsOf 23 = 3 := by kernel_rfl
  rw [hc8] at hl
  match cs, hl with
  | [c0, c1, c2, c3, c4, c5, c6, c7, c8, c9, c10, c11, c12, c13, c14, c15, c16], _ =>
    match xs, hlen with
    | [y0, y1, y2, y3, y4, y5, y6, y7], _ =>
      have f0 : DataW.trod enc Try.prog w base spare held m 22 (([c0, c1, c2, c3, c4, c5, c6, c7, c8, c9, c10, c11, c12, c13, c14, c15, c16].drop 0).take (Try.prog.cellsOf 22)) = [y0, y1, y2, y3, y4, y5, y6, y7][0]? := hf 0 _ rfl
      have f1 : DataW.trod enc Try.prog w base spare held m 3 (([c0, c1, c2, c3, c4, c5, c6, c7, c8, c9, c10, c11, c12, c13, c14, c15, c16].drop 8).take (Try.prog.cellsOf 3)) = [y0, y1, y2, y3, y4, y5, y6, y7][1]? := hf 1 _ rfl
      have f2 : DataW.trod enc Try.prog w base spare held m 23 (([c0, c1, c2, c3, c4, c5, c6, c7, c8, c9, c10, c11, c12, c13, c14, c15, c16].drop 9).take (Try.prog.cellsOf 23)) = [y0, y1, y2, y3, y4, y5, y6, y7][2]? := hf 2 _ rfl
      have f3 : DataW.trod enc Try.prog w base spare held m 3 (([c0, c1, c2, c3, c4, c5, c6, c7, c8, c9, c10, c11, c12, c13, c14, c15, c16].drop 12).take (Try.prog.cellsOf 3)) = [y0, y1, y2, y3, y4, y5, y6, y7][3]? := hf 3 _ rfl
      have f4 : DataW.trod enc Try.prog w base spare held m 4 (([c0, c1, c2, c3, c4, c5, c6, c7, c8, c9, c10, c11, c12, c13, c14, c15, c16].drop 13).take (Try.prog.cellsOf 4)) = [y0, y1, y2, y3, y4, y5, y6, y7][4]? := hf 4 _ rfl
      have f5 : DataW.trod enc Try.prog w base spare held m 5 (([c0, c1, c2, c3, c4, c5, c6, c7, c8, c9, c10, c11, c12, c13, c14, c15, c16].drop 14).take (Try.prog.cellsOf 5)) = [y0, y1, y2, y3, y4, y5, y6, y7][5]? := hf 5 _ rfl
      have f6 : DataW.trod enc Try.prog w base spare held m 4 (([c0, c1, c2, c3, c4, c5, c6, c7, c8, c9, c10, c11, c12, c13, c14, c15, c16].drop 15).take (Try.prog.cellsOf 4)) = [y0, y1, y2, y3, y4, y5, y6, y7][6]? := hf 6 _ rfl
      have f7 : DataW.trod enc Try.prog w base spare held m 4 (([c0, c1, c2, c3, c4, c5, c6, c7, c8, c9, c10, c11, c12, c13, c14, c15, c16].drop 16).take (Try.prog.cellsOf 4)) = [y0, y1, y2, y3, y4, y5, y6, y7][7]? := hf 7 _ rfl
      simp only [k5, k3, k4, k8, k33, List.drop_succ_cons, List.drop_zero, List.take_succ_cons, List.take_zero, List.getElem?_cons_zero, List.getElem?_cons_succ] at f0 f1 f2 f3 f4 f5 f6 f7
      obtain ⟨x0, x1, x2, x3, x4, x5, x6, x7, ⟨o0, o1, o2, o3, o4, o5, o6, o7⟩, e0, z0⟩ := u8s8_open f0
      obtain ⟨n1, e1, z1, w1⟩ := DataW.trod_int Try.underlying3 f1
      obtain ⟨g0, g1, g2, ⟨q0, q1, q2⟩, e2, z2⟩ := u8s3_open f2
      obtain ⟨n3, e3, z3, w3⟩ := DataW.trod_int Try.underlying3 f3
      obtain ⟨b4, e4, z4⟩ := DataW.trod_bool Try.underlying4 f4
      obtain ⟨n5, e5, z5, w5⟩ := DataW.trod_int Try.underlying5 f5
      obtain ⟨b6, e6, z6⟩ := DataW.trod_bool Try.underlying4 f6
      obtain ⟨b7, e7, z7⟩ := DataW.trod_bool Try.underlying4 f7
      simp only [List.cons.injEq, and_true] at e0 e1 e2 e3 e4 e5 e6 e7
      obtain ⟨i0, i1, i2, i3, i4, i5, i6, i7⟩ := e0
      obtain ⟨j0, j1, j2⟩ := e2
      subst i0 i1 i2 i3 i4 i5 i6 i7 j0 j1 j2 e1 e3 e4 e5 e6 e7
      refine ⟨⟨x0, x1, x2, x3, x4, x5, x6, x7, n1, g0, g1, g2, n3, b4, n5, b6, b7⟩, ⟨o0, o1, o2, o3, o4, o5, o6, o7, i64_bounds' w1, q0, q1, q2, i64_bounds' w3, u8_bounds' w5⟩, rfl, ?_⟩
      rw [hx]
      simp [z0, z1, z2, z3, z4, z5, z6, z7]
theorem two_open {n : Nat} {cs : List Value} {x : DataW H × List MemPlace} (h : DataW.trod enc Try.prog w base spare held n 26 cs = some x) :
    ∃ X0 X1 : M.Cn, (X0.ok ∧ X1.ok) ∧ cs = X0.v ++ X1.v ∧ x.2 = [] := by
  obtain ⟨xs, m, _, hx, hl, hlen, hf⟩ := DataW.trod_array Try.underlying26 h
  have hc8 : Try.prog.cellsOf 25 = 17 := by kernel_rfl
  have hc32 : Try.prog.cellsOf 26 = 34 := by kernel_rfl
  rw [hc32] at hl
  match xs, hlen with
  | [y0, y1], _ =>
    have f0 := hf 0 (by omega)
    have f1 := hf 1 (by omega)
    rw [hc8] at f0 f1
    simp only [List.getElem?_cons_zero, List.getElem?_cons_succ] at f0 f1
    obtain ⟨X0, o0, e0, z0⟩ := cn_open f0
    obtain ⟨X1, o1, e1, z1⟩ := cn_open f1
    refine ⟨X0, X1, ⟨o0, o1⟩, ?_, ?_⟩
    · rw [← e0, ← e1]
      have hh : cs = cs.take 17 ++ (cs.drop 17).take 17 := by
        have h1 : (cs.drop 17).take 17 = cs.drop 17 := List.take_of_length_le (by simp; omega)
        rw [h1, List.take_append_drop]
      simpa using hh
    · rw [hx]
      simp [z0, z1]
theorem sio_open {r : Reach} {b0 : Nat} {v : Value} {d : DataW H} {p : List MemPlace} (hv : Value.okWide Try.prog w r b0 28 v) (h : DataW.Trod enc Try.prog w base spare held 28 v d p) : ∃ c : M.Si, c.ok ∧ v = .agg c.a ∧ p = [] := by
  obtain ⟨cs, rfl, hsz⟩ := okWide_struct Try.underlying28 hv
  obtain ⟨fuel, hf⟩ := h
  obtain ⟨xs, m, _, hx, hl, hlen, hg⟩ := DataW.trod_struct Try.underlying28 hf
  have hc33 : Try.prog.cellsOf 28 = 34 := by kernel_rfl
  have hc32 : Try.prog.cellsOf 26 = 34 := by kernel_rfl
  rw [hc33] at hl
  match xs, hlen with
  | [y0], _ =>
    have f0 : DataW.trod enc Try.prog w base spare held m 26 (((Value.agg cs).cells.toList.drop 0).take (Try.prog.cellsOf 26)) = [y0][0]? := hg 0 _ rfl
    rw [hc32] at f0
    simp only [List.getElem?_cons_zero, List.drop_zero] at f0
    obtain ⟨X0, X1, ⟨o0, o1⟩, e0, z0⟩ := two_open f0
    refine ⟨⟨X0, X1⟩, ⟨o0, o1⟩, ?_, ?_⟩
    · have hh : cs.toList = (M.Si.mk X0 X1).v := by
        have h2 : cs.toList.take 34 = cs.toList := List.take_of_length_le (by simp [Value.cells] at hl ⊢; omega)
        have e0' : cs.toList.take 34 = X0.v ++ X1.v := e0
        rw [h2] at e0'
        exact e0'
      have hh2 : cs = (M.Si.mk X0 X1).a := Array.ext' hh
      rw [hh2]
    · simp only [Prod.mk.injEq] at hx
      rw [hx.2]
      simp [z0]
end
end Go.Proofs.Ytlpoldnidojgmaa
