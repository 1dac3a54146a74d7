/- Ports that came in as arguments: what they hold, and that they read behind the call as before. -/
import Derived.Test.YtmoafjgogbcoeaaPioBox
import Derived.WalkKit
import Derived.ProofKit
import Derived.OpenShut
import Derived.ChangeArms
import Derived.Deep.Modes
namespace Go.Proofs.Ytmoafjgogbcoeaa
open Go.ChangeShapes Go.WideShapes Go.RowKit
set_option linter.unusedVariables false
set_option linter.unusedSimpArgs false
set_option maxRecDepth 100000

theorem u8_bounds' {n : Int} (h : (Lit.int .u8 n).wf = true) : 0 ≤ n ∧ n ≤ 255 := by
  simp [Lit.wf, IntKind.min, IntKind.max, IntKind.bits, IntKind.signed] at h
  omega
theorem i64_bounds' {n : Int} (h : (Lit.int .i64 n).wf = true) : -9223372036854775808 ≤ n ∧ n ≤ 9223372036854775807 := by
  simp [Lit.wf, IntKind.min, IntKind.max, IntKind.bits, IntKind.signed] at h
  omega
section
variable {H : Type} {enc : TypeId × Value → H} {w : World} {base : Nat} {spare : Nat → Bool} {held : Bool}
theorem po_open {n : Nat} {cs : List Value} {x : DataW H × List MemPlace} (h : DataW.trod enc Try.prog w base spare held n 77 cs = some x) : ∃ X : M.Po, X.ok ∧ cs = X.v ∧ x.2 = [] := by
  obtain ⟨xs, m, _, hx, hl, hlen, hf⟩ := DataW.trod_struct Try.underlying77 h
  have hc8 : Try.prog.cellsOf 77 = 11 := by kernel_rfl
  have k5 : Try.prog.cellsOf 5 = 1 := by kernel_rfl
  have k3 : Try.prog.cellsOf 3 = 1 := by kernel_rfl
  have k4 : Try.prog.cellsOf 4 = 1 := by kernel_rfl
  rw [hc8] at hl
  match cs, hl with
  | [c0, c1, c2, c3, c4, c5, c6, c7, c8, c9, c10], _ =>
    match xs, hlen with
    | [y0, y1, y2, y3, y4, y5, y6, y7, y8, y9, y10], _ =>
      have f0 : DataW.trod enc Try.prog w base spare held m 3 (([c0, c1, c2, c3, c4, c5, c6, c7, c8, c9, c10].drop 0).take (Try.prog.cellsOf 3)) = [y0, y1, y2, y3, y4, y5, y6, y7, y8, y9, y10][0]? := hf 0 _ rfl
      have f1 : DataW.trod enc Try.prog w base spare held m 5 (([c0, c1, c2, c3, c4, c5, c6, c7, c8, c9, c10].drop 1).take (Try.prog.cellsOf 5)) = [y0, y1, y2, y3, y4, y5, y6, y7, y8, y9, y10][1]? := hf 1 _ rfl
      have f2 : DataW.trod enc Try.prog w base spare held m 5 (([c0, c1, c2, c3, c4, c5, c6, c7, c8, c9, c10].drop 2).take (Try.prog.cellsOf 5)) = [y0, y1, y2, y3, y4, y5, y6, y7, y8, y9, y10][2]? := hf 2 _ rfl
      have f3 : DataW.trod enc Try.prog w base spare held m 5 (([c0, c1, c2, c3, c4, c5, c6, c7, c8, c9, c10].drop 3).take (Try.prog.cellsOf 5)) = [y0, y1, y2, y3, y4, y5, y6, y7, y8, y9, y10][3]? := hf 3 _ rfl
      have f4 : DataW.trod enc Try.prog w base spare held m 5 (([c0, c1, c2, c3, c4, c5, c6, c7, c8, c9, c10].drop 4).take (Try.prog.cellsOf 5)) = [y0, y1, y2, y3, y4, y5, y6, y7, y8, y9, y10][4]? := hf 4 _ rfl
      have f5 : DataW.trod enc Try.prog w base spare held m 5 (([c0, c1, c2, c3, c4, c5, c6, c7, c8, c9, c10].drop 5).take (Try.prog.cellsOf 5)) = [y0, y1, y2, y3, y4, y5, y6, y7, y8, y9, y10][5]? := hf 5 _ rfl
      have f6 : DataW.trod enc Try.prog w base spare held m 5 (([c0, c1, c2, c3, c4, c5, c6, c7, c8, c9, c10].drop 6).take (Try.prog.cellsOf 5)) = [y0, y1, y2, y3, y4, y5, y6, y7, y8, y9, y10][6]? := hf 6 _ rfl
      have f7 : DataW.trod enc Try.prog w base spare held m 3 (([c0, c1, c2, c3, c4, c5, c6, c7, c8, c9, c10].drop 7).take (Try.prog.cellsOf 3)) = [y0, y1, y2, y3, y4, y5, y6, y7, y8, y9, y10][7]? := hf 7 _ rfl
      have f8 : DataW.trod enc Try.prog w base spare held m 4 (([c0, c1, c2, c3, c4, c5, c6, c7, c8, c9, c10].drop 8).take (Try.prog.cellsOf 4)) = [y0, y1, y2, y3, y4, y5, y6, y7, y8, y9, y10][8]? := hf 8 _ rfl
      have f9 : DataW.trod enc Try.prog w base spare held m 4 (([c0, c1, c2, c3, c4, c5, c6, c7, c8, c9, c10].drop 9).take (Try.prog.cellsOf 4)) = [y0, y1, y2, y3, y4, y5, y6, y7, y8, y9, y10][9]? := hf 9 _ rfl
      have f10 : DataW.trod enc Try.prog w base spare held m 4 (([c0, c1, c2, c3, c4, c5, c6, c7, c8, c9, c10].drop 10).take (Try.prog.cellsOf 4)) = [y0, y1, y2, y3, y4, y5, y6, y7, y8, y9, y10][10]? := hf 10 _ rfl
      simp only [k5, k3, k4, List.drop_succ_cons, List.drop_zero, List.take_succ_cons, List.take_zero, List.getElem?_cons_zero, List.getElem?_cons_succ] at f0 f1 f2 f3 f4 f5 f6 f7 f8 f9 f10
      obtain ⟨n0, e0, z0, w0⟩ := DataW.trod_int Try.underlying3 f0
      obtain ⟨n1, e1, z1, w1⟩ := DataW.trod_int Try.underlying5 f1
      obtain ⟨n2, e2, z2, w2⟩ := DataW.trod_int Try.underlying5 f2
      obtain ⟨n3, e3, z3, w3⟩ := DataW.trod_int Try.underlying5 f3
      obtain ⟨n4, e4, z4, w4⟩ := DataW.trod_int Try.underlying5 f4
      obtain ⟨n5, e5, z5, w5⟩ := DataW.trod_int Try.underlying5 f5
      obtain ⟨n6, e6, z6, w6⟩ := DataW.trod_int Try.underlying5 f6
      obtain ⟨n7, e7, z7, w7⟩ := DataW.trod_int Try.underlying3 f7
      obtain ⟨b8, e8, z8⟩ := DataW.trod_bool Try.underlying4 f8
      obtain ⟨b9, e9, z9⟩ := DataW.trod_bool Try.underlying4 f9
      obtain ⟨b10, e10, z10⟩ := DataW.trod_bool Try.underlying4 f10
      simp only [List.cons.injEq, and_true] at e0 e1 e2 e3 e4 e5 e6 e7 e8 e9 e10
      subst e0 e1 e2 e3 e4 e5 e6 e7 e8 e9 e10
      refine ⟨⟨n0, n1, n2, n3, n4, n5, n6, n7, b8, b9, b10⟩, ⟨i64_bounds' w0, u8_bounds' w1, u8_bounds' w2, u8_bounds' w3, u8_bounds' w4, u8_bounds' w5, u8_bounds' w6, i64_bounds' w7⟩, rfl, ?_⟩
      rw [hx]
      simp [z0, z1, z2, z3, z4, z5, z6, z7, z8, z9, z10]
theorem two_open {n : Nat} {cs : List Value} {x : DataW H × List MemPlace} (h : DataW.trod enc Try.prog w base spare held n 78 cs = some x) :
    ∃ X0 X1 : M.Po, (X0.ok ∧ X1.ok) ∧ cs = X0.v ++ X1.v ∧ x.2 = [] := by
  obtain ⟨xs, m, _, hx, hl, hlen, hf⟩ := DataW.trod_array Try.underlying78 h
  have hc8 : Try.prog.cellsOf 77 = 11 := by kernel_rfl
  have hc32 : Try.prog.cellsOf 78 = 22 := by kernel_rfl
  rw [hc32] at hl
  match xs, hlen with
  | [y0, y1], _ =>
    have f0 := hf 0 (by omega)
    have f1 := hf 1 (by omega)
    rw [hc8] at f0 f1
    simp only [List.getElem?_cons_zero, List.getElem?_cons_succ] at f0 f1
    obtain ⟨X0, o0, e0, z0⟩ := po_open f0
    obtain ⟨X1, o1, e1, z1⟩ := po_open f1
    refine ⟨X0, X1, ⟨o0, o1⟩, ?_, ?_⟩
    · rw [← e0, ← e1]
      have hh : cs = cs.take 11 ++ (cs.drop 11).take 11 := by
        have h1 : (cs.drop 11).take 11 = cs.drop 11 := List.take_of_length_le (by simp; omega)
        rw [h1, List.take_append_drop]
      simpa using hh
    · rw [hx]
      simp [z0, z1]
theorem pio_open {r : Reach} {b0 : Nat} {v : Value} {d : DataW H} {p : List MemPlace} (hv : Value.okWide Try.prog w r b0 80 v) (h : DataW.Trod enc Try.prog w base spare held 80 v d p) : ∃ c : M.Pi2, c.ok ∧ v = .agg c.a ∧ p = [] := by
  obtain ⟨cs, rfl, hsz⟩ := okWide_struct Try.underlying80 hv
  obtain ⟨fuel, hf⟩ := h
  obtain ⟨xs, m, _, hx, hl, hlen, hg⟩ := DataW.trod_struct Try.underlying80 hf
  have hc33 : Try.prog.cellsOf 80 = 22 := by kernel_rfl
  have hc32 : Try.prog.cellsOf 78 = 22 := by kernel_rfl
  rw [hc33] at hl
  match xs, hlen with
  | [y0], _ =>
    have f0 : DataW.trod enc Try.prog w base spare held m 78 (((Value.agg cs).cells.toList.drop 0).take (Try.prog.cellsOf 78)) = [y0][0]? := hg 0 _ rfl
    rw [hc32] at f0
    simp only [List.getElem?_cons_zero, List.drop_zero] at f0
    obtain ⟨X0, X1, ⟨o0, o1⟩, e0, z0⟩ := two_open f0
    refine ⟨⟨X0, X1⟩, ⟨o0, o1⟩, ?_, ?_⟩
    · have hh : cs.toList = (M.Pi2.mk X0 X1).v := by
        have h2 : cs.toList.take 22 = cs.toList := List.take_of_length_le (by simp [Value.cells] at hl ⊢; omega)
        have e0' : cs.toList.take 22 = X0.v ++ X1.v := e0
        rw [h2] at e0'
        exact e0'
      have hh2 : cs = (M.Pi2.mk X0 X1).a := Array.ext' hh
      rw [hh2]
    · simp only [Prod.mk.injEq] at hx
      rw [hx.2]
      simp [z0]
end
end Go.Proofs.Ytmoafjgogbcoeaa
