/- Counters, and four bools, that came in as arguments: what they hold, and that they read behind the call as before. -/
import Derived.Test.YtmoafjgogbcoeaaCtcBox
import Derived.WalkKit
import Derived.ProofKit
import Derived.OpenShut
import Derived.ChangeArms
import Derived.Deep.Modes
namespace Go.Proofs.Ytmoafjgogbcoeaa
open Go.ChangeShapes Go.WideShapes Go.RowKit
set_option linter.unusedVariables false
set_option linter.unusedSimpArgs false
set_option maxRecDepth 100000

theorem u8_bounds' {n : Int} (h : (Lit.int .u8 n).wf = true) : 0 ≤ n ∧ n ≤ 255 := by
  simp [Lit.wf, IntKind.min, IntKind.max, IntKind.bits, IntKind.signed] at h
  omega
theorem i64_bounds' {n : Int} (h : (Lit.int .i64 n).wf = true) : -9223372036854775808 ≤ n ∧ n ≤ 9223372036854775807 := by
  simp [Lit.wf, IntKind.min, IntKind.max, IntKind.bits, IntKind.signed] at h
  omega
section
variable {H : Type} {enc : TypeId × Value → H} {w : World} {base : Nat} {spare : Nat → Bool} {held : Bool}
theorem ch_open {n : Nat} {cs : List Value} {x : DataW H × List MemPlace} (h : DataW.trod enc Try.prog w base spare held n 44 cs = some x) : ∃ X : M.Ch, X.ok ∧ cs = X.v ∧ x.2 = [] := by
  obtain ⟨xs, m, _, hx, hl, hlen, hf⟩ := DataW.trod_struct Try.underlying44 h
  have hc8 : Try.prog.cellsOf 44 = 8 := by kernel_rfl
  have k5 : Try.prog.cellsOf 5 = 1 := by kernel_rfl
  have k3 : Try.prog.cellsOf 3 = 1 := by kernel_rfl
  have k4 : Try.prog.cellsOf 4 = 1 := by kernel_rfl
  rw [hc8] at hl
  match cs, hl with
  | [c0, c1, c2, c3, c4, c5, c6, c7], _ =>
    match xs, hlen with
    | [y0, y1, y2, y3, y4, y5, y6, y7], _ =>
      have f0 : DataW.trod enc Try.prog w base spare held m 5 (([c0, c1, c2, c3, c4, c5, c6, c7].drop 0).take (Try.prog.cellsOf 5)) = [y0, y1, y2, y3, y4, y5, y6, y7][0]? := hf 0 _ rfl
      have f1 : DataW.trod enc Try.prog w base spare held m 5 (([c0, c1, c2, c3, c4, c5, c6, c7].drop 1).take (Try.prog.cellsOf 5)) = [y0, y1, y2, y3, y4, y5, y6, y7][1]? := hf 1 _ rfl
      have f2 : DataW.trod enc Try.prog w base spare held m 3 (([c0, c1, c2, c3, c4, c5, c6, c7].drop 2).take (Try.prog.cellsOf 3)) = [y0, y1, y2, y3, y4, y5, y6, y7][2]? := hf 2 _ rfl
      have f3 : DataW.trod enc Try.prog w base spare held m 3 (([c0, c1, c2, c3, c4, c5, c6, c7].drop 3).take (Try.prog.cellsOf 3)) = [y0, y1, y2, y3, y4, y5, y6, y7][3]? := hf 3 _ rfl
      have f4 : DataW.trod enc Try.prog w base spare held m 4 (([c0, c1, c2, c3, c4, c5, c6, c7].drop 4).take (Try.prog.cellsOf 4)) = [y0, y1, y2, y3, y4, y5, y6, y7][4]? := hf 4 _ rfl
      have f5 : DataW.trod enc Try.prog w base spare held m 4 (([c0, c1, c2, c3, c4, c5, c6, c7].drop 5).take (Try.prog.cellsOf 4)) = [y0, y1, y2, y3, y4, y5, y6, y7][5]? := hf 5 _ rfl
      have f6 : DataW.trod enc Try.prog w base spare held m 4 (([c0, c1, c2, c3, c4, c5, c6, c7].drop 6).take (Try.prog.cellsOf 4)) = [y0, y1, y2, y3, y4, y5, y6, y7][6]? := hf 6 _ rfl
      have f7 : DataW.trod enc Try.prog w base spare held m 4 (([c0, c1, c2, c3, c4, c5, c6, c7].drop 7).take (Try.prog.cellsOf 4)) = [y0, y1, y2, y3, y4, y5, y6, y7][7]? := hf 7 _ rfl
      simp only [k5, k3, k4, List.drop_succ_cons, List.drop_zero, List.take_succ_cons, List.take_zero, List.getElem?_cons_zero, List.getElem?_cons_succ] at f0 f1 f2 f3 f4 f5 f6 f7
      obtain ⟨n0, e0, z0, w0⟩ := DataW.trod_int Try.underlying5 f0
      obtain ⟨n1, e1, z1, w1⟩ := DataW.trod_int Try.underlying5 f1
      obtain ⟨n2, e2, z2, w2⟩ := DataW.trod_int Try.underlying3 f2
      obtain ⟨n3, e3, z3, w3⟩ := DataW.trod_int Try.underlying3 f3
      obtain ⟨b4, e4, z4⟩ := DataW.trod_bool Try.underlying4 f4
      obtain ⟨b5, e5, z5⟩ := DataW.trod_bool Try.underlying4 f5
      obtain ⟨b6, e6, z6⟩ := DataW.trod_bool Try.underlying4 f6
      obtain ⟨b7, e7, z7⟩ := DataW.trod_bool Try.underlying4 f7
      simp only [List.cons.injEq, and_true] at e0 e1 e2 e3 e4 e5 e6 e7
      subst e0 e1 e2 e3 e4 e5 e6 e7
      refine ⟨⟨n0, n1, n2, n3, b4, b5, b6, b7⟩, ⟨u8_bounds' w0, u8_bounds' w1, i64_bounds' w2, i64_bounds' w3⟩, rfl, ?_⟩
      rw [hx]
      simp [z0, z1, z2, z3, z4, z5, z6, z7]
theorem four_open {n : Nat} {cs : List Value} {x : DataW H × List MemPlace} (h : DataW.trod enc Try.prog w base spare held n 45 cs = some x) :
    ∃ X0 X1 X2 X3 : M.Ch, (X0.ok ∧ X1.ok ∧ X2.ok ∧ X3.ok) ∧ cs = X0.v ++ X1.v ++ X2.v ++ X3.v ∧ x.2 = [] := by
  obtain ⟨xs, m, _, hx, hl, hlen, hf⟩ := DataW.trod_array Try.underlying45 h
  have hc8 : Try.prog.cellsOf 44 = 8 := by kernel_rfl
  have hc32 : Try.prog.cellsOf 45 = 32 := by kernel_rfl
  rw [hc32] at hl
  match xs, hlen with
  | [y0, y1, y2, y3], _ =>
    have f0 := hf 0 (by omega)
    have f1 := hf 1 (by omega)
    have f2 := hf 2 (by omega)
    have f3 := hf 3 (by omega)
    rw [hc8] at f0 f1 f2 f3
    simp only [List.getElem?_cons_zero, List.getElem?_cons_succ] at f0 f1 f2 f3
    obtain ⟨X0, o0, e0, z0⟩ := ch_open f0
    obtain ⟨X1, o1, e1, z1⟩ := ch_open f1
    obtain ⟨X2, o2, e2, z2⟩ := ch_open f2
    obtain ⟨X3, o3, e3, z3⟩ := ch_open f3
    refine ⟨X0, X1, X2, X3, ⟨o0, o1, o2, o3⟩, ?_, ?_⟩
    · rw [← e0, ← e1, ← e2, ← e3]
      have hh : cs = cs.take 8 ++ ((cs.drop 8).take 8 ++ ((cs.drop 16).take 8 ++ (cs.drop 24).take 8)) := by
        have h1 : (cs.drop 24).take 8 = cs.drop 24 := List.take_of_length_le (by simp; omega)
        rw [h1, show cs.drop 24 = (cs.drop 16).drop 8 by rw [List.drop_drop], List.take_append_drop, show cs.drop 16 = (cs.drop 8).drop 8 by rw [List.drop_drop], List.take_append_drop, List.take_append_drop]
      simpa [List.append_assoc] using hh
    · rw [hx]
      simp [z0, z1, z2, z3]
theorem ctc_open {r : Reach} {b0 : Nat} {v : Value} {d : DataW H} {p : List MemPlace} (hv : Value.okWide Try.prog w r b0 47 v) (h : DataW.Trod enc Try.prog w base spare held 47 v d p) : ∃ c : M.Ct, c.ok ∧ v = .agg c.a ∧ p = [] := by
  obtain ⟨cs, rfl, hsz⟩ := okWide_struct Try.underlying47 hv
  obtain ⟨fuel, hf⟩ := h
  obtain ⟨xs, m, _, hx, hl, hlen, hg⟩ := DataW.trod_struct Try.underlying47 hf
  have hc33 : Try.prog.cellsOf 47 = 33 := by kernel_rfl
  have hc32 : Try.prog.cellsOf 45 = 32 := by kernel_rfl
  have k5 : Try.prog.cellsOf 5 = 1 := by kernel_rfl
  rw [hc33] at hl
  match xs, hlen with
  | [y0, y1], _ =>
    have f0 : DataW.trod enc Try.prog w base spare held m 45 (((Value.agg cs).cells.toList.drop 0).take (Try.prog.cellsOf 45)) = [y0, y1][0]? := hg 0 _ rfl
    have f1 : DataW.trod enc Try.prog w base spare held m 5 (((Value.agg cs).cells.toList.drop 32).take (Try.prog.cellsOf 5)) = [y0, y1][1]? := hg 1 _ rfl
    rw [hc32] at f0
    rw [k5] at f1
    simp only [List.getElem?_cons_zero, List.getElem?_cons_succ, List.drop_zero] at f0 f1
    obtain ⟨X0, X1, X2, X3, ⟨o0, o1, o2, o3⟩, e0, z0⟩ := four_open f0
    obtain ⟨n, e1, z1, w1⟩ := DataW.trod_int Try.underlying5 f1
    have hb := u8_bounds' w1
    refine ⟨⟨X0, X1, X2, X3, n⟩, ⟨o0, o1, o2, o3, hb.1, hb.2⟩, ?_, ?_⟩
    · have hh : cs.toList = (M.Ct.mk X0 X1 X2 X3 n).v := by
        have h2 : (cs.toList.drop 32).take 1 = cs.toList.drop 32 := List.take_of_length_le (by simp [Value.cells] at hl ⊢; omega)
        have e0' : cs.toList.take 32 = X0.v ++ X1.v ++ X2.v ++ X3.v := e0
        have e1' : (cs.toList.drop 32).take 1 = [.int .u8 n] := e1
        rw [h2] at e1'
        show cs.toList = X0.v ++ X1.v ++ X2.v ++ X3.v ++ [.int .u8 n]
        rw [← e0', ← e1', List.take_append_drop]
      have hh2 : cs = (M.Ct.mk X0 X1 X2 X3 n).a := Array.ext' hh
      rw [hh2]
    · simp only [Prod.mk.injEq] at hx
      rw [hx.2]
      simp [z0, z1]
theorem e4_open {r : Reach} {b0 : Nat} {v : Value} {d : DataW H} {p : List MemPlace} (hv : Value.okWide Try.prog w r b0 58 v) (h : DataW.Trod enc Try.prog w base spare held 58 v d p) : ∃ e : M.E4, v = .agg e.a ∧ p = [] := by
  obtain ⟨cs, rfl⟩ : ∃ cs, v = .agg cs := by
    have hv2 := hv
    simp only [Value.okWide, Try.underlying58] at hv2
    obtain ⟨cs, h1, _⟩ := hv2
    exact ⟨cs, h1⟩
  obtain ⟨fuel, hf⟩ := h
  obtain ⟨xs, m, _, hx, hl, hlen, hg⟩ := DataW.trod_array Try.underlying58 hf
  have hc4 : Try.prog.cellsOf 58 = 4 := by kernel_rfl
  have k4 : Try.prog.cellsOf 4 = 1 := by kernel_rfl
  rw [hc4] at hl
  simp only [Value.cells] at hl hg
  obtain ⟨l⟩ := cs
  match l, hl with
  | [c0, c1, c2, c3], _ =>
    match xs, hlen with
    | [y0, y1, y2, y3], _ =>
      have f0 := hg 0 (by omega)
      have f1 := hg 1 (by omega)
      have f2 := hg 2 (by omega)
      have f3 := hg 3 (by omega)
      simp only [k4, Nat.zero_mul, Nat.one_mul, Nat.mul_one, List.drop_succ_cons, List.drop_zero, List.take_succ_cons, List.take_zero, List.getElem?_cons_zero, List.getElem?_cons_succ] at f0 f1 f2 f3
      obtain ⟨b0', e0, z0⟩ := DataW.trod_bool Try.underlying4 f0
      obtain ⟨b1, e1, z1⟩ := DataW.trod_bool Try.underlying4 f1
      obtain ⟨b2, e2, z2⟩ := DataW.trod_bool Try.underlying4 f2
      obtain ⟨b3, e3, z3⟩ := DataW.trod_bool Try.underlying4 f3
      simp only [List.cons.injEq, and_true] at e0 e1 e2 e3
      subst e0 e1 e2 e3
      refine ⟨⟨b0', b1, b2, b3⟩, rfl, ?_⟩
      simp only [Prod.mk.injEq] at hx
      rw [hx.2]
      simp [z0, z1, z2, z3]
end
end Go.Proofs.Ytmoafjgogbcoeaa
