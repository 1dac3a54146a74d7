/- What a DMA was told, as an argument: what it holds, and that it reads behind the call as before. -/
import Derived.Test.YtkkkjdbcckaedaaZRg
import Derived.WalkKit
import Derived.ProofKit
import Derived.OpenShut
import Derived.ChangeArms
import Derived.Deep.Modes
namespace Go.Proofs.Ytkkkjdbcckaedaa
open Go.ChangeShapes Go.WideShapes Go.RowKit
set_option linter.unusedVariables false
set_option linter.unusedSimpArgs false
set_option maxRecDepth 100000
theorem u8_bounds' {n : Int} (h : (Lit.int .u8 n).wf = true) : 0 ≤ n ∧ n ≤ 255 := u8_wf h
theorem u16_wf {n : Int} (h : (Lit.int .u16 n).wf = true) : 0 ≤ n ∧ n ≤ 65535 := by
  simp [Lit.wf, IntKind.min, IntKind.max, IntKind.bits, IntKind.signed] at h
  omega
section
variable {H : Type} {enc : TypeId × Value → H} {w : World} {base : Nat} {held : Bool}
theorem rgf_open {n : Nat} {cs : List Value} {x : DataW H × List MemPlace} (h : DataW.trod enc Try.prog w base (fun _ => true) held n 27 cs = some x) : ∃ (R : M.Rg) (A : Option Addr) (c : Nat), R.ok ∧ cs = R.v (.slice A R.want.length c) ∧ Ls 0 w (.slice A R.want.length c) (ints .i64 R.want) := by
  obtain ⟨xs, m, _, hx, hl, hlen, hf⟩ := DataW.trod_struct Try.underlying27 h
  have hc8 : Try.prog.cellsOf 27 = 24 := by kernel_rfl
  have k_int : Try.prog.cellsOf 3 = 1 := by kernel_rfl
  have k_bool : Try.prog.cellsOf 4 = 1 := by kernel_rfl
  have k_uint8 : Try.prog.cellsOf 5 = 1 := by kernel_rfl
  have k_uint16 : Try.prog.cellsOf 24 = 1 := by kernel_rfl
  have k_sint : Try.prog.cellsOf 25 = 1 := by kernel_rfl
  rw [hc8] at hl
  match cs, hl with
  | [c0, c1, c2, c3, c4, c5, c6, c7, c8, c9, c10, c11, c12, c13, c14, c15, c16, c17, c18, c19, c20, c21, c22, c23], _ =>
    match xs, hlen with
    | [y0, y1, y2, y3, y4, y5, y6, y7, y8, y9, y10, y11, y12, y13, y14, y15, y16, y17, y18, y19, y20, y21, y22, y23], _ =>
      have f0 : DataW.trod enc Try.prog w base (fun _ => true) held m 3 (([c0, c1, c2, c3, c4, c5, c6, c7, c8, c9, c10, c11, c12, c13, c14, c15, c16, c17, c18, c19, c20, c21, c22, c23].drop 0).take (Try.prog.cellsOf 3)) = [y0, y1, y2, y3, y4, y5, y6, y7, y8, y9, y10, y11, y12, y13, y14, y15, y16, y17, y18, y19, y20, y21, y22, y23][0]? := hf 0 _ rfl
      have f1 : DataW.trod enc Try.prog w base (fun _ => true) held m 4 (([c0, c1, c2, c3, c4, c5, c6, c7, c8, c9, c10, c11, c12, c13, c14, c15, c16, c17, c18, c19, c20, c21, c22, c23].drop 1).take (Try.prog.cellsOf 4)) = [y0, y1, y2, y3, y4, y5, y6, y7, y8, y9, y10, y11, y12, y13, y14, y15, y16, y17, y18, y19, y20, y21, y22, y23][1]? := hf 1 _ rfl
      have f2 : DataW.trod enc Try.prog w base (fun _ => true) held m 24 (([c0, c1, c2, c3, c4, c5, c6, c7, c8, c9, c10, c11, c12, c13, c14, c15, c16, c17, c18, c19, c20, c21, c22, c23].drop 2).take (Try.prog.cellsOf 24)) = [y0, y1, y2, y3, y4, y5, y6, y7, y8, y9, y10, y11, y12, y13, y14, y15, y16, y17, y18, y19, y20, y21, y22, y23][2]? := hf 2 _ rfl
      have f3 : DataW.trod enc Try.prog w base (fun _ => true) held m 24 (([c0, c1, c2, c3, c4, c5, c6, c7, c8, c9, c10, c11, c12, c13, c14, c15, c16, c17, c18, c19, c20, c21, c22, c23].drop 3).take (Try.prog.cellsOf 24)) = [y0, y1, y2, y3, y4, y5, y6, y7, y8, y9, y10, y11, y12, y13, y14, y15, y16, y17, y18, y19, y20, y21, y22, y23][3]? := hf 3 _ rfl
      have f4 : DataW.trod enc Try.prog w base (fun _ => true) held m 24 (([c0, c1, c2, c3, c4, c5, c6, c7, c8, c9, c10, c11, c12, c13, c14, c15, c16, c17, c18, c19, c20, c21, c22, c23].drop 4).take (Try.prog.cellsOf 24)) = [y0, y1, y2, y3, y4, y5, y6, y7, y8, y9, y10, y11, y12, y13, y14, y15, y16, y17, y18, y19, y20, y21, y22, y23][4]? := hf 4 _ rfl
      have f5 : DataW.trod enc Try.prog w base (fun _ => true) held m 4 (([c0, c1, c2, c3, c4, c5, c6, c7, c8, c9, c10, c11, c12, c13, c14, c15, c16, c17, c18, c19, c20, c21, c22, c23].drop 5).take (Try.prog.cellsOf 4)) = [y0, y1, y2, y3, y4, y5, y6, y7, y8, y9, y10, y11, y12, y13, y14, y15, y16, y17, y18, y19, y20, y21, y22, y23][5]? := hf 5 _ rfl
      have f6 : DataW.trod enc Try.prog w base (fun _ => true) held m 4 (([c0, c1, c2, c3, c4, c5, c6, c7, c8, c9, c10, c11, c12, c13, c14, c15, c16, c17, c18, c19, c20, c21, c22, c23].drop 6).take (Try.prog.cellsOf 4)) = [y0, y1, y2, y3, y4, y5, y6, y7, y8, y9, y10, y11, y12, y13, y14, y15, y16, y17, y18, y19, y20, y21, y22, y23][6]? := hf 6 _ rfl
      have f7 : DataW.trod enc Try.prog w base (fun _ => true) held m 3 (([c0, c1, c2, c3, c4, c5, c6, c7, c8, c9, c10, c11, c12, c13, c14, c15, c16, c17, c18, c19, c20, c21, c22, c23].drop 7).take (Try.prog.cellsOf 3)) = [y0, y1, y2, y3, y4, y5, y6, y7, y8, y9, y10, y11, y12, y13, y14, y15, y16, y17, y18, y19, y20, y21, y22, y23][7]? := hf 7 _ rfl
      have f8 : DataW.trod enc Try.prog w base (fun _ => true) held m 3 (([c0, c1, c2, c3, c4, c5, c6, c7, c8, c9, c10, c11, c12, c13, c14, c15, c16, c17, c18, c19, c20, c21, c22, c23].drop 8).take (Try.prog.cellsOf 3)) = [y0, y1, y2, y3, y4, y5, y6, y7, y8, y9, y10, y11, y12, y13, y14, y15, y16, y17, y18, y19, y20, y21, y22, y23][8]? := hf 8 _ rfl
      have f9 : DataW.trod enc Try.prog w base (fun _ => true) held m 3 (([c0, c1, c2, c3, c4, c5, c6, c7, c8, c9, c10, c11, c12, c13, c14, c15, c16, c17, c18, c19, c20, c21, c22, c23].drop 9).take (Try.prog.cellsOf 3)) = [y0, y1, y2, y3, y4, y5, y6, y7, y8, y9, y10, y11, y12, y13, y14, y15, y16, y17, y18, y19, y20, y21, y22, y23][9]? := hf 9 _ rfl
      have f10 : DataW.trod enc Try.prog w base (fun _ => true) held m 3 (([c0, c1, c2, c3, c4, c5, c6, c7, c8, c9, c10, c11, c12, c13, c14, c15, c16, c17, c18, c19, c20, c21, c22, c23].drop 10).take (Try.prog.cellsOf 3)) = [y0, y1, y2, y3, y4, y5, y6, y7, y8, y9, y10, y11, y12, y13, y14, y15, y16, y17, y18, y19, y20, y21, y22, y23][10]? := hf 10 _ rfl
      have f11 : DataW.trod enc Try.prog w base (fun _ => true) held m 5 (([c0, c1, c2, c3, c4, c5, c6, c7, c8, c9, c10, c11, c12, c13, c14, c15, c16, c17, c18, c19, c20, c21, c22, c23].drop 11).take (Try.prog.cellsOf 5)) = [y0, y1, y2, y3, y4, y5, y6, y7, y8, y9, y10, y11, y12, y13, y14, y15, y16, y17, y18, y19, y20, y21, y22, y23][11]? := hf 11 _ rfl
      have f12 : DataW.trod enc Try.prog w base (fun _ => true) held m 5 (([c0, c1, c2, c3, c4, c5, c6, c7, c8, c9, c10, c11, c12, c13, c14, c15, c16, c17, c18, c19, c20, c21, c22, c23].drop 12).take (Try.prog.cellsOf 5)) = [y0, y1, y2, y3, y4, y5, y6, y7, y8, y9, y10, y11, y12, y13, y14, y15, y16, y17, y18, y19, y20, y21, y22, y23][12]? := hf 12 _ rfl
      have f13 : DataW.trod enc Try.prog w base (fun _ => true) held m 4 (([c0, c1, c2, c3, c4, c5, c6, c7, c8, c9, c10, c11, c12, c13, c14, c15, c16, c17, c18, c19, c20, c21, c22, c23].drop 13).take (Try.prog.cellsOf 4)) = [y0, y1, y2, y3, y4, y5, y6, y7, y8, y9, y10, y11, y12, y13, y14, y15, y16, y17, y18, y19, y20, y21, y22, y23][13]? := hf 13 _ rfl
      have f14 : DataW.trod enc Try.prog w base (fun _ => true) held m 3 (([c0, c1, c2, c3, c4, c5, c6, c7, c8, c9, c10, c11, c12, c13, c14, c15, c16, c17, c18, c19, c20, c21, c22, c23].drop 14).take (Try.prog.cellsOf 3)) = [y0, y1, y2, y3, y4, y5, y6, y7, y8, y9, y10, y11, y12, y13, y14, y15, y16, y17, y18, y19, y20, y21, y22, y23][14]? := hf 14 _ rfl
      have f15 : DataW.trod enc Try.prog w base (fun _ => true) held m 5 (([c0, c1, c2, c3, c4, c5, c6, c7, c8, c9, c10, c11, c12, c13, c14, c15, c16, c17, c18, c19, c20, c21, c22, c23].drop 15).take (Try.prog.cellsOf 5)) = [y0, y1, y2, y3, y4, y5, y6, y7, y8, y9, y10, y11, y12, y13, y14, y15, y16, y17, y18, y19, y20, y21, y22, y23][15]? := hf 15 _ rfl
      have f16 : DataW.trod enc Try.prog w base (fun _ => true) held m 5 (([c0, c1, c2, c3, c4, c5, c6, c7, c8, c9, c10, c11, c12, c13, c14, c15, c16, c17, c18, c19, c20, c21, c22, c23].drop 16).take (Try.prog.cellsOf 5)) = [y0, y1, y2, y3, y4, y5, y6, y7, y8, y9, y10, y11, y12, y13, y14, y15, y16, y17, y18, y19, y20, y21, y22, y23][16]? := hf 16 _ rfl
      have f17 : DataW.trod enc Try.prog w base (fun _ => true) held m 5 (([c0, c1, c2, c3, c4, c5, c6, c7, c8, c9, c10, c11, c12, c13, c14, c15, c16, c17, c18, c19, c20, c21, c22, c23].drop 17).take (Try.prog.cellsOf 5)) = [y0, y1, y2, y3, y4, y5, y6, y7, y8, y9, y10, y11, y12, y13, y14, y15, y16, y17, y18, y19, y20, y21, y22, y23][17]? := hf 17 _ rfl
      have f18 : DataW.trod enc Try.prog w base (fun _ => true) held m 4 (([c0, c1, c2, c3, c4, c5, c6, c7, c8, c9, c10, c11, c12, c13, c14, c15, c16, c17, c18, c19, c20, c21, c22, c23].drop 18).take (Try.prog.cellsOf 4)) = [y0, y1, y2, y3, y4, y5, y6, y7, y8, y9, y10, y11, y12, y13, y14, y15, y16, y17, y18, y19, y20, y21, y22, y23][18]? := hf 18 _ rfl
      have f19 : DataW.trod enc Try.prog w base (fun _ => true) held m 4 (([c0, c1, c2, c3, c4, c5, c6, c7, c8, c9, c10, c11, c12, c13, c14, c15, c16, c17, c18, c19, c20, c21, c22, c23].drop 19).take (Try.prog.cellsOf 4)) = [y0, y1, y2, y3, y4, y5, y6, y7, y8, y9, y10, y11, y12, y13, y14, y15, y16, y17, y18, y19, y20, y21, y22, y23][19]? := hf 19 _ rfl
      have f20 : DataW.trod enc Try.prog w base (fun _ => true) held m 5 (([c0, c1, c2, c3, c4, c5, c6, c7, c8, c9, c10, c11, c12, c13, c14, c15, c16, c17, c18, c19, c20, c21, c22, c23].drop 20).take (Try.prog.cellsOf 5)) = [y0, y1, y2, y3, y4, y5, y6, y7, y8, y9, y10, y11, y12, y13, y14, y15, y16, y17, y18, y19, y20, y21, y22, y23][20]? := hf 20 _ rfl
      have f21 : DataW.trod enc Try.prog w base (fun _ => true) held m 4 (([c0, c1, c2, c3, c4, c5, c6, c7, c8, c9, c10, c11, c12, c13, c14, c15, c16, c17, c18, c19, c20, c21, c22, c23].drop 21).take (Try.prog.cellsOf 4)) = [y0, y1, y2, y3, y4, y5, y6, y7, y8, y9, y10, y11, y12, y13, y14, y15, y16, y17, y18, y19, y20, y21, y22, y23][21]? := hf 21 _ rfl
      have f22 : DataW.trod enc Try.prog w base (fun _ => true) held m 4 (([c0, c1, c2, c3, c4, c5, c6, c7, c8, c9, c10, c11, c12, c13, c14, c15, c16, c17, c18, c19, c20, c21, c22, c23].drop 22).take (Try.prog.cellsOf 4)) = [y0, y1, y2, y3, y4, y5, y6, y7, y8, y9, y10, y11, y12, y13, y14, y15, y16, y17, y18, y19, y20, y21, y22, y23][22]? := hf 22 _ rfl
      have f23 : DataW.trod enc Try.prog w base (fun _ => true) held m 25 (([c0, c1, c2, c3, c4, c5, c6, c7, c8, c9, c10, c11, c12, c13, c14, c15, c16, c17, c18, c19, c20, c21, c22, c23].drop 23).take (Try.prog.cellsOf 25)) = [y0, y1, y2, y3, y4, y5, y6, y7, y8, y9, y10, y11, y12, y13, y14, y15, y16, y17, y18, y19, y20, y21, y22, y23][23]? := hf 23 _ rfl
      simp only [k_int, k_bool, k_uint8, k_uint16, k_sint, List.drop_succ_cons, List.drop_zero, List.take_succ_cons, List.take_zero, List.getElem?_cons_zero, List.getElem?_cons_succ] at f0 f1 f2 f3 f4 f5 f6 f7 f8 f9 f10 f11 f12 f13 f14 f15 f16 f17 f18 f19 f20 f21 f22 f23
      obtain ⟨v0, e0, z0, w0⟩ := DataW.trod_int Try.underlying3 f0
      obtain ⟨v1, e1, z1⟩ := DataW.trod_bool Try.underlying4 f1
      obtain ⟨v2, e2, z2, w2⟩ := DataW.trod_int Try.underlying24 f2
      obtain ⟨v3, e3, z3, w3⟩ := DataW.trod_int Try.underlying24 f3
      obtain ⟨v4, e4, z4, w4⟩ := DataW.trod_int Try.underlying24 f4
      obtain ⟨v5, e5, z5⟩ := DataW.trod_bool Try.underlying4 f5
      obtain ⟨v6, e6, z6⟩ := DataW.trod_bool Try.underlying4 f6
      obtain ⟨v7, e7, z7, w7⟩ := DataW.trod_int Try.underlying3 f7
      obtain ⟨v8, e8, z8, w8⟩ := DataW.trod_int Try.underlying3 f8
      obtain ⟨v9, e9, z9, w9⟩ := DataW.trod_int Try.underlying3 f9
      obtain ⟨v10, e10, z10, w10⟩ := DataW.trod_int Try.underlying3 f10
      obtain ⟨v11, e11, z11, w11⟩ := DataW.trod_int Try.underlying5 f11
      obtain ⟨v12, e12, z12, w12⟩ := DataW.trod_int Try.underlying5 f12
      obtain ⟨v13, e13, z13⟩ := DataW.trod_bool Try.underlying4 f13
      obtain ⟨v14, e14, z14, w14⟩ := DataW.trod_int Try.underlying3 f14
      obtain ⟨v15, e15, z15, w15⟩ := DataW.trod_int Try.underlying5 f15
      obtain ⟨v16, e16, z16, w16⟩ := DataW.trod_int Try.underlying5 f16
      obtain ⟨v17, e17, z17, w17⟩ := DataW.trod_int Try.underlying5 f17
      obtain ⟨v18, e18, z18⟩ := DataW.trod_bool Try.underlying4 f18
      obtain ⟨v19, e19, z19⟩ := DataW.trod_bool Try.underlying4 f19
      obtain ⟨v20, e20, z20, w20⟩ := DataW.trod_int Try.underlying5 f20
      obtain ⟨v21, e21, z21⟩ := DataW.trod_bool Try.underlying4 f21
      obtain ⟨v22, e22, z22⟩ := DataW.trod_bool Try.underlying4 f22
      obtain ⟨A, len, cap, zs, hcs, hrow⟩ : ∃ A len cap zs, c23 = .slice A len cap ∧ RowIntL .i64 w A len cap zs := by
        rcases open_ints Try.underlying25 Try.underlying3 (by kernel_rfl) f23 with ⟨hcs, _⟩ | ⟨x, l, c, zs, hcs, _, hl', hm', hz', _, hcell, hwz⟩
        · simp only [List.cons.injEq, and_true] at hcs
          exact ⟨_, _, _, [], hcs, .inl ⟨rfl, rfl, rfl, rfl⟩⟩
        · simp only [List.cons.injEq, and_true] at hcs
          exact ⟨_, _, _, zs, hcs, .inr ⟨_, rfl, hl', hm', by simpa using hz', hcell, hwz⟩⟩
      obtain ⟨L, hL, hm, hls, hwf⟩ := hrow.ls
      simp only [List.cons.injEq, and_true] at e0 e1 e2 e3 e4 e5 e6 e7 e8 e9 e10 e11 e12 e13 e14 e15 e16 e17 e18 e19 e20 e21 e22
      subst hcs e0 e1 e2 e3 e4 e5 e6 e7 e8 e9 e10 e11 e12 e13 e14 e15 e16 e17 e18 e19 e20 e21 e22
      subst hL
      exact ⟨⟨v0, v1, v2, v3, v4, v5, v6, v7, v8, v9, v10, v11, v12, v13, v14, v15, v16, v17, v18, v19, v20, v21, v22, L⟩, A, cap, ⟨u16_wf w2, u16_wf w3, u16_wf w4, u8_wf w11, u8_wf w12, u8_wf w15, u8_wf w16, u8_wf w17, u8_wf w20, i64_wf w0, i64_wf w7, i64_wf w8, i64_wf w9, i64_wf w10, i64_wf w14, fun x hx => i64_wf (hwf x hx)⟩, rfl, hls⟩
theorem rg_open {r : Reach} {b0 : Nat} {v : Value} {d : DataW H} {p : List MemPlace} (hv : Value.okWide Try.prog w r b0 27 v) (h : DataW.Trod enc Try.prog w base (fun _ => true) held 27 v d p) : ∃ (R : M.Rg) (A : Option Addr) (c : Nat), R.ok ∧ v = .agg (R.c (.slice A R.want.length c)) ∧ Ls 0 w (.slice A R.want.length c) (ints .i64 R.want) := by
  obtain ⟨cs, rfl, hsz⟩ := okWide_struct Try.underlying27 hv
  obtain ⟨fuel, hf⟩ := h
  obtain ⟨R, A, c, hok, hcs, hls⟩ := rgf_open hf
  refine ⟨R, A, c, hok, ?_, hls⟩
  have hh : cs.toList = R.v (.slice A R.want.length c) := by simpa [Value.cells] using hcs
  rw [M.Rg.c, ← hh]
end
end Go.Proofs.Ytkkkjdbcckaedaa
