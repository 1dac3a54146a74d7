/- A DMA, as an argument: what it holds, and that it reads behind the call as before. -/
import Derived.Test.YtkkkjdbcckaedaaRgRow
import Derived.Test.YtkkkjdbcckaedaaZDm
namespace Go.Proofs.Ytkkkjdbcckaedaa
open Go.ChangeShapes Go.WideShapes Go.RowKit
set_option linter.unusedVariables false
set_option linter.unusedSimpArgs false
set_option maxRecDepth 100000
section
variable {H : Type} {enc : TypeId × Value → H} {w : World} {base : Nat} {held : Bool}
theorem dmf_open {n : Nat} {cs : List Value} {x : DataW H × List MemPlace} (h : DataW.trod enc Try.prog w base (fun _ => true) held n 29 cs = some x) : ∃ (D : M.Dm) (A : Option Addr) (c : Nat), D.ok ∧ cs = D.v (.slice A D.p.want.length c) ∧ Ls 0 w (.slice A D.p.want.length c) (ints .i64 D.p.want) := by
  obtain ⟨xs, m, _, hx, hl, hlen, hf⟩ := DataW.trod_struct Try.underlying29 h
  have hc8 : Try.prog.cellsOf 29 = 35 := by kernel_rfl
  have k_regs : Try.prog.cellsOf 27 = 24 := by kernel_rfl
  have k_int : Try.prog.cellsOf 3 = 1 := by kernel_rfl
  have k_bool : Try.prog.cellsOf 4 = 1 := by kernel_rfl
  have k_uint8 : Try.prog.cellsOf 5 = 1 := by kernel_rfl
  have k_uint16 : Try.prog.cellsOf 24 = 1 := by kernel_rfl
  rw [hc8] at hl
  obtain ⟨P, Q, rfl, hP, hQ⟩ : ∃ P Q, cs = P ++ Q ∧ P.length = 24 ∧ Q.length = 11 := ⟨cs.take 24, cs.drop 24, (List.take_append_drop 24 cs).symm, by rw [List.length_take, hl]; rfl, by rw [List.length_drop, hl]⟩
  match Q, hQ with
  | [c24, c25, c26, c27, c28, c29, c30, c31, c32, c33, c34], _ =>
    match xs, hlen with
    | [y0, y1, y2, y3, y4, y5, y6, y7, y8, y9, y10, y11], _ =>
      have f0 : DataW.trod enc Try.prog w base (fun _ => true) held m 27 (((P ++ [c24, c25, c26, c27, c28, c29, c30, c31, c32, c33, c34]).drop 0).take (Try.prog.cellsOf 27)) = [y0, y1, y2, y3, y4, y5, y6, y7, y8, y9, y10, y11][0]? := hf 0 _ rfl
      rw [k_regs, List.drop_zero, ← hP, List.take_left] at f0
      have f1 : DataW.trod enc Try.prog w base (fun _ => true) held m 24 (((P ++ [c24, c25, c26, c27, c28, c29, c30, c31, c32, c33, c34]).drop 24).take (Try.prog.cellsOf 24)) = [y0, y1, y2, y3, y4, y5, y6, y7, y8, y9, y10, y11][1]? := hf 1 _ rfl
      rw [show (P ++ [c24, c25, c26, c27, c28, c29, c30, c31, c32, c33, c34]).drop 24 = [c24, c25, c26, c27, c28, c29, c30, c31, c32, c33, c34] from by rw [List.drop_append, List.drop_eq_nil_of_le (by omega), hP]; rfl] at f1
      have f2 : DataW.trod enc Try.prog w base (fun _ => true) held m 24 (((P ++ [c24, c25, c26, c27, c28, c29, c30, c31, c32, c33, c34]).drop 25).take (Try.prog.cellsOf 24)) = [y0, y1, y2, y3, y4, y5, y6, y7, y8, y9, y10, y11][2]? := hf 2 _ rfl
      rw [show (P ++ [c24, c25, c26, c27, c28, c29, c30, c31, c32, c33, c34]).drop 25 = [c25, c26, c27, c28, c29, c30, c31, c32, c33, c34] from by rw [List.drop_append, List.drop_eq_nil_of_le (by omega), hP]; rfl] at f2
      have f3 : DataW.trod enc Try.prog w base (fun _ => true) held m 3 (((P ++ [c24, c25, c26, c27, c28, c29, c30, c31, c32, c33, c34]).drop 26).take (Try.prog.cellsOf 3)) = [y0, y1, y2, y3, y4, y5, y6, y7, y8, y9, y10, y11][3]? := hf 3 _ rfl
      rw [show (P ++ [c24, c25, c26, c27, c28, c29, c30, c31, c32, c33, c34]).drop 26 = [c26, c27, c28, c29, c30, c31, c32, c33, c34] from by rw [List.drop_append, List.drop_eq_nil_of_le (by omega), hP]; rfl] at f3
      have f4 : DataW.trod enc Try.prog w base (fun _ => true) held m 4 (((P ++ [c24, c25, c26, c27, c28, c29, c30, c31, c32, c33, c34]).drop 27).take (Try.prog.cellsOf 4)) = [y0, y1, y2, y3, y4, y5, y6, y7, y8, y9, y10, y11][4]? := hf 4 _ rfl
      rw [show (P ++ [c24, c25, c26, c27, c28, c29, c30, c31, c32, c33, c34]).drop 27 = [c27, c28, c29, c30, c31, c32, c33, c34] from by rw [List.drop_append, List.drop_eq_nil_of_le (by omega), hP]; rfl] at f4
      have f5 : DataW.trod enc Try.prog w base (fun _ => true) held m 5 (((P ++ [c24, c25, c26, c27, c28, c29, c30, c31, c32, c33, c34]).drop 28).take (Try.prog.cellsOf 5)) = [y0, y1, y2, y3, y4, y5, y6, y7, y8, y9, y10, y11][5]? := hf 5 _ rfl
      rw [show (P ++ [c24, c25, c26, c27, c28, c29, c30, c31, c32, c33, c34]).drop 28 = [c28, c29, c30, c31, c32, c33, c34] from by rw [List.drop_append, List.drop_eq_nil_of_le (by omega), hP]; rfl] at f5
      have f6 : DataW.trod enc Try.prog w base (fun _ => true) held m 4 (((P ++ [c24, c25, c26, c27, c28, c29, c30, c31, c32, c33, c34]).drop 29).take (Try.prog.cellsOf 4)) = [y0, y1, y2, y3, y4, y5, y6, y7, y8, y9, y10, y11][6]? := hf 6 _ rfl
      rw [show (P ++ [c24, c25, c26, c27, c28, c29, c30, c31, c32, c33, c34]).drop 29 = [c29, c30, c31, c32, c33, c34] from by rw [List.drop_append, List.drop_eq_nil_of_le (by omega), hP]; rfl] at f6
      have f7 : DataW.trod enc Try.prog w base (fun _ => true) held m 4 (((P ++ [c24, c25, c26, c27, c28, c29, c30, c31, c32, c33, c34]).drop 30).take (Try.prog.cellsOf 4)) = [y0, y1, y2, y3, y4, y5, y6, y7, y8, y9, y10, y11][7]? := hf 7 _ rfl
      rw [show (P ++ [c24, c25, c26, c27, c28, c29, c30, c31, c32, c33, c34]).drop 30 = [c30, c31, c32, c33, c34] from by rw [List.drop_append, List.drop_eq_nil_of_le (by omega), hP]; rfl] at f7
      have f8 : DataW.trod enc Try.prog w base (fun _ => true) held m 4 (((P ++ [c24, c25, c26, c27, c28, c29, c30, c31, c32, c33, c34]).drop 31).take (Try.prog.cellsOf 4)) = [y0, y1, y2, y3, y4, y5, y6, y7, y8, y9, y10, y11][8]? := hf 8 _ rfl
      rw [show (P ++ [c24, c25, c26, c27, c28, c29, c30, c31, c32, c33, c34]).drop 31 = [c31, c32, c33, c34] from by rw [List.drop_append, List.drop_eq_nil_of_le (by omega), hP]; rfl] at f8
      have f9 : DataW.trod enc Try.prog w base (fun _ => true) held m 4 (((P ++ [c24, c25, c26, c27, c28, c29, c30, c31, c32, c33, c34]).drop 32).take (Try.prog.cellsOf 4)) = [y0, y1, y2, y3, y4, y5, y6, y7, y8, y9, y10, y11][9]? := hf 9 _ rfl
      rw [show (P ++ [c24, c25, c26, c27, c28, c29, c30, c31, c32, c33, c34]).drop 32 = [c32, c33, c34] from by rw [List.drop_append, List.drop_eq_nil_of_le (by omega), hP]; rfl] at f9
      have f10 : DataW.trod enc Try.prog w base (fun _ => true) held m 4 (((P ++ [c24, c25, c26, c27, c28, c29, c30, c31, c32, c33, c34]).drop 33).take (Try.prog.cellsOf 4)) = [y0, y1, y2, y3, y4, y5, y6, y7, y8, y9, y10, y11][10]? := hf 10 _ rfl
      rw [show (P ++ [c24, c25, c26, c27, c28, c29, c30, c31, c32, c33, c34]).drop 33 = [c33, c34] from by rw [List.drop_append, List.drop_eq_nil_of_le (by omega), hP]; rfl] at f10
      have f11 : DataW.trod enc Try.prog w base (fun _ => true) held m 5 (((P ++ [c24, c25, c26, c27, c28, c29, c30, c31, c32, c33, c34]).drop 34).take (Try.prog.cellsOf 5)) = [y0, y1, y2, y3, y4, y5, y6, y7, y8, y9, y10, y11][11]? := hf 11 _ rfl
      rw [show (P ++ [c24, c25, c26, c27, c28, c29, c30, c31, c32, c33, c34]).drop 34 = [c34] from by rw [List.drop_append, List.drop_eq_nil_of_le (by omega), hP]; rfl] at f11
      simp only [k_int, k_bool, k_uint8, k_uint16, List.take_succ_cons, List.take_zero, List.getElem?_cons_zero, List.getElem?_cons_succ] at f0 f1 f2 f3 f4 f5 f6 f7 f8 f9 f10 f11
      obtain ⟨R, A, cap, hok, hR, hls⟩ := rgf_open f0
      obtain ⟨v1, e1, z1, w1⟩ := DataW.trod_int Try.underlying24 f1
      obtain ⟨v2, e2, z2, w2⟩ := DataW.trod_int Try.underlying24 f2
      obtain ⟨v3, e3, z3, w3⟩ := DataW.trod_int Try.underlying3 f3
      obtain ⟨v4, e4, z4⟩ := DataW.trod_bool Try.underlying4 f4
      obtain ⟨v5, e5, z5, w5⟩ := DataW.trod_int Try.underlying5 f5
      obtain ⟨v6, e6, z6⟩ := DataW.trod_bool Try.underlying4 f6
      obtain ⟨v7, e7, z7⟩ := DataW.trod_bool Try.underlying4 f7
      obtain ⟨v8, e8, z8⟩ := DataW.trod_bool Try.underlying4 f8
      obtain ⟨v9, e9, z9⟩ := DataW.trod_bool Try.underlying4 f9
      obtain ⟨v10, e10, z10⟩ := DataW.trod_bool Try.underlying4 f10
      obtain ⟨v11, e11, z11, w11⟩ := DataW.trod_int Try.underlying5 f11
      simp only [List.cons.injEq, and_true] at e1 e2 e3 e4 e5 e6 e7 e8 e9 e10 e11
      subst e1 e2 e3 e4 e5 e6 e7 e8 e9 e10 e11
      refine ⟨⟨R, v1, v2, v3, v4, v5, v6, v7, v8, v9, v10, v11⟩, A, cap, ⟨hok, u16_wf w1, u16_wf w2, i64_wf w3, u8_wf w5, u8_wf w11⟩, ?_, hls⟩
      unfold M.Dm.v
      rw [← hR]
theorem dm_open {r : Reach} {b0 : Nat} {v : Value} {d : DataW H} {p : List MemPlace} (hv : Value.okWide Try.prog w r b0 29 v) (h : DataW.Trod enc Try.prog w base (fun _ => true) held 29 v d p) : ∃ (D : M.Dm) (A : Option Addr) (c : Nat), D.ok ∧ v = .agg (D.c (.slice A D.p.want.length c)) ∧ Ls 0 w (.slice A D.p.want.length c) (ints .i64 D.p.want) := by
  obtain ⟨cs, rfl, hsz⟩ := okWide_struct Try.underlying29 hv
  obtain ⟨fuel, hf⟩ := h
  obtain ⟨R, A, c, hok, hcs, hls⟩ := dmf_open hf
  refine ⟨R, A, c, hok, ?_, hls⟩
  have hh : cs.toList = R.v (.slice A R.p.want.length c) := by simpa [Value.cells] using hcs
  rw [M.Dm.c, ← hh]
end
end Go.Proofs.Ytkkkjdbcckaedaa
