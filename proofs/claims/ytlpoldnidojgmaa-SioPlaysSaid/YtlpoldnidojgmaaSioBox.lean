/- Two channels in one box: a cell turned, a box in two channels, a whole box read out of two. -/
import Derived.Test.YtlpoldnidojgmaaSioBase
namespace Go.Proofs.Ytlpoldnidojgmaa
open Go.RowKit
set_option linter.unusedVariables false
set_option maxRecDepth 100000
theorem cn_s0 (x : M.Cn) (v : Int) : x.a.setIfInBounds 0 (.int .u8 v) = ({ x with w0 := v } : M.Cn).a := rfl
theorem cn_s1 (x : M.Cn) (v : Int) : x.a.setIfInBounds 1 (.int .u8 v) = ({ x with w1 := v } : M.Cn).a := rfl
theorem cn_s2 (x : M.Cn) (v : Int) : x.a.setIfInBounds 2 (.int .u8 v) = ({ x with w2 := v } : M.Cn).a := rfl
theorem cn_s3 (x : M.Cn) (v : Int) : x.a.setIfInBounds 3 (.int .u8 v) = ({ x with w3 := v } : M.Cn).a := rfl
theorem cn_s4 (x : M.Cn) (v : Int) : x.a.setIfInBounds 4 (.int .u8 v) = ({ x with w4 := v } : M.Cn).a := rfl
theorem cn_s5 (x : M.Cn) (v : Int) : x.a.setIfInBounds 5 (.int .u8 v) = ({ x with w5 := v } : M.Cn).a := rfl
theorem cn_s6 (x : M.Cn) (v : Int) : x.a.setIfInBounds 6 (.int .u8 v) = ({ x with w6 := v } : M.Cn).a := rfl
theorem cn_s7 (x : M.Cn) (v : Int) : x.a.setIfInBounds 7 (.int .u8 v) = ({ x with w7 := v } : M.Cn).a := rfl
theorem cn_s8 (x : M.Cn) (v : Int) : x.a.setIfInBounds 8 (.int .i64 v) = ({ x with pt := v } : M.Cn).a := rfl
theorem cn_s9 (x : M.Cn) (v : Int) : x.a.setIfInBounds 9 (.int .u8 v) = ({ x with f0 := v } : M.Cn).a := rfl
theorem cn_s10 (x : M.Cn) (v : Int) : x.a.setIfInBounds 10 (.int .u8 v) = ({ x with f1 := v } : M.Cn).a := rfl
theorem cn_s11 (x : M.Cn) (v : Int) : x.a.setIfInBounds 11 (.int .u8 v) = ({ x with f2 := v } : M.Cn).a := rfl
theorem cn_s12 (x : M.Cn) (v : Int) : x.a.setIfInBounds 12 (.int .i64 v) = ({ x with n := v } : M.Cn).a := rfl
theorem cn_s13 (x : M.Cn) (v : Bool) : x.a.setIfInBounds 13 (.bool v) = ({ x with over := v } : M.Cn).a := rfl
theorem cn_s14 (x : M.Cn) (v : Int) : x.a.setIfInBounds 14 (.int .u8 v) = ({ x with tx := v } : M.Cn).a := rfl
theorem cn_s15 (x : M.Cn) (v : Bool) : x.a.setIfInBounds 15 (.bool v) = ({ x with full := v } : M.Cn).a := rfl
theorem cn_s16 (x : M.Cn) (v : Bool) : x.a.setIfInBounds 16 (.bool v) = ({ x with gone := v } : M.Cn).a := rfl
theorem cn_ss : (∀ (x : M.Cn) (v : Int), x.a.setIfInBounds 0 (.int .u8 v) = ({ x with w0 := v } : M.Cn).a) ∧ (∀ (x : M.Cn) (v : Int), x.a.setIfInBounds 1 (.int .u8 v) = ({ x with w1 := v } : M.Cn).a) ∧ (∀ (x : M.Cn) (v : Int), x.a.setIfInBounds 2 (.int .u8 v) = ({ x with w2 := v } : M.Cn).a) ∧ (∀ (x : M.Cn) (v : Int), x.a.setIfInBounds 3 (.int .u8 v) = ({ x with w3 := v } : M.Cn).a) ∧ (∀ (x : M.Cn) (v : Int), x.a.setIfInBounds 4 (.int .u8 v) = ({ x with w4 := v } : M.Cn).a) ∧ (∀ (x : M.Cn) (v : Int), x.a.setIfInBounds 5 (.int .u8 v) = ({ x with w5 := v } : M.Cn).a) ∧ (∀ (x : M.Cn) (v : Int), x.a.setIfInBounds 6 (.int .u8 v) = ({ x with w6 := v } : M.Cn).a) ∧ (∀ (x : M.Cn) (v : Int), x.a.setIfInBounds 7 (.int .u8 v) = ({ x with w7 := v } : M.Cn).a) ∧ (∀ (x : M.Cn) (v : Int), x.a.setIfInBounds 8 (.int .i64 v) = ({ x with pt := v } : M.Cn).a) ∧ (∀ (x : M.Cn) (v : Int), x.a.setIfInBounds 9 (.int .u8 v) = ({ x with f0 := v } : M.Cn).a) ∧ (∀ (x : M.Cn) (v : Int), x.a.setIfInBounds 10 (.int .u8 v) = ({ x with f1 := v } : M.Cn).a) ∧ (∀ (x : M.Cn) (v : Int), x.a.setIfInBounds 11 (.int .u8 v) = ({ x with f2 := v } : M.Cn).a) ∧ (∀ (x : M.Cn) (v : Int), x.a.setIfInBounds 12 (.int .i64 v) = ({ x with n := v } : M.Cn).a) ∧ (∀ (x : M.Cn) (v : Bool), x.a.setIfInBounds 13 (.bool v) = ({ x with over := v } : M.Cn).a) ∧ (∀ (x : M.Cn) (v : Int), x.a.setIfInBounds 14 (.int .u8 v) = ({ x with tx := v } : M.Cn).a) ∧ (∀ (x : M.Cn) (v : Bool), x.a.setIfInBounds 15 (.bool v) = ({ x with full := v } : M.Cn).a) ∧ (∀ (x : M.Cn) (v : Bool), x.a.setIfInBounds 16 (.bool v) = ({ x with gone := v } : M.Cn).a) :=
  ⟨cn_s0, cn_s1, cn_s2, cn_s3, cn_s4, cn_s5, cn_s6, cn_s7, cn_s8, cn_s9, cn_s10, cn_s11, cn_s12, cn_s13, cn_s14, cn_s15, cn_s16⟩
section
variable {B o n : Nat} {w W : World} {es : List Ent}
theorem St.split17 {b : Nat} {s : M.Si} (hS : St B o n w (⟨b, 0, true, s.a⟩ :: es) W) : St B o n w (⟨b, 0, true, s.c0.a⟩ :: ⟨b, 17, true, s.c1.a⟩ :: es) W := hS.split (si_split s)
/-- A whole box, read out of its two channels. -/
def Row2 (es : List Ent) (b : Nat) (k : M.Si → Prop) : Prop := ∃ x y f1 f2, (⟨b, 0, f1, M.Cn.a x⟩ : Ent) ∈ es ∧ (⟨b, 17, f2, M.Cn.a y⟩ : Ent) ∈ es ∧ k ⟨x, y⟩
theorem Row2.here {b : Nat} {f1 f2 : Bool} {x y : M.Cn} {l : List Ent} {k : M.Si → Prop} (h : k ⟨x, y⟩) : Row2 (⟨b, 0, f1, x.a⟩ :: ⟨b, 17, f2, y.a⟩ :: l) b k := ⟨x, y, f1, f2, .head _, .tail _ (.head _), h⟩
theorem Row2.next {e : Ent} {b : Nat} {l : List Ent} {k : M.Si → Prop} (h : Row2 l b k) : Row2 (e :: l) b k := by
  obtain ⟨x, y, f1, f2, h1, h2, hk⟩ := h
  exact ⟨x, y, f1, f2, .tail _ h1, .tail _ h2, hk⟩
theorem row2_range {b : Nat} {f1 f2 : Bool} {x y : M.Cn} (hS : St B o n w es W) (h1 : (⟨b, 0, f1, x.a⟩ : Ent) ∈ es) (h2 : (⟨b, 17, f2, y.a⟩ : Ent) ∈ es) : W.rangeAt b 0 (M.Si.mk x y).a.toList := by
  have r1 := hS.range h1
  have r2 := hS.range h2
  rw [← si_join]
  have : W.rangeAt b 0 (x.a.toList ++ y.a.toList) := range_join r1 r2
  simpa using this
variable {P : Program} {ops : Array Oper} {rest : List Oper} {op : Oper} {a : Act} {Q : Exit → Act → World → Prop} {K : Act → World → Prop} {dst : Option Tmp} {T ty : TypeId} {x y : Operand} {pos : String} {aft : Array Edge} {g : Option (Nat × Bool)}
theorem wp_load2_st (hS : St B o n w es W) (ty : TypeId) (x : Operand) (ho : op.op = .load ty x) (b : Nat) (hx : a.eval x = .pointer (some ⟨b, 0, none⟩)) (d : TypeDesc) (hu : P.underlying ty = some d) (hd : d.isRow = true) (hi : (P.info? ty).map (·.size) = some 34)
    (h : Row2 es b fun s => K (a.put op.dst (.agg s.a)) W) : op.wp P a W K Q := by
  obtain ⟨x', y', f1, f2, h1, h2, hk⟩ := h
  exact wp_load_mid ty x ho b 0 hx (M.Si.mk x' y').a.toList d (row2_range hS h1 h2) hu hd (by rw [hi]; rfl) (by simpa using hk)
theorem Wl_load2 (hS : St B o n w es W) (hw : ∀ op : Op, Region.wanted { dst := dst, op := op, type := ty, pos := pos, after := aft, guard := g } (yielded ops a.tmps) = true) (b : Nat) (hx : a.eval x = .pointer (some ⟨b, 0, none⟩)) (d : TypeDesc) (hu : P.underlying T = some d) (hd : d.isRow = true) (hi : (P.info? T).map (·.size) = some 34)
    (h : Row2 es b fun s => wpList P ops Q rest (a.put dst (.agg s.a)) W) : Wl P ops Q ({ dst := dst, op := .load T x, type := ty, pos := pos, after := aft, guard := g } :: rest) a W :=
  .mk (wpList_wanted (hw _) (wp_load2_st hS T x rfl b hx d hu hd hi h))
theorem yields_row2 {S : World → Prop} (hw : Region.wanted op (yielded ops a.tmps) = true) (ty : TypeId) (x : Operand) (ho : op.op = .load ty x) (b : Nat) (hx : a.eval x = .pointer (some ⟨b, 0, none⟩)) (d : TypeDesc) (hu : P.underlying ty = some d) (hd : d.isRow = true) (hi : (P.info? ty).map (·.size) = some 34)
    (x' y' : M.Cn) (f1 f2 : Bool) (es : List Ent) (B o n : Nat) (w : World) (hS : ∀ W, S W → St B o n w es W) (h1 : (⟨b, 0, f1, x'.a⟩ : Ent) ∈ es) (h2 : (⟨b, 17, f2, y'.a⟩ : Ent) ∈ es) : YieldsIf P ops S op (.agg (M.Si.mk x' y').a) a :=
  yieldsIf_load_mid hw ty x ho b 0 hx (M.Si.mk x' y').a.toList d (fun W hW => row2_range (hS W hW) h1 h2) hu hd (by rw [hi]; rfl)
end
end Go.Proofs.Ytlpoldnidojgmaa
