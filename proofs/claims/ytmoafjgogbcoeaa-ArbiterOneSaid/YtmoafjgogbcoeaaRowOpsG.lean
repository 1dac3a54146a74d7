/- The load of a row behind a guard that holds. Nothing of the program. -/
import Derived.Test.YtmoafjgogbcoeaaRowOps
namespace Go.Proofs.Ytmoafjgogbcoeaa
open Go.RowKit
set_option linter.unusedVariables false

theorem is_loadG {P : Program} {w : World} {ops : Array Oper} {rest : List Oper} {a : Act} {Q : Exit → Act → World → Prop} {dst : Option Tmp} {T ty : TypeId} {m : Operand} {pos : String} {aft : Array Edge} {j : Nat} {b : Bool} (n : Nat) (_ : (T == n) = true)
    (h : wpList P ops Q ({ dst := dst, op := .load T m, type := ty, pos := pos, after := aft, guard := some (j, b) } :: rest) a w) : wpList P ops Q ({ dst := dst, op := .load T m, type := ty, pos := pos, after := aft, guard := some (j, b) } :: rest) a w := h
theorem wpList_load_rowG {P : Program} {ops : Array Oper} {rest : List Oper} {op : Oper} {a : Act} {w : World} {Q : Exit → Act → World → Prop} (hw : Region.wanted op (yielded ops a.tmps) = true) (ty : TypeId) (x : Operand) (ho : op.op = .load ty x)
    (b o : Nat) (hx : a.eval x = .pointer (some ⟨b, o, none⟩)) (d : TypeDesc) (hu : P.underlying ty = some d) (hd : d.isRow = true) (c : Array Value) (hc : w.rangeAt b o c.toList) (hi : (P.info? ty).map (·.size) = some c.size)
    (h : wpList P ops Q rest (a.put op.dst (.agg c)) w) : wpList P ops Q (op :: rest) a w :=
  wpList_step fun K hK => by
    rw [if_pos hw]
    exact wp_load_mid ty x ho b o hx c.toList d hc hu hd (by simpa using hi) (hK _ _ h)
end Go.Proofs.Ytmoafjgogbcoeaa
