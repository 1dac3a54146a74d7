/- Maps with integer keys, at the operation: a new key is laid behind the others, a look-up by a computed equation. Nothing of the program. -/
import Derived.Handy
import Derived.MapKept
import Derived.Carry
import Derived.Maps.Own
import Derived.Maps.OwnSet
namespace Go.Proofs.Ytkkkjdbcckaedaa
open Go.RowKit
set_option linter.unusedVariables false

theorem run_insert {P : Program} (w : World) (t k e : TypeId) (q : IntKind) (b clock : Nat) (es : Array MapEntry) (n : Int) (val : Value) (ht : P.underlying t = some (.map k e)) (hk : P.underlying k = some (.int q))
    (hb : w.heap[b]? = some (.map es clock)) (hf : Instr.findNow (.int q) (.int q n) es.toList 0 = some none) :
    (Instr.mapUpdate t (.map (some b)) (.int q n) val).run P w = .ok () { w with heap := w.heap.setIfInBounds b (.map (es.push { key := .int q n, val := val, born := clock }) (clock + 1)) } := by
  have hc : (Instr.checkKey false 10000 k (.int q n)).run P w = .ok () w := MapKept.run_checkKey (k := .int q n) hk (by simp [MapKept.IsKey]) false 9999
  simp [Instr.mapUpdate, run_underlying ht, MapKept.run_getObj_map hb, hc, MapKept.run_findKey hk hf, MapKept.run_setObj_map _ hb, Result.andThen]
theorem run_look {P : Program} (w : World) (t k e : TypeId) (q : IntKind) (b clock : Nat) (es : Array MapEntry) (n : Int) (i : Nat) (v : Value) (ht : P.underlying t = some (.map k e)) (hk : P.underlying k = some (.int q))
    (hb : w.heap[b]? = some (.map es clock)) (hf : Instr.findNow (.int q) (.int q n) es.toList 0 = some (some (i, v))) :
    (Instr.lookup t (.map (some b)) (.int q n) true).run P w = .ok (.tuple #[v, .bool true]) w := by
  have hc : ∀ em, (Instr.checkKey em 10000 k (.int q n)).run P w = .ok () w := fun em => MapKept.run_checkKey (k := .int q n) hk (by simp [MapKept.IsKey]) em 9999
  simp [Instr.lookup, run_underlying ht, MapKept.run_getObj_map hb, hc, MapKept.run_findKey hk hf, Result.andThen]
theorem run_miss {P : Program} (w : World) (t k e : TypeId) (q : IntKind) (b clock : Nat) (es : Array MapEntry) (n : Int) (z : Value) (ht : P.underlying t = some (.map k e)) (hk : P.underlying k = some (.int q))
    (hb : w.heap[b]? = some (.map es clock)) (hf : Instr.findNow (.int q) (.int q n) es.toList 0 = some none) (hz : (zeroValue e).run P w = .ok z w) :
    (Instr.lookup t (.map (some b)) (.int q n) true).run P w = .ok (.tuple #[z, .bool false]) w := by
  have hc : ∀ em, (Instr.checkKey em 10000 k (.int q n)).run P w = .ok () w := fun em => MapKept.run_checkKey (k := .int q n) hk (by simp [MapKept.IsKey]) em 9999
  simp [Instr.lookup, run_underlying ht, MapKept.run_getObj_map hb, hc, MapKept.run_findKey hk hf, hz, Result.andThen]
theorem lay_map {w : World} {b clock clock' : Nat} {es es' : Array MapEntry} (hb : w.heap[b]? = some (.map es clock)) :
    ({ w with heap := w.heap.setIfInBounds b (.map es' clock') } : World).heap[b]? = some (.map es' clock') ∧ w.grownBy { w with heap := w.heap.setIfInBounds b (.map es' clock') } (some b) := by
  have hlt : b < w.heap.size := (Array.getElem?_eq_some_iff.mp hb).1
  refine ⟨by simp [hlt], rfl, rfl, rfl, by simp, fun i hi hne => ?_⟩
  have : b ≠ i := fun h => hne (by rw [h])
  simp [this]
/-- 'm[n] = v', n a new key. -/
theorem wpList_insert {P : Program} (w : World) {ops : Array Oper} {rest : List Oper} {o : Oper} {a : Act} {Q : Exit → Act → World → Prop}
    (hg : o.guard = none) (m x v : Operand) (t : TypeId) (hop : o.op = Op.insert t m x v)
    (k e : TypeId) (q : IntKind) (ht : P.underlying t = some (.map k e)) (hk : P.underlying k = some (.int q)) (b clock : Nat) (es : Array MapEntry)
    (hm : a.eval m = .map (some b)) (hb : w.heap[b]? = some (.map es clock)) (n : Int) (val : Value) (hx : a.eval x = .int q n) (hv : a.eval v = val)
    (hf : Instr.findNow (.int q) (.int q n) es.toList 0 = some none)
    (hK : ∀ w', w'.heap[b]? = some (.map (es.push { key := .int q n, val := val, born := clock }) (clock + 1)) → w.grownBy w' (some b) → wpList P ops Q rest (a.put o.dst undef) w') :
    wpList P ops Q (o :: rest) a w := by
  refine wpList_plain hg fun K' hK' => ?_
  have hrun := run_insert w t k e q b clock es n val ht hk hb hf
  unfold Oper.wp
  simp [execOp, hop, hm, hx, hv, hrun, Result.andThen]
  exact hK' _ _ (hK _ (lay_map hb).1 (lay_map hb).2)
/-- 'v, ok := m[n]', n a key that lies there. -/
theorem wpList_look {P : Program} (w : World) {ops : Array Oper} {rest : List Oper} {o : Oper} {a : Act} {Q : Exit → Act → World → Prop}
    (hg : o.guard = none) (m x : Operand) (t : TypeId) (hop : o.op = Op.lookup t m x true)
    (k e : TypeId) (q : IntKind) (ht : P.underlying t = some (.map k e)) (hk : P.underlying k = some (.int q)) (b clock : Nat) (es : Array MapEntry)
    (hm : a.eval m = .map (some b)) (hb : w.heap[b]? = some (.map es clock)) (n : Int) (hx : a.eval x = .int q n) (i : Nat) (v : Value)
    (hf : Instr.findNow (.int q) (.int q n) es.toList 0 = some (some (i, v)))
    (hK : wpList P ops Q rest (a.put o.dst (.tuple #[v, .bool true])) w) : wpList P ops Q (o :: rest) a w := by
  refine wpList_plain hg fun K' hK' => ?_
  have hrun := run_look w t k e q b clock es n i v ht hk hb hf
  unfold Oper.wp
  simp [execOp, hop, hm, hx, hrun, Result.andThen]
  exact hK' _ _ hK
/-- 'v, ok := m[n]', n a key that does not lie there. -/
theorem wpList_miss {P : Program} (w : World) {ops : Array Oper} {rest : List Oper} {o : Oper} {a : Act} {Q : Exit → Act → World → Prop}
    (hg : o.guard = none) (m x : Operand) (t : TypeId) (hop : o.op = Op.lookup t m x true)
    (k e : TypeId) (q : IntKind) (ht : P.underlying t = some (.map k e)) (hk : P.underlying k = some (.int q)) (b clock : Nat) (es : Array MapEntry)
    (hm : a.eval m = .map (some b)) (hb : w.heap[b]? = some (.map es clock)) (n : Int) (hx : a.eval x = .int q n) (z : Value)
    (hf : Instr.findNow (.int q) (.int q n) es.toList 0 = some none) (hz : (zeroValue e).run P w = .ok z w)
    (hK : wpList P ops Q rest (a.put o.dst (.tuple #[z, .bool false])) w) : wpList P ops Q (o :: rest) a w := by
  refine wpList_plain hg fun K' hK' => ?_
  have hrun := run_miss w t k e q b clock es n z ht hk hb hf hz
  unfold Oper.wp
  simp [execOp, hop, hm, hx, hrun, Result.andThen]
  exact hK' _ _ hK
/-- Guards: they fit where the next operation is of the kind, and prove nothing. -/
theorem is_insert {P : Program} {w : World} {ops : Array Oper} {rest : List Oper} {a : Act} {Q : Exit → Act → World → Prop} {dst : Option Tmp} {t ty : TypeId} {m x v : Operand} {pos : String} {aft : Array Edge}
    (h : wpList P ops Q ({ dst := dst, op := .insert t m x v, type := ty, pos := pos, after := aft, guard := none } :: rest) a w) : wpList P ops Q ({ dst := dst, op := .insert t m x v, type := ty, pos := pos, after := aft, guard := none } :: rest) a w := h
theorem is_lookup {P : Program} {w : World} {ops : Array Oper} {rest : List Oper} {a : Act} {Q : Exit → Act → World → Prop} {dst : Option Tmp} {t ty : TypeId} {m x : Operand} {c : Bool} {pos : String} {aft : Array Edge}
    (h : wpList P ops Q ({ dst := dst, op := .lookup t m x c, type := ty, pos := pos, after := aft, guard := none } :: rest) a w) : wpList P ops Q ({ dst := dst, op := .lookup t m x c, type := ty, pos := pos, after := aft, guard := none } :: rest) a w := h
end Go.Proofs.Ytkkkjdbcckaedaa
