/- A whole row or struct loaded and stored, at worlds written out in new blocks and in calls that turn one range. Nothing of the program but the types' sizes. -/
import Derived.Test.YtmoafjgogbcoeaaTouch
import Derived.Lib.LazyBuf
namespace Go.Proofs.Ytmoafjgogbcoeaa
open Go.RowKit
set_option linter.unusedVariables false

theorem range_alloc {w : World} {b o : Nat} {cs : List Value} (h : w.rangeAt b o cs) (ob : Obj) : (w.alloc ob).rangeAt b o cs := World.rangeAt_alloc h ob
theorem range_set {w : World} {b o : Nat} {cs : List Value} (h : w.rangeAt b o cs) (p : Addr) (v : Value) (hp : p.block ≠ b) : (w.setCell p v).rangeAt b o cs := fun j u hu => by
  rw [World.cell?_setCell_other _ _ _ _ (fun e => by subst e; exact hp rfl)]
  exact h j u hu
theorem range_drew {w : World} {b o : Nat} {cs : List Value} (h : w.rangeAt b o cs) : w.drew.rangeAt b o cs := (World.rangeAt_drew w b o cs).2 h
theorem range_newA (w : World) (cs : Array Value) (t : TypeId) : (w.alloc (.cells cs t)).rangeAt w.heap.size 0 cs.toList := range_new w cs t
theorem there_newA (w : World) (cs : Array Value) (t : TypeId) (n : Nat) (hn : n ≤ cs.size) : (w.alloc (.cells cs t)).there w.heap.size 0 n := there_of (range_new w cs t) (free_new w cs t n) (by simpa using hn)
theorem there_allocA {w : World} {b o n : Nat} (h : w.there b o n) (ob : Obj) : (w.alloc ob).there b o n := World.there_alloc h ob
theorem there_set {w : World} {b o n : Nat} (h : w.there b o n) (p : Addr) (v : Value) : (w.setCell p v).there b o n := fun j hj => by
  obtain ⟨h1, h2⟩ := h j hj
  refine ⟨?_, by rw [World.frozen?_setCell]; exact h2⟩
  obtain ⟨u, hu⟩ := Option.isSome_iff_exists.1 h1
  by_cases e : p = ⟨b, o + j, none⟩
  · subst e; rw [World.cell?_setCell_same _ _ _ hu]; rfl
  · rw [World.cell?_setCell_other _ _ _ _ e, hu]; rfl
theorem there_drewA {w : World} {b o n : Nat} (h : w.there b o n) : w.drew.there b o n := (World.there_drew w b o n).2 h
/-- The load of a row. -/
theorem wpList_load_row {P : Program} {ops : Array Oper} {rest : List Oper} {op : Oper} {a : Act} {w : World} {Q : Exit → Act → World → Prop} (hgd : op.guard = none) (ty : TypeId) (x : Operand) (ho : op.op = .load ty x)
    (b o : Nat) (hx : a.eval x = .pointer (some ⟨b, o, none⟩)) (d : TypeDesc) (hu : P.underlying ty = some d) (hd : d.isRow = true) (c : Array Value) (hc : w.rangeAt b o c.toList) (hi : (P.info? ty).map (·.size) = some c.size)
    (h : wpList P ops Q rest (a.put op.dst (.agg c)) w) : wpList P ops Q (op :: rest) a w :=
  wpList_load_mid hgd ty x ho b o hx c.toList d hc hu hd (by simpa using hi) h
theorem touch_setCells (w : World) (b o : Nat) (vs : List Value) : Touch b o vs.length w (w.setCells b o vs) :=
  ⟨(below_setCells (B := 0) (Nat.zero_le _) _ _ _ (Below.refl 0 w)).size, fun p _ hp => World.cell?_setCells_out b _ o w p (fun e => by
        rcases hp with hp | hp | hp
        · exact absurd e hp
        · exact fun _ => .inl hp
        · exact fun _ => .inr hp), fun p _ => World.frozen?_setCells b _ o w p, fun base A hb _ hB => below_setCells hb _ _ _ hB⟩
/-- The store of a row, and what is known behind it. -/
theorem wpList_store_rowT {P : Program} {ops : Array Oper} {rest : List Oper} {op : Oper} {a : Act} {w : World} {Q : Exit → Act → World → Prop} (hgd : op.guard = none) (ty : TypeId) (x y : Operand) (ho : op.op = .store ty x y)
    (b o : Nat) (cells : Array Value) (hx : a.eval x = .pointer (some ⟨b, o, none⟩)) (hy : a.eval y = .agg cells)
    (ht : w.there b o cells.size) (hi : (P.info? ty).map (·.size) = some cells.size) (h1 : cells.all (·.oneCell') = true)
    (h : ∀ W : World, W.rangeAt b o cells.toList → Touch b o cells.size w W → wpList P ops Q rest (a.put op.dst undef) W) : wpList P ops Q (op :: rest) a w :=
  wpList_store_mid hgd ty x y ho b o cells hx hy ht hi h1 (h _ (World.rangeAt_setCells_same w b o cells.toList (by simpa using ht))
    ⟨(below_setCells (B := 0) (Nat.zero_le _) _ _ _ (Below.refl 0 w)).size, fun p _ hp => World.cell?_setCells_out b _ o w p (fun e => by
        have hl : cells.toList.length = cells.size := by simp
        rcases hp with hp | hp | hp
        · exact absurd e hp
        · exact fun _ => .inl hp
        · exact fun _ => .inr (by omega)), fun p _ => World.frozen?_setCells b _ o w p, fun base A hb _ hB => below_setCells hb _ _ _ hB⟩)
/-- A new variable of a row's type, its zero value a letter. -/
theorem wpList_alloc_row {P : Program} {ops : Array Oper} {rest : List Oper} {op : Oper} {a : Act} {w : World} {Q : Exit → Act → World → Prop} (hgd : op.guard = none) (ty : TypeId) (ho : op.op = .alloc ty) (Z : Array Value)
    (hz : ∀ w : World, (zeroValue ty).run P w = .ok (.agg Z) w) (h : wpList P ops Q rest (a.put op.dst (.pointer (some ⟨w.heap.size, 0, none⟩))) (w.alloc (.cells Z ty))) : wpList P ops Q (op :: rest) a w :=
  wpList_plain hgd fun K hK => by
    unfold Oper.wp execOp
    simp only [ho, Instr.alloc, Sem.run_bind, hz, newVar, newRow, Value.cells, Result.andThen_ok, Sem.run_pure, run_newObj_alloc]
    exact hK _ _ h
theorem wp_alloc_row {P : Program} {op : Oper} {a : Act} {w : World} {K : Act → World → Prop} {Q : Exit → Act → World → Prop} (ty : TypeId) (ho : op.op = .alloc ty) (Z : Array Value)
    (hz : ∀ w : World, (zeroValue ty).run P w = .ok (.agg Z) w) (h : K (a.put op.dst (.pointer (some ⟨w.heap.size, 0, none⟩))) (w.alloc (.cells Z ty))) : op.wp P a w K Q := by
  unfold Oper.wp execOp
  simp only [ho, Instr.alloc, Sem.run_bind, hz, newVar, newRow, Value.cells, Result.andThen_ok, Sem.run_pure, run_newObj_alloc]
  exact h
theorem results_row {P : Program} {fn : Func} {p : Tmp} {ty : TypeId} (h : fn.results = #[.cell p ty]) (tmps : Array Value) (w : World) (b o : Nat) (c : Array Value) (d : TypeDesc) (hp : tmps.getD p undef = .pointer (some ⟨b, o, none⟩))
    (hr : w.rangeAt b o c.toList) (hu : P.underlying ty = some d) (hd : d.isRow = true) (hi : (P.info? ty).map (·.size) = some c.size) : (results fn tmps).run P w = .ok (.agg c) w := by
  have hp' : tmps[p]?.getD undef = .pointer (some ⟨b, o, none⟩) := by simpa using hp
  have hl := run_loadVar_mid (P := P) w b o ty c.toList d hr hu hd (by simpa using hi)
  simp [results, h, hp', asAddr, hl]
theorem results_row_tmp {P : Program} {fn : Func} {p u : Tmp} {ty : TypeId} (h : fn.results = #[.cell p ty, .tmp u]) (tmps : Array Value) (w : World) (b o : Nat) (c : Array Value) (d : TypeDesc) (hp : tmps.getD p undef = .pointer (some ⟨b, o, none⟩))
    (hr : w.rangeAt b o c.toList) (hu : P.underlying ty = some d) (hd : d.isRow = true) (hi : (P.info? ty).map (·.size) = some c.size) : (results fn tmps).run P w = .ok (.tuple #[.agg c, tmps.getD u undef]) w := by
  have hp' : tmps[p]?.getD undef = .pointer (some ⟨b, o, none⟩) := by simpa using hp
  have hl := run_loadVar_mid (P := P) w b o ty c.toList d hr hu hd (by simpa using hi)
  simp [results, h, hp', asAddr, hl]
theorem results_row_row {P : Program} {fn : Func} {p q : Tmp} {ty uy : TypeId} (h : fn.results = #[.cell p ty, .cell q uy]) (tmps : Array Value) (w : World) (b o : Nat) (c : Array Value) (d : TypeDesc) (hp : tmps.getD p undef = .pointer (some ⟨b, o, none⟩))
    (hr : w.rangeAt b o c.toList) (hu : P.underlying ty = some d) (hd : d.isRow = true) (hi : (P.info? ty).map (·.size) = some c.size)
    (b' o' : Nat) (c' : Array Value) (d' : TypeDesc) (hp2 : tmps.getD q undef = .pointer (some ⟨b', o', none⟩))
    (hr' : w.rangeAt b' o' c'.toList) (hu' : P.underlying uy = some d') (hd' : d'.isRow = true) (hi' : (P.info? uy).map (·.size) = some c'.size) : (results fn tmps).run P w = .ok (.tuple #[.agg c, .agg c']) w := by
  have hp' : tmps[p]?.getD undef = .pointer (some ⟨b, o, none⟩) := by simpa using hp
  have hp3 : tmps[q]?.getD undef = .pointer (some ⟨b', o', none⟩) := by simpa using hp2
  have hl := run_loadVar_mid (P := P) w b o ty c.toList d hr hu hd (by simpa using hi)
  have hl' := run_loadVar_mid (P := P) w b' o' uy c'.toList d' hr' hu' hd' (by simpa using hi')
  simp [results, h, hp', hp3, asAddr, hl, hl']
theorem there_newB {b : Nat} (w : World) (cs : Array Value) (t : TypeId) (n : Nat) (hb : w.heap.size = b) (hn : n ≤ cs.size) : (w.alloc (.cells cs t)).there b 0 n := hb ▸ there_newA w cs t n hn
theorem range_newB {b : Nat} (w : World) (cs : Array Value) (t : TypeId) (hb : w.heap.size = b) : (w.alloc (.cells cs t)).rangeAt b 0 cs.toList := hb ▸ range_newA w cs t
theorem there_touch {w w' : World} {B b o n q m : Nat} (h : w.there b q m) (k : Touch B o n w w') (hb : b < w.heap.size) (hd : b ≠ B) : w'.there b q m := fun j hj => by
  rw [k.cell ⟨b, q + j, none⟩ hb (.inl hd), k.frozen ⟨b, q + j, none⟩ hb]
  exact h j hj
theorem there_belowA {X W : World} {b n : Nat} (h : X.there b 0 n) (hb : Below X.heap.size X W) (hl : b < X.heap.size) : W.there b 0 n := fun j hj => by
  rw [hb.cell (p := ⟨b, 0 + j, none⟩) hl, hb.frozen (p := ⟨b, 0 + j, none⟩) hl]
  exact h j hj
theorem range_below {X W : World} {b o : Nat} {cs : List Value} (h : X.rangeAt b o cs) (hb : Below X.heap.size X W) (hl : b < X.heap.size) : W.rangeAt b o cs := fun j v hv => by
  rw [hb.cell (p := ⟨b, o + j, none⟩) hl]
  exact h j v hv
/-- Guards: the operation at hand is a load (a store, a new variable) of just this type. -/
theorem is_loadT {P : Program} {w : World} {ops : Array Oper} {rest : List Oper} {a : Act} {Q : Exit → Act → World → Prop} {dst : Option Tmp} {T ty : TypeId} {m : Operand} {pos : String} {aft : Array Edge} (n : Nat) (_ : (T == n) = true)
    (h : wpList P ops Q ({ dst := dst, op := .load T m, type := ty, pos := pos, after := aft, guard := none } :: rest) a w) : wpList P ops Q ({ dst := dst, op := .load T m, type := ty, pos := pos, after := aft, guard := none } :: rest) a w := h
theorem is_storeT {P : Program} {w : World} {ops : Array Oper} {rest : List Oper} {a : Act} {Q : Exit → Act → World → Prop} {dst : Option Tmp} {T ty : TypeId} {m x : Operand} {pos : String} {aft : Array Edge} (n : Nat) (_ : (T == n) = true)
    (h : wpList P ops Q ({ dst := dst, op := .store T m x, type := ty, pos := pos, after := aft, guard := none } :: rest) a w) : wpList P ops Q ({ dst := dst, op := .store T m x, type := ty, pos := pos, after := aft, guard := none } :: rest) a w := h
theorem is_allocT {P : Program} {w : World} {ops : Array Oper} {rest : List Oper} {a : Act} {Q : Exit → Act → World → Prop} {dst : Option Tmp} {T ty : TypeId} {pos : String} {aft : Array Edge} (n : Nat) (_ : (T == n) = true)
    (h : wpList P ops Q ({ dst := dst, op := .alloc T, type := ty, pos := pos, after := aft, guard := none } :: rest) a w) : wpList P ops Q ({ dst := dst, op := .alloc T, type := ty, pos := pos, after := aft, guard := none } :: rest) a w := h
end Go.Proofs.Ytmoafjgogbcoeaa
