/- Rows of cells, ranges of memory that a call holds, and the operations on them. -/
import Derived.Handy
import Derived.Deep.MidRow
import Derived.Deep.QuietTactic
import Derived.Lib.Hide
import Derived.Lib.LazyBuf
import Derived.Deep.RegionHeld3
namespace Go.Proofs.Ytkkkjdbcckaedaa
open Go.RowKit
set_option linter.unusedVariables false

/-- Of what lay in w, only n cells of block B from offset o on may have turned. -/
structure Touch (B o n : Nat) (w w' : World) : Prop where
  size : w.heap.size ≤ w'.heap.size
  cell : ∀ p : Addr, p.block < w.heap.size → (p.block ≠ B ∨ p.off < o ∨ o + n ≤ p.off) → w'.cell? p = w.cell? p
  frozen : ∀ p : Addr, p.block < w.heap.size → w'.frozen? p = w.frozen? p
  below : ∀ base A, base ≤ B → base ≤ w.heap.size → Below base A w → Below base A w'
variable {B o n : Nat} {w w' : World}
theorem Touch.refl (B o n : Nat) (w : World) : Touch B o n w w := ⟨Nat.le_refl _, fun _ _ _ => rfl, fun _ _ => rfl, fun _ _ _ _ h => h⟩
theorem Touch.setCell (h : Touch B o n w w') (j : Nat) (h1 : o ≤ j) (h2 : j < o + n) (v : Value) : Touch B o n w (w'.setCell ⟨B, j, none⟩ v) :=
  ⟨by have := h.size; simpa using this,
   fun p hp hq => by
    rw [World.cell?_setCell_other _ _ _ _ (fun e => by subst e; rcases hq with hq | hq | hq <;> simp at hq <;> omega)]
    exact h.cell p hp hq,
   fun p hp => by rw [World.frozen?_setCell]; exact h.frozen p hp,
   fun base A hb hs hB => (h.below base A hb hs hB).setCell (p := ⟨B, j, none⟩) hb v⟩
theorem Touch.drew (h : Touch B o n w w') : Touch B o n w w'.drew :=
  ⟨h.size, fun p hp hq => by rw [World.cell?_drew]; exact h.cell p hp hq, fun p hp => by rw [World.frozen?_drew]; exact h.frozen p hp, fun base A hb hs hB => (h.below base A hb hs hB).drew⟩
theorem Touch.drewN (h : Touch B o n w w') (k : Nat) : Touch B o n w (w'.drewN k) :=
  ⟨h.size, fun p hp hq => by rw [show (w'.drewN k).cell? p = w'.cell? p from rfl]; exact h.cell p hp hq, fun p hp => h.frozen p hp, fun base A hb hs hB => ⟨(h.below base A hb hs hB).os, (h.below base A hb hs hB).tape, (h.below base A hb hs hB).output, (h.below base A hb hs hB).size, (h.below base A hb hs hB).block⟩⟩
theorem Touch.trans {w'' : World} (h : Touch B o n w w') (k : Touch B o n w' w'') : Touch B o n w w'' :=
  ⟨Nat.le_trans h.size k.size, fun p hp hq => (k.cell p (Nat.lt_of_lt_of_le hp h.size) hq).trans (h.cell p hp hq), fun p hp => (k.frozen p (Nat.lt_of_lt_of_le hp h.size)).trans (h.frozen p hp),
   fun base A hb hs hB => k.below base A hb (Nat.le_trans hs h.size) (h.below base A hb hs hB)⟩
theorem Touch.wide {o' n' : Nat} (h : Touch B o n w w') (h1 : o' ≤ o) (h2 : o + n ≤ o' + n') : Touch B o' n' w w' :=
  ⟨h.size, fun p hp hq => h.cell p hp (by rcases hq with hq | hq | hq; exact .inl hq; exact .inr (.inl (by omega)); exact .inr (.inr (by omega))), h.frozen, h.below⟩
/-- Ranges. -/
theorem Touch.range {b q : Nat} {cs : List Value} (h : Touch B o n w w') (hb : b < w.heap.size) (hr : w.rangeAt b q cs) (hd : b ≠ B ∨ q + cs.length ≤ o ∨ o + n ≤ q) : w'.rangeAt b q cs := fun j v hv => by
  have hj : j < cs.length := (List.getElem?_eq_some_iff.1 hv).1
  rw [h.cell ⟨b, q + j, none⟩ hb (by rcases hd with hd | hd | hd; exact .inl hd; exact .inr (.inl (by show q + j < o; omega)); exact .inr (.inr (by show o + n ≤ q + j; omega)))]
  exact hr j v hv
theorem Touch.cell1 {p : Addr} {v : Value} (h : Touch B o n w w') (hr : w.cell? p = some v) (hb : p.block < w.heap.size) (hd : p.block ≠ B) : w'.cell? p = some v := (h.cell p hb (.inl hd)).trans hr
/-- A new block's range. -/
theorem range_new (w : World) (cs : Array Value) (t : TypeId) : (w.alloc (.cells cs t)).rangeAt w.heap.size 0 cs.toList := fun j v hv => by
  simp only [Array.getElem?_toList] at hv
  have hj : j < cs.size := (Array.getElem?_eq_some_iff.1 hv).1
  simpa [hj] using hv
theorem range_part {W : World} {b q : Nat} {xs ys zs : List Value} (h : W.rangeAt b q (xs ++ ys ++ zs)) : W.rangeAt b (q + xs.length) ys := fun j v hv => by
  have hj : j < ys.length := (List.getElem?_eq_some_iff.1 hv).1
  have h2 := h (xs.length + j) v (by
    rw [List.getElem?_append_left (by simp; omega), List.getElem?_append_right (by omega), Nat.add_sub_cancel_left]; exact hv)
  rwa [← Nat.add_assoc] at h2
theorem range_join {W : World} {b q : Nat} {xs ys : List Value} (h : W.rangeAt b q xs) (k : W.rangeAt b (q + xs.length) ys) : W.rangeAt b q (xs ++ ys) := fun j v hv => by
  by_cases hj : j < xs.length
  · rw [List.getElem?_append_left hj] at hv; exact h j v hv
  · rw [List.getElem?_append_right (by omega)] at hv
    have := k (j - xs.length) v hv
    rwa [show q + xs.length + (j - xs.length) = q + j by omega] at this
theorem range_cell {W : World} {b q : Nat} {cs : List Value} (h : W.rangeAt b q cs) (j : Nat) {v : Value} (hv : cs[j]? = some v) : W.cell? ⟨b, q + j, none⟩ = some v := h j v hv
/-- What may be written. -/
def Free (w : World) (b o n : Nat) : Prop := ∀ j, j < n → w.frozen? ⟨b, o + j, none⟩ = false
theorem Free.touch {b q m : Nat} (h : Free w b q m) (k : Touch B o n w w') (hb : b < w.heap.size) : Free w' b q m := fun j hj => (k.frozen ⟨b, q + j, none⟩ hb).trans (h j hj)
theorem there_of {W : World} {b q m : Nat} {cs : List Value} (hr : W.rangeAt b q cs) (hf : Free W b q m) (hm : m ≤ cs.length) : W.there b q m := fun j hj => by
  refine ⟨?_, hf j hj⟩
  rw [hr j cs[j] (List.getElem?_eq_getElem (by omega))]
  rfl
theorem free_new (w : World) (cs : Array Value) (t : TypeId) (m : Nat) : Free (w.alloc (.cells cs t)) w.heap.size 0 m := fun j hj => by simp
theorem frozen_alloc {b : Nat} (w : World) (ob : Obj) (j : Nat) (hb : b < w.heap.size) : (w.alloc ob).frozen? ⟨b, j, none⟩ = w.frozen? ⟨b, j, none⟩ := World.frozen?_of_block (w := w) (Below.heap_alloc w ob b hb)
theorem Free.alloc {b q m : Nat} (h : Free w b q m) (hb : b < w.heap.size) (ob : Obj) : Free (w.alloc ob) b q m := fun j hj => by rw [frozen_alloc w ob _ hb]; exact h j hj
end Go.Proofs.Ytkkkjdbcckaedaa
namespace Go.Proofs.Ytkkkjdbcckaedaa
open Go.RowKit
set_option linter.unusedVariables false

theorem range_alloc {w : World} {b o : Nat} {cs : List Value} (h : w.rangeAt b o cs) (ob : Obj) : (w.alloc ob).rangeAt b o cs := World.rangeAt_alloc h ob
theorem range_set {w : World} {b o : Nat} {cs : List Value} (h : w.rangeAt b o cs) (p : Addr) (v : Value) (hp : p.block ≠ b) : (w.setCell p v).rangeAt b o cs := fun j u hu => by
  rw [World.cell?_setCell_other _ _ _ _ (fun e => by subst e; exact hp rfl)]
  exact h j u hu
theorem range_drew {w : World} {b o : Nat} {cs : List Value} (h : w.rangeAt b o cs) : w.drew.rangeAt b o cs := (World.rangeAt_drew w b o cs).2 h
theorem range_newA (w : World) (cs : Array Value) (t : TypeId) : (w.alloc (.cells cs t)).rangeAt w.heap.size 0 cs.toList := range_new w cs t
theorem there_newA (w : World) (cs : Array Value) (t : TypeId) (n : Nat) (hn : n ≤ cs.size) : (w.alloc (.cells cs t)).there w.heap.size 0 n := there_of (range_new w cs t) (free_new w cs t n) (by simpa using hn)
theorem there_allocA {w : World} {b o n : Nat} (h : w.there b o n) (ob : Obj) : (w.alloc ob).there b o n := World.there_alloc h ob
theorem there_set {w : World} {b o n : Nat} (h : w.there b o n) (p : Addr) (v : Value) : (w.setCell p v).there b o n := fun j hj => by
  obtain ⟨h1, h2⟩ := h j hj
  refine ⟨?_, by rw [World.frozen?_setCell]; exact h2⟩
  obtain ⟨u, hu⟩ := Option.isSome_iff_exists.1 h1
  by_cases e : p = ⟨b, o + j, none⟩
  · subst e; rw [World.cell?_setCell_same _ _ _ hu]; rfl
  · rw [World.cell?_setCell_other _ _ _ _ e, hu]; rfl
theorem there_drewA {w : World} {b o n : Nat} (h : w.there b o n) : w.drew.there b o n := (World.there_drew w b o n).2 h
/-- The load of a row. -/
theorem wpList_load_row {P : Program} {ops : Array Oper} {rest : List Oper} {op : Oper} {a : Act} {w : World} {Q : Exit → Act → World → Prop} (hgd : op.guard = none) (ty : TypeId) (x : Operand) (ho : op.op = .load ty x)
    (b o : Nat) (hx : a.eval x = .pointer (some ⟨b, o, none⟩)) (d : TypeDesc) (hu : P.underlying ty = some d) (hd : d.isRow = true) (c : Array Value) (hc : w.rangeAt b o c.toList) (hi : (P.info? ty).map (·.size) = some c.size)
    (h : wpList P ops Q rest (a.put op.dst (.agg c)) w) : wpList P ops Q (op :: rest) a w :=
  wpList_load_mid hgd ty x ho b o hx c.toList d hc hu hd (by simpa using hi) h
theorem touch_setCells (w : World) (b o : Nat) (vs : List Value) : Touch b o vs.length w (w.setCells b o vs) :=
  ⟨(below_setCells (B := 0) (Nat.zero_le _) _ _ _ (Below.refl 0 w)).size, fun p _ hp => World.cell?_setCells_out b _ o w p (fun e => by
        rcases hp with hp | hp | hp
        · exact absurd e hp
        · exact fun _ => .inl hp
        · exact fun _ => .inr hp), fun p _ => World.frozen?_setCells b _ o w p, fun base A hb _ hB => below_setCells hb _ _ _ hB⟩
/-- The store of a row, and what is known behind it. -/
theorem wpList_store_rowT {P : Program} {ops : Array Oper} {rest : List Oper} {op : Oper} {a : Act} {w : World} {Q : Exit → Act → World → Prop} (hgd : op.guard = none) (ty : TypeId) (x y : Operand) (ho : op.op = .store ty x y)
    (b o : Nat) (cells : Array Value) (hx : a.eval x = .pointer (some ⟨b, o, none⟩)) (hy : a.eval y = .agg cells)
    (ht : w.there b o cells.size) (hi : (P.info? ty).map (·.size) = some cells.size) (h1 : cells.all (·.oneCell') = true)
    (h : ∀ W : World, W.rangeAt b o cells.toList → Touch b o cells.size w W → wpList P ops Q rest (a.put op.dst undef) W) : wpList P ops Q (op :: rest) a w :=
  wpList_store_mid hgd ty x y ho b o cells hx hy ht hi h1 (h _ (World.rangeAt_setCells_same w b o cells.toList (by simpa using ht))
    ⟨(below_setCells (B := 0) (Nat.zero_le _) _ _ _ (Below.refl 0 w)).size, fun p _ hp => World.cell?_setCells_out b _ o w p (fun e => by
        have hl : cells.toList.length = cells.size := by simp
        rcases hp with hp | hp | hp
        · exact absurd e hp
        · exact fun _ => .inl hp
        · exact fun _ => .inr (by omega)), fun p _ => World.frozen?_setCells b _ o w p, fun base A hb _ hB => below_setCells hb _ _ _ hB⟩)
/-- A new variable of a row's type, its zero value a letter. -/
theorem wpList_alloc_row {P : Program} {ops : Array Oper} {rest : List Oper} {op : Oper} {a : Act} {w : World} {Q : Exit → Act → World → Prop} (hgd : op.guard = none) (ty : TypeId) (ho : op.op = .alloc ty) (Z : Array Value)
    (hz : ∀ w : World, (zeroValue ty).run P w = .ok (.agg Z) w) (h : wpList P ops Q rest (a.put op.dst (.pointer (some ⟨w.heap.size, 0, none⟩))) (w.alloc (.cells Z ty))) : wpList P ops Q (op :: rest) a w :=
  wpList_plain hgd fun K hK => by
    unfold Oper.wp execOp
    simp only [ho, Instr.alloc, Sem.run_bind, hz, newVar, newRow, Value.cells, Result.andThen_ok, Sem.run_pure, run_newObj_alloc]
    exact hK _ _ h
theorem wp_alloc_row {P : Program} {op : Oper} {a : Act} {w : World} {K : Act → World → Prop} {Q : Exit → Act → World → Prop} (ty : TypeId) (ho : op.op = .alloc ty) (Z : Array Value)
    (hz : ∀ w : World, (zeroValue ty).run P w = .ok (.agg Z) w) (h : K (a.put op.dst (.pointer (some ⟨w.heap.size, 0, none⟩))) (w.alloc (.cells Z ty))) : op.wp P a w K Q := by
  unfold Oper.wp execOp
  simp only [ho, Instr.alloc, Sem.run_bind, hz, newVar, newRow, Value.cells, Result.andThen_ok, Sem.run_pure, run_newObj_alloc]
  exact h
theorem results_row {P : Program} {fn : Func} {p : Tmp} {ty : TypeId} (h : fn.results = #[.cell p ty]) (tmps : Array Value) (w : World) (b o : Nat) (c : Array Value) (d : TypeDesc) (hp : tmps.getD p undef = .pointer (some ⟨b, o, none⟩))
    (hr : w.rangeAt b o c.toList) (hu : P.underlying ty = some d) (hd : d.isRow = true) (hi : (P.info? ty).map (·.size) = some c.size) : (results fn tmps).run P w = .ok (.agg c) w := by
  have hp' : tmps[p]?.getD undef = .pointer (some ⟨b, o, none⟩) := by simpa using hp
  have hl := run_loadVar_mid (P := P) w b o ty c.toList d hr hu hd (by simpa using hi)
  simp [results, h, hp', asAddr, hl]
theorem results_row_tmp {P : Program} {fn : Func} {p u : Tmp} {ty : TypeId} (h : fn.results = #[.cell p ty, .tmp u]) (tmps : Array Value) (w : World) (b o : Nat) (c : Array Value) (d : TypeDesc) (hp : tmps.getD p undef = .pointer (some ⟨b, o, none⟩))
    (hr : w.rangeAt b o c.toList) (hu : P.underlying ty = some d) (hd : d.isRow = true) (hi : (P.info? ty).map (·.size) = some c.size) : (results fn tmps).run P w = .ok (.tuple #[.agg c, tmps.getD u undef]) w := by
  have hp' : tmps[p]?.getD undef = .pointer (some ⟨b, o, none⟩) := by simpa using hp
  have hl := run_loadVar_mid (P := P) w b o ty c.toList d hr hu hd (by simpa using hi)
  simp [results, h, hp', asAddr, hl]
theorem results_row_row {P : Program} {fn : Func} {p q : Tmp} {ty uy : TypeId} (h : fn.results = #[.cell p ty, .cell q uy]) (tmps : Array Value) (w : World) (b o : Nat) (c : Array Value) (d : TypeDesc) (hp : tmps.getD p undef = .pointer (some ⟨b, o, none⟩))
    (hr : w.rangeAt b o c.toList) (hu : P.underlying ty = some d) (hd : d.isRow = true) (hi : (P.info? ty).map (·.size) = some c.size)
    (b' o' : Nat) (c' : Array Value) (d' : TypeDesc) (hp2 : tmps.getD q undef = .pointer (some ⟨b', o', none⟩))
    (hr' : w.rangeAt b' o' c'.toList) (hu' : P.underlying uy = some d') (hd' : d'.isRow = true) (hi' : (P.info? uy).map (·.size) = some c'.size) : (results fn tmps).run P w = .ok (.tuple #[.agg c, .agg c']) w := by
  have hp' : tmps[p]?.getD undef = .pointer (some ⟨b, o, none⟩) := by simpa using hp
  have hp3 : tmps[q]?.getD undef = .pointer (some ⟨b', o', none⟩) := by simpa using hp2
  have hl := run_loadVar_mid (P := P) w b o ty c.toList d hr hu hd (by simpa using hi)
  have hl' := run_loadVar_mid (P := P) w b' o' uy c'.toList d' hr' hu' hd' (by simpa using hi')
  simp [results, h, hp', hp3, asAddr, hl, hl']
theorem there_newB {b : Nat} (w : World) (cs : Array Value) (t : TypeId) (n : Nat) (hb : w.heap.size = b) (hn : n ≤ cs.size) : (w.alloc (.cells cs t)).there b 0 n := hb ▸ there_newA w cs t n hn
theorem range_newB {b : Nat} (w : World) (cs : Array Value) (t : TypeId) (hb : w.heap.size = b) : (w.alloc (.cells cs t)).rangeAt b 0 cs.toList := hb ▸ range_newA w cs t
theorem there_touch {w w' : World} {B b o n q m : Nat} (h : w.there b q m) (k : Touch B o n w w') (hb : b < w.heap.size) (hd : b ≠ B) : w'.there b q m := fun j hj => by
  rw [k.cell ⟨b, q + j, none⟩ hb (.inl hd), k.frozen ⟨b, q + j, none⟩ hb]
  exact h j hj
theorem there_belowA {X W : World} {b n : Nat} (h : X.there b 0 n) (hb : Below X.heap.size X W) (hl : b < X.heap.size) : W.there b 0 n := fun j hj => by
  rw [hb.cell (p := ⟨b, 0 + j, none⟩) hl, hb.frozen (p := ⟨b, 0 + j, none⟩) hl]
  exact h j hj
theorem range_below {X W : World} {b o : Nat} {cs : List Value} (h : X.rangeAt b o cs) (hb : Below X.heap.size X W) (hl : b < X.heap.size) : W.rangeAt b o cs := fun j v hv => by
  rw [hb.cell (p := ⟨b, o + j, none⟩) hl]
  exact h j v hv
/-- Guards: the operation at hand is a load (a store, a new variable) of just this type. -/
theorem is_loadT {P : Program} {w : World} {ops : Array Oper} {rest : List Oper} {a : Act} {Q : Exit → Act → World → Prop} {dst : Option Tmp} {T ty : TypeId} {m : Operand} {pos : String} {aft : Array Edge} (n : Nat) (_ : (T == n) = true)
    (h : wpList P ops Q ({ dst := dst, op := .load T m, type := ty, pos := pos, after := aft, guard := none } :: rest) a w) : wpList P ops Q ({ dst := dst, op := .load T m, type := ty, pos := pos, after := aft, guard := none } :: rest) a w := h
theorem is_storeT {P : Program} {w : World} {ops : Array Oper} {rest : List Oper} {a : Act} {Q : Exit → Act → World → Prop} {dst : Option Tmp} {T ty : TypeId} {m x : Operand} {pos : String} {aft : Array Edge} (n : Nat) (_ : (T == n) = true)
    (h : wpList P ops Q ({ dst := dst, op := .store T m x, type := ty, pos := pos, after := aft, guard := none } :: rest) a w) : wpList P ops Q ({ dst := dst, op := .store T m x, type := ty, pos := pos, after := aft, guard := none } :: rest) a w := h
theorem is_allocT {P : Program} {w : World} {ops : Array Oper} {rest : List Oper} {a : Act} {Q : Exit → Act → World → Prop} {dst : Option Tmp} {T ty : TypeId} {pos : String} {aft : Array Edge} (n : Nat) (_ : (T == n) = true)
    (h : wpList P ops Q ({ dst := dst, op := .alloc T, type := ty, pos := pos, after := aft, guard := none } :: rest) a w) : wpList P ops Q ({ dst := dst, op := .alloc T, type := ty, pos := pos, after := aft, guard := none } :: rest) a w := h
end Go.Proofs.Ytkkkjdbcckaedaa
namespace Go.Proofs.Ytkkkjdbcckaedaa
open Go.RowKit
set_option linter.unusedVariables false

theorem is_loadG {P : Program} {w : World} {ops : Array Oper} {rest : List Oper} {a : Act} {Q : Exit → Act → World → Prop} {dst : Option Tmp} {T ty : TypeId} {m : Operand} {pos : String} {aft : Array Edge} {j : Nat} {b : Bool} (n : Nat) (_ : (T == n) = true)
    (h : wpList P ops Q ({ dst := dst, op := .load T m, type := ty, pos := pos, after := aft, guard := some (j, b) } :: rest) a w) : wpList P ops Q ({ dst := dst, op := .load T m, type := ty, pos := pos, after := aft, guard := some (j, b) } :: rest) a w := h
theorem wpList_load_rowG {P : Program} {ops : Array Oper} {rest : List Oper} {op : Oper} {a : Act} {w : World} {Q : Exit → Act → World → Prop} (hw : Region.wanted op (yielded ops a.tmps) = true) (ty : TypeId) (x : Operand) (ho : op.op = .load ty x)
    (b o : Nat) (hx : a.eval x = .pointer (some ⟨b, o, none⟩)) (d : TypeDesc) (hu : P.underlying ty = some d) (hd : d.isRow = true) (c : Array Value) (hc : w.rangeAt b o c.toList) (hi : (P.info? ty).map (·.size) = some c.size)
    (h : wpList P ops Q rest (a.put op.dst (.agg c)) w) : wpList P ops Q (op :: rest) a w :=
  wpList_step fun K hK => by
    rw [if_pos hw]
    exact wp_load_mid ty x ho b o hx c.toList d hc hu hd (by simpa using hi) (hK _ _ h)
end Go.Proofs.Ytkkkjdbcckaedaa
namespace Go.Proofs.Ytkkkjdbcckaedaa
open Go.RowKit
set_option linter.unusedVariables false

/-- A range of cells that is known: its block, where it begins, whether it may be written, its cells. -/
structure Ent where
  b : Nat
  q : Nat
  fr : Bool
  cs : Array Value
def Ent.apart (x y : Ent) : Prop := x.b ≠ y.b ∨ x.q + x.cs.size ≤ y.q ∨ y.q + y.cs.size ≤ x.q
structure Ent.Good (B o n H : Nat) (W : World) (e : Ent) : Prop where
  lt : e.b < W.heap.size
  rng : W.rangeAt e.b e.q e.cs.toList
  free : e.fr = true → Free W e.b e.q e.cs.size
  own : e.fr = true → H ≤ e.b ∨ (e.b = B ∧ o ≤ e.q ∧ e.q + e.cs.size ≤ o + n)
/-- Of what lay in w only n cells of block B from o on may have turned; W holds the ranges. -/
structure St (B o n : Nat) (w : World) (es : List Ent) (W : World) : Prop where
  touch : Touch B o n w W
  good : ∀ e, e ∈ es → e.Good B o n w.heap.size W
  sep : es.Pairwise fun x y => (x.fr = true ∨ y.fr = true) → x.apart y
theorem Touch.own {B o n b q m : Nat} {w W W' : World} (h : Touch B o n w W) (k : Touch b q m W W') (hown : w.heap.size ≤ b ∨ (b = B ∧ o ≤ q ∧ q + m ≤ o + n)) : Touch B o n w W' :=
  ⟨Nat.le_trans h.size k.size,
   fun p hp hq => (k.cell p (Nat.lt_of_lt_of_le hp h.size) (by
     rcases hown with e | ⟨e, h1, h2⟩
     · exact .inl (by omega)
     · rcases hq with hq | hq | hq
       · exact .inl (by rw [e]; exact hq)
       · exact .inr (.inl (by omega))
       · exact .inr (.inr (by omega)))).trans (h.cell p hp hq),
   fun p hp => (k.frozen p (Nat.lt_of_lt_of_le hp h.size)).trans (h.frozen p hp),
   fun base A hb hs hA => k.below base A (by rcases hown with e | ⟨e, _⟩ <;> omega) (Nat.le_trans hs h.size) (h.below base A hb hs hA)⟩
theorem Touch.of_below {W W' : World} (h : Below W.heap.size W W') : Touch W.heap.size 0 0 W W' :=
  ⟨h.size, fun p hp _ => h.cell hp, fun p hp => h.frozen hp, fun base A hb _ hA => hA.trans (h.mono hb)⟩
theorem Touch.to_below {w W : World} {q m : Nat} (h : Touch w.heap.size q m w W) : Below w.heap.size w W := h.below _ _ (Nat.le_refl _) (Nat.le_refl _) (Below.refl _ _)
theorem Free.ext {W W' : World} {b q m : Nat} (h : Free W b q m) (k : ∀ j, j < m → W'.frozen? ⟨b, q + j, none⟩ = W.frozen? ⟨b, q + j, none⟩) : Free W' b q m := fun j hj => (k j hj).trans (h j hj)
/-- One entry turned. -/
inductive Upd : List Ent → Nat → Nat → Array Value → Array Value → List Ent → Prop
  | head (b q : Nat) (cs cs' : Array Value) (l : List Ent) : Upd (⟨b, q, true, cs⟩ :: l) b q cs cs' (⟨b, q, true, cs'⟩ :: l)
  | tail {l l' : List Ent} {b q : Nat} {cs cs' : Array Value} (x : Ent) (h : Upd l b q cs cs' l') : Upd (x :: l) b q cs cs' (x :: l')
theorem Upd.mem {es es' : List Ent} {b q : Nat} {cs cs' : Array Value} (h : Upd es b q cs cs' es') : (⟨b, q, true, cs⟩ : Ent) ∈ es := by
  induction h with
  | head => exact .head _
  | tail x _ ih => exact .tail _ ih
section
variable {B o n : Nat} {w W W' : World} {es es' : List Ent}
theorem St.start (B o n : Nat) (w : World) : St B o n w [] w := ⟨Touch.refl _ _ _ _, fun e h => (by cases h), List.Pairwise.nil⟩
theorem St.size (h : St B o n w es W) : w.heap.size ≤ W.heap.size := h.touch.size
theorem St.put {b q : Nat} {cs cs' : Array Value} (h : St B o n w es W) (hu : Upd es b q cs cs' es') (hl : cs'.size = cs.size) (ht : Touch b q cs.size W W') (hr : W'.rangeAt b q cs'.toList) : St B o n w es' W' := by
  have hg := h.good _ hu.mem
  refine ⟨h.touch.own ht (hg.own rfl), ?_, ?_⟩
  · have hsep := h.sep
    have hgood := h.good
    clear h hg
    induction hu with
    | head b q cs cs' l =>
      have hs := (List.pairwise_cons.1 hsep).1
      have g0 := hgood _ (List.Mem.head _)
      intro e he
      rcases List.mem_cons.1 he with rfl | he'
      · exact ⟨Nat.lt_of_lt_of_le g0.lt ht.size, hr, fun _ => (hl ▸ g0.free rfl).ext (fun j _ => ht.frozen _ g0.lt), fun _ => by have := g0.own rfl; simpa [hl] using this⟩
      · have g := hgood e (List.Mem.tail _ he')
        have ha := hs _ he' (.inl rfl)
        refine ⟨Nat.lt_of_lt_of_le g.lt ht.size, ht.range g.lt g.rng ?_, fun hf => (g.free hf).ext (fun j _ => ht.frozen _ g.lt), g.own⟩
        rcases ha with ha | ha | ha
        · exact .inl (fun e => ha e.symm)
        · exact .inr (.inr ha)
        · exact .inr (.inl (by simpa using ha))
    | @tail l l' b q cs cs' x hu ih =>
      have hs := (List.pairwise_cons.1 hsep).1
      intro e he
      rcases List.mem_cons.1 he with rfl | he'
      · have g := hgood e (List.Mem.head _)
        have ha := hs _ hu.mem (.inr rfl)
        refine ⟨Nat.lt_of_lt_of_le g.lt ht.size, ht.range g.lt g.rng ?_, fun hf => (g.free hf).ext (fun j _ => ht.frozen _ g.lt), g.own⟩
        rcases ha with ha | ha | ha
        · exact .inl ha
        · exact .inr (.inl (by simpa using ha))
        · exact .inr (.inr ha)
      · exact ih hl ht hr (List.Pairwise.of_cons hsep) (fun e he => hgood e (List.Mem.tail _ he)) e he'
  · have hsep := h.sep
    clear h hg ht hr
    induction hu with
    | head b q cs cs' l =>
      refine List.pairwise_cons.2 ⟨fun y hy hf => ?_, List.Pairwise.of_cons hsep⟩
      have := (List.pairwise_cons.1 hsep).1 _ hy (.inl rfl)
      simpa [Ent.apart, hl] using this
    | @tail l l' b q cs cs' x hu ih =>
      refine List.pairwise_cons.2 ⟨fun y hy hf => ?_, ih hl (List.Pairwise.of_cons hsep)⟩
      have hs := fun y hy => (List.pairwise_cons.1 hsep).1 y hy
      clear ih hsep
      revert y
      induction hu with
      | head b q cs cs' l =>
        intro y hy hf
        rcases List.mem_cons.1 hy with rfl | hy'
        · have := hs _ (List.Mem.head _) (.inr rfl)
          simpa [Ent.apart, hl] using this
        · exact hs _ (List.Mem.tail _ hy') hf
      | tail x' hu ih =>
        intro y hy hf
        rcases List.mem_cons.1 hy with rfl | hy'
        · exact hs _ (List.Mem.head _) hf
        · exact ih hl (fun y h => hs y (List.Mem.tail _ h)) y hy' hf
theorem St.call (h : St B o n w es W) (hb : Below W.heap.size W W') : St B o n w es W' :=
  ⟨h.touch.own (Touch.of_below hb) (.inl h.touch.size), fun e he => by
    have g := h.good e he
    exact ⟨Nat.lt_of_lt_of_le g.lt hb.size, range_below g.rng hb g.lt, fun hf => (g.free hf).ext (fun j _ => hb.frozen (p := ⟨e.b, e.q + j, none⟩) g.lt), g.own⟩, h.sep⟩
theorem St.new (h : St B o n w es W) (c : Array Value) (t : TypeId) : St B o n w (⟨W.heap.size, 0, true, c⟩ :: es) (W.alloc (.cells c t)) := by
  have h1 : St B o n w es (W.alloc (.cells c t)) := h.call ((Below.refl _ _).alloc (Nat.le_refl _) _)
  refine ⟨h1.touch, fun e he => ?_, List.pairwise_cons.2 ⟨fun y hy _ => .inl ?_, h.sep⟩⟩
  · rcases List.mem_cons.1 he with rfl | he'
    · exact ⟨by simp, range_new W c t, fun _ => free_new W c t c.size, fun _ => .inl h.size⟩
    · exact h1.good e he'
  · have := (h.good y hy).lt
    show W.heap.size ≠ y.b
    omega
theorem St.drew (h : St B o n w es W) : St B o n w es W.drew := h.call (Below.refl _ _).drew
theorem St.drewN (h : St B o n w es W) (k : Nat) : St B o n w es (W.drewN k) := h.call ⟨rfl, rfl, rfl, Nat.le_refl _, fun _ _ => rfl⟩
theorem St.sub (h : St B o n w es W) (hs : es'.Sublist es) : St B o n w es' W := ⟨h.touch, fun e he => h.good e (hs.subset he), h.sep.sublist hs⟩
theorem St.rest {e : Ent} (h : St B o n w (e :: es) W) : St B o n w es W := h.sub (List.sublist_cons_self _ _)
/-- What is there to be read, and nobody here writes it. -/
theorem St.given {b q : Nat} {cs : Array Value} (h : St w.heap.size 0 0 w es W) (hr : w.rangeAt b q cs.toList) (hb : b < w.heap.size) : St w.heap.size 0 0 w (⟨b, q, false, cs⟩ :: es) W := by
  refine ⟨h.touch, fun e he => ?_, List.pairwise_cons.2 ⟨fun y hy hf => .inl ?_, h.sep⟩⟩
  · rcases List.mem_cons.1 he with rfl | he'
    · exact ⟨Nat.lt_of_lt_of_le hb h.size, h.touch.range hb hr (.inl (Nat.ne_of_lt hb)), fun hf => (by cases hf), fun hf => (by cases hf)⟩
    · exact h.good e he'
  · have hy' : y.fr = true := by rcases hf with hf | hf; cases hf; exact hf
    show b ≠ y.b
    rcases (h.good y hy).own hy' with g | ⟨_, _, g⟩
    · omega
    · intro e
      rcases (h.good y hy).own hy' with g | ⟨g, _⟩ <;> omega
/-- What a method is handed: a range that it may write. -/
theorem St.handed {B o : Nat} {w : World} {c : Array Value} (hr : w.rangeAt B o c.toList) (hf : Free w B o c.size) (hB : B < w.heap.size) : St B o c.size w [⟨B, o, true, c⟩] w := by
  refine ⟨Touch.refl _ _ _ _, fun e he => ?_, List.pairwise_cons.2 ⟨fun y hy => (by cases hy), List.Pairwise.nil⟩⟩
  rcases List.mem_cons.1 he with rfl | he'
  · exact ⟨hB, hr, fun _ => hf, fun _ => .inr ⟨rfl, Nat.le_refl _, Nat.le_refl _⟩⟩
  · cases he'
theorem St.below (h : St w.heap.size o n w es W) : Below w.heap.size w W := h.touch.to_below
theorem St.range {e : Ent} (h : St B o n w es W) (hm : e ∈ es) : W.rangeAt e.b e.q e.cs.toList := (h.good e hm).rng
theorem St.there {e : Ent} (h : St B o n w es W) (hm : e ∈ es) (hf : e.fr = true) : W.there e.b e.q e.cs.size := there_of (h.good e hm).rng ((h.good e hm).free hf) (by simp)
theorem St.cell {b q j : Nat} {fr : Bool} {cs : Array Value} {v : Value} (h : St B o n w es W) (hm : (⟨b, q, fr, cs⟩ : Ent) ∈ es) (hv : cs[j]? = some v) : W.cell? ⟨b, q + j, none⟩ = some v :=
  (h.good _ hm).rng j v (by simpa using hv)
theorem St.frozen {b q j : Nat} {cs : Array Value} (h : St B o n w es W) (hm : (⟨b, q, true, cs⟩ : Ent) ∈ es) (hj : j < cs.size) : W.frozen? ⟨b, q + j, none⟩ = false := (h.good _ hm).free rfl j hj
/-- A range in two, and two in one. -/
theorem St.split {b q : Nat} {fr : Bool} {c1 c2 c : Array Value} (h : St B o n w (⟨b, q, fr, c⟩ :: es) W) (hc : c = c1 ++ c2) : St B o n w (⟨b, q, fr, c1⟩ :: ⟨b, q + c1.size, fr, c2⟩ :: es) W := by
  subst hc
  have g := h.good _ (List.Mem.head _)
  have gr : W.rangeAt b q (c1.toList ++ c2.toList) := by have := g.rng; simpa using this
  have hs := (List.pairwise_cons.1 h.sep).1
  refine ⟨h.touch, fun e he => ?_, List.pairwise_cons.2 ⟨fun y hy hf => ?_, List.pairwise_cons.2 ⟨fun y hy hf => ?_, h.sep.of_cons⟩⟩⟩
  · rcases List.mem_cons.1 he with rfl | he
    · refine ⟨g.lt, range_part (xs := []) (ys := c1.toList) (zs := c2.toList) gr, fun hf j hj => g.free hf j (by simp at hj ⊢; omega), fun hf => ?_⟩
      rcases g.own hf with k | ⟨k1, k2, k3⟩
      · exact .inl k
      · simp at k3
        exact .inr ⟨k1, k2, by show q + c1.size ≤ _; omega⟩
    rcases List.mem_cons.1 he with rfl | he
    · refine ⟨g.lt, ?_, fun hf j hj => ?_, fun hf => ?_⟩
      · have := range_part (xs := c1.toList) (ys := c2.toList) (zs := []) (by simpa using gr)
        simpa using this
      · have := g.free hf (c1.size + j) (by simp; omega)
        rwa [← Nat.add_assoc] at this
      · rcases g.own hf with k | ⟨k1, k2, k3⟩
        · exact .inl k
        · simp at k3
          exact .inr ⟨k1, by show o ≤ q + c1.size; simp at k2; omega, by show q + c1.size + c2.size ≤ _; omega⟩
    · exact h.good e (List.Mem.tail _ he)
  · rcases List.mem_cons.1 hy with rfl | hy
    · exact .inr (.inl (Nat.le_refl _))
    · have := hs _ hy hf
      simp only [Ent.apart, Array.size_append] at this ⊢
      omega
  · have := hs _ hy hf
    simp only [Ent.apart, Array.size_append] at this ⊢
    omega
theorem St.join {b q q' : Nat} {fr : Bool} {c1 c2 c : Array Value} (h : St B o n w (⟨b, q, fr, c1⟩ :: ⟨b, q', fr, c2⟩ :: es) W) (hq : q' = q + c1.size) (hc : c1 ++ c2 = c) (hne : ∀ y, y ∈ es → y.cs.size ≠ 0) : St B o n w (⟨b, q, fr, c⟩ :: es) W := by
  subst hc hq
  have g1 := h.good _ (List.Mem.head _)
  have g2 := h.good _ (List.Mem.tail _ (List.Mem.head _))
  have s1 := (List.pairwise_cons.1 h.sep).1
  have s2 := (List.pairwise_cons.1 h.sep.of_cons).1
  refine ⟨h.touch, fun e he => ?_, List.pairwise_cons.2 ⟨fun y hy hf => ?_, h.sep.of_cons.of_cons⟩⟩
  · rcases List.mem_cons.1 he with rfl | he
    · refine ⟨g1.lt, ?_, fun hf j hj => ?_, fun hf => ?_⟩
      · have := range_join g1.rng (by simpa using g2.rng)
        simpa using this
      · by_cases hj1 : j < c1.size
        · exact g1.free hf j hj1
        · have := g2.free hf (j - c1.size) (by simp at hj ⊢; omega)
          rwa [show q + c1.size + (j - c1.size) = q + j by omega] at this
      · rcases g1.own hf with k | ⟨k1, k2, k3⟩
        · exact .inl k
        · rcases g2.own hf with m | ⟨m1, m2, m3⟩
          · exact .inl m
          · exact .inr ⟨k1, k2, by simp; simp at m3; omega⟩
    · exact h.good e (List.Mem.tail _ (List.Mem.tail _ he))
  · have a1 := s1 _ (List.Mem.tail _ hy) hf
    have a2 := s2 _ hy hf
    simp only [Ent.apart, Array.size_append] at a1 a2 ⊢
    have := hne y hy
    omega
end
end Go.Proofs.Ytkkkjdbcckaedaa
namespace Go.Proofs.Ytkkkjdbcckaedaa
open Go.RowKit
set_option linter.unusedVariables false

def nth : List Value → Nat → Option Value
  | [], _ => none
  | x :: _, 0 => some x
  | _ :: l, n + 1 => nth l n
theorem nth_get (l : List Value) (i : Nat) : nth l i = l[i]? := by
  induction l generalizing i with
  | nil => rfl
  | cons x l ih => cases i with
    | zero => rfl
    | succ i => simpa [nth] using ih i
/-- What lies at an offset. -/
def Look (es : List Ent) (b j : Nat) (k : Value → Prop) : Prop := ∃ q fr cs v, (⟨b, q, fr, cs⟩ : Ent) ∈ es ∧ q ≤ j ∧ nth cs.toList (j - q) = some v ∧ k v
theorem Look.here {b q j : Nat} {fr : Bool} {cs : Array Value} {l : List Ent} {k : Value → Prop} {v : Value} (hq : q ≤ j) (hv : nth cs.toList (j - q) = some v) (h : k v) : Look (⟨b, q, fr, cs⟩ :: l) b j k := ⟨q, fr, cs, v, .head _, hq, hv, h⟩
theorem Look.next {x : Ent} {l : List Ent} {b j : Nat} {k : Value → Prop} (h : Look l b j k) : Look (x :: l) b j k := by
  obtain ⟨q, fr, cs, v, hm, hq, hv, hk⟩ := h
  exact ⟨q, fr, cs, v, .tail _ hm, hq, hv, hk⟩
/-- A whole range. -/
def Row (es : List Ent) (b q : Nat) (k : Array Value → Prop) : Prop := ∃ fr cs, (⟨b, q, fr, cs⟩ : Ent) ∈ es ∧ k cs
theorem Row.here {b q : Nat} {fr : Bool} {cs : Array Value} {l : List Ent} {k : Array Value → Prop} (h : k cs) : Row (⟨b, q, fr, cs⟩ :: l) b q k := ⟨fr, cs, .head _, h⟩
theorem Row.next {x : Ent} {l : List Ent} {b q : Nat} {k : Array Value → Prop} (h : Row l b q k) : Row (x :: l) b q k := by
  obtain ⟨fr, cs, hm, hk⟩ := h
  exact ⟨fr, cs, .tail _ hm, hk⟩
/-- A whole range turned. -/
def Turn (es : List Ent) (b q : Nat) (c : Array Value) (k : List Ent → Prop) : Prop := ∃ cs es', Upd es b q cs c es' ∧ c.size = cs.size ∧ k es'
theorem Turn.here {b q : Nat} {cs c : Array Value} {l : List Ent} {k : List Ent → Prop} (hl : c.size = cs.size) (h : k (⟨b, q, true, c⟩ :: l)) : Turn (⟨b, q, true, cs⟩ :: l) b q c k := ⟨cs, _, .head _ _ _ _ _, hl, h⟩
theorem Turn.next {x : Ent} {l : List Ent} {b q : Nat} {c : Array Value} {k : List Ent → Prop} (h : Turn l b q c fun l' => k (x :: l')) : Turn (x :: l) b q c k := by
  obtain ⟨cs, es', hu, hl, hk⟩ := h
  exact ⟨cs, _, .tail x hu, hl, hk⟩
/-- One cell turned. -/
def Turn1 (es : List Ent) (b j : Nat) (v : Value) (k : List Ent → Prop) : Prop := ∃ q cs es', q ≤ j ∧ j - q < cs.size ∧ Upd es b q cs (cs.setIfInBounds (j - q) v) es' ∧ k es'
theorem Turn1.here {b q j : Nat} {cs : Array Value} {v : Value} {l : List Ent} {k : List Ent → Prop} (hq : q ≤ j) (hl : j - q < cs.size) (h : k (⟨b, q, true, cs.setIfInBounds (j - q) v⟩ :: l)) : Turn1 (⟨b, q, true, cs⟩ :: l) b j v k := ⟨q, cs, _, hq, hl, .head _ _ _ _ _, h⟩
theorem Turn1.next {x : Ent} {l : List Ent} {b j : Nat} {v : Value} {k : List Ent → Prop} (h : Turn1 l b j v fun l' => k (x :: l')) : Turn1 (x :: l) b j v k := by
  obtain ⟨q, cs, es', hq, hl, hu, hk⟩ := h
  exact ⟨q, cs, _, hq, hl, .tail x hu, hk⟩

/-! ### One cell, loaded and stored -/
theorem run_loadVar_one {P : Program} (w : World) (p : Addr) (ty : TypeId) (v : Value) (d : TypeDesc) (hc : w.cell? p = some v) (hu : P.underlying ty = some d) (hd : d.isRow = false) : (loadVar ty p).run P w = .ok v w := by
  have hagg : (isAgg ty).run P w = .ok false w := by
    unfold isAgg
    rw [Sem.run_bind, run_underlying hu w]
    cases d <;> simp_all
  simp [loadVar, Sem.run_bind, hagg, hc]
theorem run_storeVar_one {P : Program} (w : World) (p : Addr) (ty : TypeId) (v : Value) (hp : ∃ b j, p = ⟨b, j, none⟩) (hc : (w.cell? p).isSome = true) (hf : w.frozen? p = false) (hi : (P.info? ty).map (·.size) = some 1) (hv : v.cells = #[v]) (h1 : v.oneCell' = true) :
    (storeVar ty p v).run P w = .ok () (w.setCell p v) := by
  obtain ⟨b, j, rfl⟩ := hp
  have := run_storeCells_cells (P := P) b j [v] 0 w (fun i hi => by simp at hi; subst hi; simpa using hc) (fun i hi => by simp at hi; subst hi; simpa using hf) (fun u hu => by simp at hu; subst hu; exact h1)
  cases hq : P.info? ty with
  | none => simp [hq] at hi
  | some i =>
    have hs : i.size = 1 := by simpa [hq] using hi
    simp only [Nat.add_zero] at this
    have h2 : (storeCells ⟨b, j, none⟩ [v]).run P w = .ok () (w.setCell ⟨b, j, none⟩ v) := by simpa [World.setCells] using this
    simp [storeVar, sizeOf, typeInfo, hq, hv, hs, h2]
section
variable {P : Program} {ops : Array Oper} {rest : List Oper} {op : Oper} {a : Act} {Q : Exit → Act → World → Prop} {K : Act → World → Prop} {B o n : Nat} {w W : World} {es es' : List Ent}
theorem wp_alloc_st (hS : St B o n w es W) (ty : TypeId) (ho : op.op = .alloc ty) (Z : Array Value) (hz : ∀ w : World, (zeroValue ty).run P w = .ok (.agg Z) w)
    (h : ∀ b W', St B o n w (⟨b, 0, true, Z⟩ :: es) W' → K (a.put op.dst (.pointer (some ⟨b, 0, none⟩))) W') : op.wp P a W K Q :=
  wp_alloc_row ty ho Z hz (h _ _ (hS.new Z ty))
theorem wp_alloc1_st (hS : St B o n w es W) (ty : TypeId) (ho : op.op = .alloc ty) (z : Value) (hz : ∀ w : World, (zeroValue ty).run P w = .ok z w) (hz1 : z.cells = #[z])
    (h : ∀ b W', St B o n w (⟨b, 0, true, #[z]⟩ :: es) W' → K (a.put op.dst (.pointer (some ⟨b, 0, none⟩))) W') : op.wp P a W K Q := by
  unfold Oper.wp execOp
  simp only [ho, Instr.alloc, Sem.run_bind, hz, newVar, newRow, hz1, Result.andThen_ok, Sem.run_pure, run_newObj_alloc]
  exact h _ _ (hS.new #[z] ty)
theorem wp_box_st (hS : St B o n w es W) (ty : TypeId) (x : Operand) (ho : op.op = .box ty x) (c : Array Value) (hx : a.eval x = .agg c)
    (h : ∀ b W', St B o n w (⟨b, 0, true, c⟩ :: es) W' → K (a.put op.dst (.pointer (some ⟨b, 0, none⟩))) W') : op.wp P a W K Q := by
  unfold Oper.wp execOp
  simp only [ho, hx, Instr.box, Sem.run_bind, newVar, newRow, Value.cells, Result.andThen_ok, Sem.run_pure, run_newObj_alloc]
  exact h _ _ (hS.new c ty)
theorem wp_box1_st (hS : St B o n w es W) (ty : TypeId) (x : Operand) (ho : op.op = .box ty x) (v : Value) (hx : a.eval x = v) (hv : v.cells = #[v])
    (h : ∀ b W', St B o n w (⟨b, 0, true, #[v]⟩ :: es) W' → K (a.put op.dst (.pointer (some ⟨b, 0, none⟩))) W') : op.wp P a W K Q := by
  unfold Oper.wp execOp
  simp only [ho, hx, Instr.box, Sem.run_bind, newVar, newRow, hv, Result.andThen_ok, Sem.run_pure, run_newObj_alloc]
  exact h _ _ (hS.new #[v] ty)
theorem wp_load_st (hS : St B o n w es W) (ty : TypeId) (x : Operand) (ho : op.op = .load ty x) (b q : Nat) (hx : a.eval x = .pointer (some ⟨b, q, none⟩)) (d : TypeDesc) (hu : P.underlying ty = some d) (hd : d.isRow = true)
    (h : Row es b q fun c => (P.info? ty).map (·.size) = some c.size ∧ K (a.put op.dst (.agg c)) W) : op.wp P a W K Q := by
  obtain ⟨fr, cs, hm, hi, hk⟩ := h
  exact wp_load_mid ty x ho b q hx cs.toList d (hS.range hm) hu hd (by simpa using hi) (by simpa using hk)
theorem wp_load1_st (hS : St B o n w es W) (ty : TypeId) (x : Operand) (ho : op.op = .load ty x) (b j : Nat) (hx : a.eval x = .pointer (some ⟨b, j, none⟩)) (d : TypeDesc) (hu : P.underlying ty = some d) (hd : d.isRow = false)
    (h : Look es b j fun v => K (a.put op.dst v) W) : op.wp P a W K Q := by
  obtain ⟨q, fr, cs, v, hm, hq, hv, hk⟩ := h
  have hc : W.cell? ⟨b, j, none⟩ = some v := by
    have := hS.cell hm (j := j - q) (v := v) (by rw [nth_get] at hv; simpa using hv)
    rwa [show q + (j - q) = j by omega] at this
  unfold Oper.wp execOp
  simp only [ho, hx, Instr.loadAt, Instr.sureAddr, Sem.run_bind, Sem.run_pure, Result.andThen_ok, run_loadVar_one W _ ty v d hc hu hd]
  exact hk
theorem St.turn {b q : Nat} {c cs : Array Value} (hS : St B o n w es W) (hu : Upd es b q cs c es') (hl : c.size = cs.size) : St B o n w es' (W.setCells b q c.toList) := by
  have ht := touch_setCells W b q c.toList
  have h2 : W.there b q c.toList.length := by
    have := hS.there hu.mem rfl
    simpa [hl] using this
  exact hS.put hu hl (by simpa [hl] using ht) (World.rangeAt_setCells_same W b q c.toList h2)
theorem wp_store_st (hS : St B o n w es W) (ty : TypeId) (x y : Operand) (ho : op.op = .store ty x y) (b q : Nat) (c : Array Value) (hx : a.eval x = .pointer (some ⟨b, q, none⟩)) (hy : a.eval y = .agg c)
    (hi : (P.info? ty).map (·.size) = some c.size) (h1 : c.all (·.oneCell') = true) (h : Turn es b q c fun es' => ∀ W', St B o n w es' W' → K (a.put op.dst undef) W') : op.wp P a W K Q := by
  obtain ⟨cs, es', hu, hl, hk⟩ := h
  refine wp_store_mid ty x y ho b q c hx hy ?_ hi h1 (hk _ (hS.turn hu hl))
  have := hS.there hu.mem rfl
  rw [hl]
  exact this
theorem St.turn1 {b q j : Nat} {cs : Array Value} {v : Value} (hS : St B o n w es W) (hq : q ≤ j) (hj : j - q < cs.size) (hu : Upd es b q cs (cs.setIfInBounds (j - q) v) es') : St B o n w es' (W.setCell ⟨b, j, none⟩ v) := by
  have ht : Touch b q cs.size W (W.setCell ⟨b, j, none⟩ v) := (Touch.refl b q cs.size W).setCell j hq (by omega) v
  refine hS.put hu (by simp) ht ?_
  have hr := hS.range hu.mem
  intro i u hi
  simp only [Array.getElem?_toList, Array.getElem?_setIfInBounds] at hi
  by_cases e : j - q = i
  · subst e
    rw [if_pos rfl, if_pos hj] at hi
    cases hi
    have : W.cell? ⟨b, j, none⟩ = some cs[j - q] := by
      have := hr (j - q) cs[j - q] (by simp [hj])
      rwa [show (⟨b, q, true, cs⟩ : Ent).q + (j - q) = j by show q + (j - q) = j; omega] at this
    rw [show q + (j - q) = j by omega]
    exact World.cell?_setCell_same _ _ _ this
  · rw [if_neg e] at hi
    rw [World.cell?_setCell_other _ _ _ _ (by intro h; simp at h; all_goals omega)]
    exact hr i u (by simpa using hi)
theorem wp_store1_st (hS : St B o n w es W) (ty : TypeId) (x y : Operand) (ho : op.op = .store ty x y) (b j : Nat) (v : Value) (hx : a.eval x = .pointer (some ⟨b, j, none⟩)) (hy : a.eval y = v)
    (hi : (P.info? ty).map (·.size) = some 1) (hv : v.cells = #[v]) (h1 : v.oneCell' = true) (h : Turn1 es b j v fun es' => ∀ W', St B o n w es' W' → K (a.put op.dst undef) W') : op.wp P a W K Q := by
  obtain ⟨q, cs, es', hq, hl, hu, hk⟩ := h
  have hc : (W.cell? ⟨b, j, none⟩).isSome = true := by
    have := hS.range hu.mem (j - q) cs[j - q] (by simp [hl])
    rw [show (⟨b, q, true, cs⟩ : Ent).q + (j - q) = j by show q + (j - q) = j; omega] at this
    rw [this]
    rfl
  have hf : W.frozen? ⟨b, j, none⟩ = false := by
    have := hS.frozen hu.mem hl
    rwa [show q + (j - q) = j by omega] at this
  unfold Oper.wp execOp
  simp only [ho, hx, hy, Instr.storeAt, Instr.sureAddr, Sem.run_bind, Sem.run_pure, Result.andThen_ok, run_storeVar_one W _ ty v ⟨_, _, rfl⟩ hc hf hi hv h1]
  exact hk _ (hS.turn1 hq hl hu)
/-! ### At the list of a plain region's operations -/
theorem wpList_wanted (hw : Region.wanted op (yielded ops a.tmps) = true) (h : op.wp P a W (fun a w => wpList P ops Q rest a w) Q) : wpList P ops Q (op :: rest) a W :=
  wpList_step fun K hK => by
    rw [if_pos hw]
    exact Oper.wp_mono (fun a w h => hK a w h) h
end
/-- A part of a range, loaded and stored. -/
def Sub (es : List Ent) (b j : Nat) (c : Array Value) (k : Prop) : Prop := ∃ q fr cs, (⟨b, q, fr, cs⟩ : Ent) ∈ es ∧ q ≤ j ∧ (cs.toList.drop (j - q)).take c.size = c.toList ∧ k
theorem Sub.here {b q j : Nat} {fr : Bool} {cs c : Array Value} {l : List Ent} {k : Prop} (hq : q ≤ j) (hc : (cs.toList.drop (j - q)).take c.size = c.toList) (h : k) : Sub (⟨b, q, fr, cs⟩ :: l) b j c k := ⟨q, fr, cs, .head _, hq, hc, h⟩
theorem Sub.next {x : Ent} {l : List Ent} {b j : Nat} {c : Array Value} {k : Prop} (h : Sub l b j c k) : Sub (x :: l) b j c k := by
  obtain ⟨q, fr, cs, hm, hq, hc, hk⟩ := h
  exact ⟨q, fr, cs, .tail _ hm, hq, hc, hk⟩
def SubTurn (es : List Ent) (b j : Nat) (c cs' : Array Value) (k : List Ent → Prop) : Prop :=
  ∃ q cs es', q ≤ j ∧ j - q + c.size ≤ cs.size ∧ cs'.toList = cs.toList.take (j - q) ++ (c.toList ++ cs.toList.drop (j - q + c.size)) ∧ Upd es b q cs cs' es' ∧ k es'
theorem SubTurn.here {b q j : Nat} {cs c cs' : Array Value} {l : List Ent} {k : List Ent → Prop} (hq : q ≤ j) (hl : j - q + c.size ≤ cs.size) (hc : cs'.toList = cs.toList.take (j - q) ++ (c.toList ++ cs.toList.drop (j - q + c.size))) (h : k (⟨b, q, true, cs'⟩ :: l)) : SubTurn (⟨b, q, true, cs⟩ :: l) b j c cs' k := ⟨q, cs, _, hq, hl, hc, .head _ _ _ _ _, h⟩
theorem SubTurn.next {x : Ent} {l : List Ent} {b j : Nat} {c cs' : Array Value} {k : List Ent → Prop} (h : SubTurn l b j c cs' fun l' => k (x :: l')) : SubTurn (x :: l) b j c cs' k := by
  obtain ⟨q, cs, es', hq, hl, hc, hu, hk⟩ := h
  exact ⟨q, cs, _, hq, hl, hc, .tail x hu, hk⟩
section
variable {P : Program} {ops : Array Oper} {rest : List Oper} {op : Oper} {a : Act} {Q : Exit → Act → World → Prop} {K : Act → World → Prop} {B o n : Nat} {w W : World} {es es' : List Ent}
theorem sub_range {W : World} {b q j : Nat} {cs c : Array Value} (hr : W.rangeAt b q cs.toList) (hq : q ≤ j) (hc : (cs.toList.drop (j - q)).take c.size = c.toList) : W.rangeAt b j c.toList := fun i v hv => by
  have hi : i < c.size := by simpa using (List.getElem?_eq_some_iff.1 hv).1
  rw [← hc, List.getElem?_take_of_lt hi, List.getElem?_drop] at hv
  have := hr _ _ hv
  rwa [show q + (j - q + i) = j + i by omega] at this
theorem wp_load_sub_st (hS : St B o n w es W) (ty : TypeId) (x : Operand) (ho : op.op = .load ty x) (b j : Nat) (hx : a.eval x = .pointer (some ⟨b, j, none⟩)) (d : TypeDesc) (hu : P.underlying ty = some d) (hd : d.isRow = true) (c : Array Value)
    (hi : (P.info? ty).map (·.size) = some c.size) (h : Sub es b j c (K (a.put op.dst (.agg c)) W)) : op.wp P a W K Q := by
  obtain ⟨q, fr, cs, hm, hq, hc, hk⟩ := h
  exact wp_load_mid ty x ho b j hx c.toList d (sub_range (hS.range hm) hq hc) hu hd (by simpa using hi) (by simpa using hk)
theorem wp_store_sub_st (hS : St B o n w es W) (ty : TypeId) (x y : Operand) (ho : op.op = .store ty x y) (b j : Nat) (c cs' : Array Value) (hx : a.eval x = .pointer (some ⟨b, j, none⟩)) (hy : a.eval y = .agg c)
    (hi : (P.info? ty).map (·.size) = some c.size) (h1 : c.all (·.oneCell') = true) (h : SubTurn es b j c cs' fun es' => ∀ W', St B o n w es' W' → K (a.put op.dst undef) W') : op.wp P a W K Q := by
  obtain ⟨q, cs, es', hq, hl, hc, hu, hk⟩ := h
  have hth : W.there b j c.size := by
    have h0 := hS.there hu.mem rfl
    intro i hi
    have := h0 (j - q + i) (show j - q + i < cs.size by omega)
    rwa [show (⟨b, q, true, cs⟩ : Ent).q + (j - q + i) = j + i by show q + (j - q + i) = j + i; omega] at this
  refine wp_store_mid ty x y ho b j c hx hy hth hi h1 (hk _ ?_)
  have hr := hS.range hu.mem
  have ht := touch_setCells W b j c.toList
  have hcl : cs'.size = cs.size := by
    have := congrArg List.length hc
    simp at this
    omega
  refine hS.put hu hcl (ht.wide hq (by simp; omega)) ?_
  rw [hc]
  have hs := World.rangeAt_setCells_same W b j c.toList (by simpa using hth)
  have r1 : (W.setCells b j c.toList).rangeAt b q (cs.toList.take (j - q)) := fun i v hv => by
    have hi : i < j - q := by have := (List.getElem?_eq_some_iff.1 hv).1; simp at this; omega
    rw [World.cell?_setCells_out b _ j W _ (fun _ _ => .inl (by show q + i < j; omega))]
    exact hr i v (by rwa [List.getElem?_take_of_lt hi] at hv)
  have r3 : (W.setCells b j c.toList).rangeAt b (j + c.size) (cs.toList.drop (j - q + c.size)) := fun i v hv => by
    rw [World.cell?_setCells_out b _ j W _ (fun _ _ => .inr (by show j + c.toList.length ≤ j + c.size + i; simp))]
    rw [List.getElem?_drop] at hv
    have := hr _ _ hv
    rwa [show (⟨b, q, true, cs⟩ : Ent).q + (j - q + c.size + i) = j + c.size + i by show q + (j - q + c.size + i) = _; omega] at this
  have hlen : (cs.toList.take (j - q)).length = j - q := by simp; omega
  refine range_join r1 ?_
  rw [hlen, show q + (j - q) = j by omega]
  exact range_join hs (by simpa using r3)
end
/-- A type of one cell. -/
def Scalar (P : Program) (ty : TypeId) : Prop := (∃ d, P.underlying ty = some d ∧ d.isRow = false) ∧ (P.info? ty).map (·.size) = some 1
section
variable {P : Program} {ops : Array Oper} {rest : List Oper} {op : Oper} {a : Act} {Q : Exit → Act → World → Prop} {K : Act → World → Prop} {B o n : Nat} {w W : World} {es es' : List Ent} {S : World → Prop}
theorem wp_load1_sc (hS : St B o n w es W) (ty : TypeId) (x : Operand) (ho : op.op = .load ty x) (b j : Nat) (hx : a.eval x = .pointer (some ⟨b, j, none⟩)) (hsc : Scalar P ty)
    (h : Look es b j fun v => K (a.put op.dst v) W) : op.wp P a W K Q := by
  obtain ⟨⟨d, hu, hd⟩, _⟩ := hsc
  exact wp_load1_st hS ty x ho b j hx d hu hd h
theorem wp_store1_sc (hS : St B o n w es W) (ty : TypeId) (x y : Operand) (ho : op.op = .store ty x y) (b j : Nat) (v : Value) (hx : a.eval x = .pointer (some ⟨b, j, none⟩)) (hy : a.eval y = v)
    (hsc : Scalar P ty) (hv : v.cells = #[v]) (h1 : v.oneCell' = true) (h : Turn1 es b j v fun es' => ∀ W', St B o n w es' W' → K (a.put op.dst undef) W') : op.wp P a W K Q :=
  wp_store1_st hS ty x y ho b j v hx hy hsc.2 hv h1 h
theorem yields_row (hw : Region.wanted op (yielded ops a.tmps) = true) (ty : TypeId) (x : Operand) (ho : op.op = .load ty x) (b q : Nat) (hx : a.eval x = .pointer (some ⟨b, q, none⟩)) (d : TypeDesc) (hu : P.underlying ty = some d) (hd : d.isRow = true)
    (c : Array Value) (hS : ∀ W, S W → W.rangeAt b q c.toList) (hi : (P.info? ty).map (·.size) = some c.size) : YieldsIf P ops S op (.agg c) a :=
  yieldsIf_load_mid hw ty x ho b q hx c.toList d hS hu hd (by simpa using hi)
theorem yields_one (hw : Region.wanted op (yielded ops a.tmps) = true) (ty : TypeId) (x : Operand) (ho : op.op = .load ty x) (b j : Nat) (hx : a.eval x = .pointer (some ⟨b, j, none⟩)) (hsc : Scalar P ty)
    (v : Value) (hS : ∀ W, S W → W.cell? ⟨b, j, none⟩ = some v) : YieldsIf P ops S op v a :=
  .inl ⟨hw, fun W hW => by
    obtain ⟨⟨d, hu, hd⟩, _⟩ := hsc
    unfold execOp
    simp only [ho, hx, Instr.loadAt, Instr.sureAddr, Sem.run_bind, Sem.run_pure, Result.andThen_ok, run_loadVar_one W _ ty v d (hS W hW) hu hd]⟩
theorem St.cell0 {b j : Nat} {fr : Bool} {cs : Array Value} {v : Value} (h : St B o n w es W) (hm : (⟨b, 0, fr, cs⟩ : Ent) ∈ es) (hv : nth cs.toList j = some v) : W.cell? ⟨b, j, none⟩ = some v := by
  have := h.cell hm (j := j) (v := v) (by rw [nth_get] at hv; simpa using hv)
  rwa [Nat.zero_add] at this
theorem ret_st {fn : Func} {R : Ending → World → Prop} {p : Tmp} {ty : TypeId} (hS : St B o n w es W) (h : fn.results = #[.cell p ty]) (b q : Nat) (hp : a.tmps.getD p undef = .pointer (some ⟨b, q, none⟩)) (hdf : a.defers = []) (d : TypeDesc) (hu : P.underlying ty = some d) (hd : d.isRow = true)
    (hk : Row es b q fun c => (P.info? ty).map (·.size) = some c.size ∧ R (.returned (.agg c)) W) : bodyPost P fn R .ret a W := by
  obtain ⟨fr, cs, hm, hi, hr⟩ := hk
  exact bodyPost_ret (results_row h a.tmps W b q cs d hp (hS.range hm) hu hd hi) hdf hr
theorem ret_tmp_st {fn : Func} {R : Ending → World → Prop} {p u : Tmp} {ty : TypeId} (hS : St B o n w es W) (h : fn.results = #[.cell p ty, .tmp u]) (b q : Nat) (hp : a.tmps.getD p undef = .pointer (some ⟨b, q, none⟩)) (v : Value) (hv : a.tmps.getD u undef = v) (hdf : a.defers = []) (d : TypeDesc) (hu : P.underlying ty = some d) (hd : d.isRow = true)
    (hk : Row es b q fun c => (P.info? ty).map (·.size) = some c.size ∧ R (.returned (.tuple #[.agg c, v])) W) : bodyPost P fn R .ret a W := by
  obtain ⟨fr, cs, hm, hi, hr⟩ := hk
  subst hv
  exact bodyPost_ret (results_row_tmp h a.tmps W b q cs d hp (hS.range hm) hu hd hi) hdf hr
end
/-! ### The operations as the walk meets them: the guard opens the way, the law goes it -/
section
variable {P : Program} {ops : Array Oper} {rest : List Oper} {a : Act} {Q : Exit → Act → World → Prop} {B o n : Nat} {w W : World} {es es' : List Ent} {dst : Option Tmp} {T ty : TypeId} {x y : Operand} {pos : String} {aft : Array Edge} {g : Option (Nat × Bool)}
@[irreducible] def Wl (P : Program) (ops : Array Oper) (Q : Exit → Act → World → Prop) (l : List Oper) (a : Act) (w : World) : Prop := wpList P ops Q l a w
theorem Wl.of {l : List Oper} (h : Wl P ops Q l a w) : wpList P ops Q l a w := by unfold Wl at h; exact h
theorem Wl.mk {l : List Oper} (h : wpList P ops Q l a w) : Wl P ops Q l a w := by unfold Wl; exact h
theorem to_load (n : Nat) (_ : (T == n) = true) (h : Wl P ops Q ({ dst := dst, op := .load T x, type := ty, pos := pos, after := aft, guard := g } :: rest) a w) : wpList P ops Q ({ dst := dst, op := .load T x, type := ty, pos := pos, after := aft, guard := g } :: rest) a w := h.of
theorem to_store (n : Nat) (_ : (T == n) = true) (h : Wl P ops Q ({ dst := dst, op := .store T x y, type := ty, pos := pos, after := aft, guard := g } :: rest) a w) : wpList P ops Q ({ dst := dst, op := .store T x y, type := ty, pos := pos, after := aft, guard := g } :: rest) a w := h.of
theorem to_alloc (n : Nat) (_ : (T == n) = true) (h : Wl P ops Q ({ dst := dst, op := .alloc T, type := ty, pos := pos, after := aft, guard := g } :: rest) a w) : wpList P ops Q ({ dst := dst, op := .alloc T, type := ty, pos := pos, after := aft, guard := g } :: rest) a w := h.of
theorem to_box (h : Wl P ops Q ({ dst := dst, op := .box T x, type := ty, pos := pos, after := aft, guard := g } :: rest) a w) : wpList P ops Q ({ dst := dst, op := .box T x, type := ty, pos := pos, after := aft, guard := g } :: rest) a w := h.of
theorem Wl_alloc (hS : St B o n w es W) (hw : ∀ op : Op, Region.wanted { dst := dst, op := op, type := ty, pos := pos, after := aft, guard := g } (yielded ops a.tmps) = true) (Z : Array Value) (hz : ∀ w : World, (zeroValue T).run P w = .ok (.agg Z) w)
    (h : ∀ b W', St B o n w (⟨b, 0, true, Z⟩ :: es) W' → wpList P ops Q rest (a.put dst (.pointer (some ⟨b, 0, none⟩))) W') : Wl P ops Q ({ dst := dst, op := .alloc T, type := ty, pos := pos, after := aft, guard := g } :: rest) a W :=
  .mk (wpList_wanted (hw _) (wp_alloc_st hS T rfl Z hz h))
theorem Wl_alloc1 (hS : St B o n w es W) (hw : ∀ op : Op, Region.wanted { dst := dst, op := op, type := ty, pos := pos, after := aft, guard := g } (yielded ops a.tmps) = true) (z : Value) (hz : ∀ w : World, (zeroValue T).run P w = .ok z w) (hz1 : z.cells = #[z])
    (h : ∀ b W', St B o n w (⟨b, 0, true, #[z]⟩ :: es) W' → wpList P ops Q rest (a.put dst (.pointer (some ⟨b, 0, none⟩))) W') : Wl P ops Q ({ dst := dst, op := .alloc T, type := ty, pos := pos, after := aft, guard := g } :: rest) a W :=
  .mk (wpList_wanted (hw _) (wp_alloc1_st hS T rfl z hz hz1 h))
theorem Wl_box (hS : St B o n w es W) (hw : ∀ op : Op, Region.wanted { dst := dst, op := op, type := ty, pos := pos, after := aft, guard := g } (yielded ops a.tmps) = true) (c : Array Value) (hx : a.eval x = .agg c)
    (h : ∀ b W', St B o n w (⟨b, 0, true, c⟩ :: es) W' → wpList P ops Q rest (a.put dst (.pointer (some ⟨b, 0, none⟩))) W') : Wl P ops Q ({ dst := dst, op := .box T x, type := ty, pos := pos, after := aft, guard := g } :: rest) a W :=
  .mk (wpList_wanted (hw _) (wp_box_st hS T x rfl c hx h))
theorem Wl_box1 (hS : St B o n w es W) (hw : ∀ op : Op, Region.wanted { dst := dst, op := op, type := ty, pos := pos, after := aft, guard := g } (yielded ops a.tmps) = true) (v : Value) (hx : a.eval x = v) (hv : v.cells = #[v])
    (h : ∀ b W', St B o n w (⟨b, 0, true, #[v]⟩ :: es) W' → wpList P ops Q rest (a.put dst (.pointer (some ⟨b, 0, none⟩))) W') : Wl P ops Q ({ dst := dst, op := .box T x, type := ty, pos := pos, after := aft, guard := g } :: rest) a W :=
  .mk (wpList_wanted (hw _) (wp_box1_st hS T x rfl v hx hv h))
theorem Wl_load (hS : St B o n w es W) (hw : ∀ op : Op, Region.wanted { dst := dst, op := op, type := ty, pos := pos, after := aft, guard := g } (yielded ops a.tmps) = true) (b q : Nat) (hx : a.eval x = .pointer (some ⟨b, q, none⟩)) (d : TypeDesc) (hu : P.underlying T = some d) (hd : d.isRow = true)
    (h : Row es b q fun c => (P.info? T).map (·.size) = some c.size ∧ wpList P ops Q rest (a.put dst (.agg c)) W) : Wl P ops Q ({ dst := dst, op := .load T x, type := ty, pos := pos, after := aft, guard := g } :: rest) a W :=
  .mk (wpList_wanted (hw _) (wp_load_st hS T x rfl b q hx d hu hd h))
theorem Wl_load_sub (hS : St B o n w es W) (hw : ∀ op : Op, Region.wanted { dst := dst, op := op, type := ty, pos := pos, after := aft, guard := g } (yielded ops a.tmps) = true) (b j : Nat) (hx : a.eval x = .pointer (some ⟨b, j, none⟩)) (d : TypeDesc) (hu : P.underlying T = some d) (hd : d.isRow = true) (c : Array Value)
    (hi : (P.info? T).map (·.size) = some c.size) (h : Sub es b j c (wpList P ops Q rest (a.put dst (.agg c)) W)) : Wl P ops Q ({ dst := dst, op := .load T x, type := ty, pos := pos, after := aft, guard := g } :: rest) a W :=
  .mk (wpList_wanted (hw _) (wp_load_sub_st hS T x rfl b j hx d hu hd c hi h))
theorem Wl_load1 (hS : St B o n w es W) (hw : ∀ op : Op, Region.wanted { dst := dst, op := op, type := ty, pos := pos, after := aft, guard := g } (yielded ops a.tmps) = true) (b j : Nat) (hx : a.eval x = .pointer (some ⟨b, j, none⟩)) (hsc : Scalar P T)
    (h : Look es b j fun v => wpList P ops Q rest (a.put dst v) W) : Wl P ops Q ({ dst := dst, op := .load T x, type := ty, pos := pos, after := aft, guard := g } :: rest) a W :=
  .mk (wpList_wanted (hw _) (wp_load1_sc hS T x rfl b j hx hsc h))
theorem Wl_store (hS : St B o n w es W) (hw : ∀ op : Op, Region.wanted { dst := dst, op := op, type := ty, pos := pos, after := aft, guard := g } (yielded ops a.tmps) = true) (b q : Nat) (c : Array Value) (hx : a.eval x = .pointer (some ⟨b, q, none⟩)) (hy : a.eval y = .agg c)
    (hi : (P.info? T).map (·.size) = some c.size) (h1 : c.all (·.oneCell') = true) (h : Turn es b q c fun es' => ∀ W', St B o n w es' W' → wpList P ops Q rest (a.put dst undef) W') : Wl P ops Q ({ dst := dst, op := .store T x y, type := ty, pos := pos, after := aft, guard := g } :: rest) a W :=
  .mk (wpList_wanted (hw _) (wp_store_st hS T x y rfl b q c hx hy hi h1 h))
theorem Wl_store_sub (hS : St B o n w es W) (hw : ∀ op : Op, Region.wanted { dst := dst, op := op, type := ty, pos := pos, after := aft, guard := g } (yielded ops a.tmps) = true) (b j : Nat) (c cs' : Array Value) (hx : a.eval x = .pointer (some ⟨b, j, none⟩)) (hy : a.eval y = .agg c)
    (hi : (P.info? T).map (·.size) = some c.size) (h1 : c.all (·.oneCell') = true) (h : SubTurn es b j c cs' fun es' => ∀ W', St B o n w es' W' → wpList P ops Q rest (a.put dst undef) W') : Wl P ops Q ({ dst := dst, op := .store T x y, type := ty, pos := pos, after := aft, guard := g } :: rest) a W :=
  .mk (wpList_wanted (hw _) (wp_store_sub_st hS T x y rfl b j c cs' hx hy hi h1 h))
theorem Wl_store1 (hS : St B o n w es W) (hw : ∀ op : Op, Region.wanted { dst := dst, op := op, type := ty, pos := pos, after := aft, guard := g } (yielded ops a.tmps) = true) (b j : Nat) (v : Value) (hx : a.eval x = .pointer (some ⟨b, j, none⟩)) (hy : a.eval y = v)
    (hsc : Scalar P T) (hv : v.cells = #[v]) (h1 : v.oneCell' = true) (h : Turn1 es b j v fun es' => ∀ W', St B o n w es' W' → wpList P ops Q rest (a.put dst undef) W') : Wl P ops Q ({ dst := dst, op := .store T x y, type := ty, pos := pos, after := aft, guard := g } :: rest) a W :=
  .mk (wpList_wanted (hw _) (wp_store1_sc hS T x y rfl b j v hx hy hsc hv h1 h))
end
/-- What a step leaves, written out: two sets of equations under short names. -/
theorem nA : (∀ (a : Act) (t : Tmp) (v : Value), a.put (some t) v = { a with tmps := a.tmps.setIfInBounds t v }) ∧ (∀ (a : Act) (v : Value), a.put none v = a) ∧ (∀ (l : List Value) (i : Nat) (v : Value), l.toArray.setIfInBounds i v = (l.set i v).toArray) ∧ (∀ (x y : Value) (l : List Value), (x :: l).set 0 y = y :: l) ∧ (∀ (x y : Value) (l : List Value) (n : Nat), (x :: l).set (n + 1) y = x :: l.set n y) :=
  ⟨fun _ _ _ => rfl, fun _ _ => rfl, fun _ _ _ => List.setIfInBounds_toArray .., fun _ _ _ => rfl, fun _ _ _ _ => rfl⟩
theorem nR : (∀ (a : Act) (t : Tmp) (v : Value), a.put (some t) v = { a with tmps := a.tmps.setIfInBounds t v }) ∧ (∀ (a : Act) (v : Value), a.put none v = a) ∧ (∀ (l : List Value) (i : Nat) (v : Value), l.toArray.setIfInBounds i v = (l.set i v).toArray) ∧ (∀ (x y : Value) (l : List Value), (x :: l).set 0 y = y :: l) ∧ (∀ (x y : Value) (l : List Value) (n : Nat), (x :: l).set (n + 1) y = x :: l.set n y)
    ∧ (∀ {α : Type} (l : List α) (i : Nat) (h : i < l.toArray.size), l.toArray[i] = l[i]'(by simpa using h)) ∧ (∀ {α : Type} (x : α) (l : List α) (i : Nat) (h : i + 1 < (x :: l).length), (x :: l)[i + 1] = l[i]'(Nat.lt_of_succ_lt_succ h)) ∧ (∀ {α : Type} (x : α) (l : List α) (h : 0 < (x :: l).length), (x :: l)[0] = x) :=
  ⟨fun _ _ _ => rfl, fun _ _ => rfl, fun _ _ _ => List.setIfInBounds_toArray .., fun _ _ _ => rfl, fun _ _ _ _ => rfl, fun _ _ _ => List.getElem_toArray _, fun _ _ _ _ => rfl, fun _ _ _ => rfl⟩
end Go.Proofs.Ytkkkjdbcckaedaa
namespace Go.Proofs.Ytkkkjdbcckaedaa
open Go.RowKit
set_option linter.unusedVariables false
section
variable {P : Program} {md : Region.Mode} {ops : Array Oper} {Q : Exit → Act → World → Prop} {S1 S2 T : World → Prop}
theorem YieldsIf.less {S : World → Prop} {o : Oper} {v : Value} {a : Act} (h : ∀ W, S W → T W) (hy : YieldsIf P ops T o v a) : YieldsIf P ops S o v a := hy.imp (fun x => ⟨x.1, fun W hW => x.2 W (h W hW)⟩) id
/-- Till operation g comes S1 holds, from then on S2. -/
def wpG (P : Program) (md : Region.Mode) (ops : Array Oper) (Q : Exit → Act → World → Prop) (S1 S2 : World → Prop) (g : Nat) : Nat → Array Bool → Act → World → Prop
  | 0, L, a, w => Region.ready md ops L = [] ∧ Q .normal a w
  | f + 1, L, a, w => (Region.ready md ops L = [] → Q .normal a w) ∧ ∀ i ∈ Region.ready md ops L, wpOp P ops Q i (fun a' w' =>
      (i = g → S2 w' ∧ wpAnyH P md ops Q S2 f (L.setIfInBounds i true) a' w') ∧ (i ≠ g → S1 w' ∧ wpG P md ops Q S1 S2 g f (L.setIfInBounds i true) a' w')) a w
theorem wpG_any {g : Nat} : ∀ (f : Nat) (L : Array Bool) (a : Act) (w : World), wpG P md ops Q S1 S2 g f L a w → wpAny P md ops Q f L a w
  | 0, _, _, _, h => h
  | f + 1, _, _, _, h => ⟨h.1, fun i hi => wpOp_mono (fun a' w' k => by
      by_cases e : i = g
      · exact wpAny_of_held f _ a' w' (k.1 e).2
      · exact wpG_any f _ a' w' (k.2 e).2) (h.2 i hi)⟩
theorem wpG_start {g id : Nat} {a : Act} {w : World} (hm : P.follows .mixedOrders = true) (hS : S1 w.drew)
    (h : S1 w.drew → wpG P .any ops Q S1 S2 g ops.size (Array.replicate ops.size false) a w.drew) : (Code.region id ops true).wp P Q a w := wp_region_any hm (wpG_any _ _ _ _ (h hS))
theorem wpG_first {g i : Nat} {oi : Oper} {v : Value} (hT : ∀ W, S1 W → T W) (hi : ops[i]? = some oi) (hsel : ∀ (j : Nat) (o : Oper) cs b, ops[j]? = some o → o.op ≠ .select cs b)
    (hQ : ∀ c a w, Q (.panic c) (a.put oi.dst v) w → Q (.panic c) a w) (hg : i ≠ g)
    (hw : (∀ og, ops[g]? = some og → ∃ e ∈ og.after, Region.binds md e = true ∧ e.on = i) ∨ (∀ W, S2 W → T W)) :
    ∀ (f : Nat) (L : Array Bool) (a : Act) (w : World),
      (∀ j oj, ops[j]? = some oj → j ≠ i → L.getD j true = false → (∀ e ∈ oj.after, Region.binds md e = true → e.on ≠ i) → oi.apart ops oj = true) →
      i ∈ Region.ready md ops L → YieldsIf P ops T oi v a → S1 w →
      wpG P md ops Q S1 S2 g f (L.setIfInBounds i true) (a.put oi.dst v) w → wpG P md ops Q S1 S2 g (f + 1) L a w := by
  intro f
  induction f with
  | zero =>
    intro L a w _ hr hy hS H
    refine ⟨fun h => (by rw [h] at hr; cases hr), fun j hj => ?_⟩
    by_cases e : j = i
    · subst e
      exact hy.wpOp hi (hT w hS) ⟨fun k => absurd k hg, fun _ => ⟨hS, H⟩⟩
    · have := ready_mono hj e
      rw [H.1] at this
      cases this
  | succ f ih =>
    intro L a w hfree hr hy hS H
    refine ⟨fun h => (by rw [h] at hr; cases hr), fun j hj => ?_⟩
    by_cases e : j = i
    · subst e
      exact hy.wpOp hi (hT w hS) ⟨fun k => absurd k hg, fun _ => ⟨hS, H⟩⟩
    · have h1 := H.2 j (ready_mono hj e)
      obtain ⟨hjun, oj, hoj, hall⟩ := mem_ready.1 hj
      have hnot : ∀ x ∈ oj.after, Region.binds md x = true → x.on ≠ i := fun x hx hb heq => by
        have k1 := hall x hx hb
        have k0 := (mem_ready.1 hr).1
        rw [heq] at k1
        rcases Nat.lt_or_ge i L.size with h' | h'
        · simp [h'] at k0 k1
          rw [k0] at k1
          cases k1
        · simp [Array.getElem?_eq_none h'] at k1
      have h2 := wpOp_putIf hoj (hfree j oj hoj e hjun hnot) (fun cs b => hsel i oi cs b hi) (fun cs b => hsel j oj cs b hoj) hQ hy h1
      have hfree' : ∀ k ok, ops[k]? = some ok → k ≠ i → (L.setIfInBounds j true).getD k true = false →
          (∀ x ∈ ok.after, Region.binds md x = true → x.on ≠ i) → oi.apart ops ok = true := fun k ok hk hki hun hno => by
        refine hfree k ok hk hki ?_ hno
        by_cases hjk : j = k
        · subst hjk; exact hjun
        · rw [getD_set_ne true hjk] at hun; exact hun
      refine wpOp_mono (fun a' w' h3 => ⟨fun k => ?_, fun k => ?_⟩) h2
      · obtain ⟨s2, hA⟩ := h3.2.1 k
        rcases hw with hw | hw
        · obtain ⟨x, hx, hb, hon⟩ := hw oj (k ▸ hoj)
          exact absurd hon (hnot x hx hb)
        · refine ⟨s2, wpAnyH_first hi hsel hQ f (L.setIfInBounds j true) a' w' hfree' (ready_mono hr (Ne.symm e)) (YieldsIf.less hw h3.1) s2 ?_⟩
          rw [Array.setIfInBounds_comm _ _ e]
          exact hA
      · obtain ⟨s1, hA⟩ := h3.2.2 k
        refine ⟨s1, ih (L.setIfInBounds j true) a' w' hfree' (ready_mono hr (Ne.symm e)) h3.1 s1 ?_⟩
        rw [Array.setIfInBounds_comm _ _ e]
        exact hA
/-- What yields its value under S2 too. -/
theorem wpG_take {g i : Nat} {oi : Oper} {v : Value} {f : Nat} {L : Array Bool} {a : Act} {w : World} (hT : ∀ W, S1 W → S2 W) (hi : ops[i]? = some oi)
    (hs : Region.noSelect ops = true) (hf : Region.free md ops L i = true) (hr : (Region.ready md ops L).contains i = true)
    (hQ : ∀ c a w, Q (.panic c) (a.put oi.dst v) w → Q (.panic c) a w) (hg : i ≠ g) (hy : YieldsIf P ops S2 oi v a) (hS : S1 w)
    (h : wpG P md ops Q S1 S2 g f (L.setIfInBounds i true) (a.put oi.dst v) w) : wpG P md ops Q S1 S2 g (f + 1) L a w :=
  wpG_first hT hi (Region.noSelect_spec hs) hQ hg (.inr fun _ h => h) f L a w (Region.free_spec hi hf) (by simpa using hr) hy hS h
/-- What g waits for. -/
def waits (md : Region.Mode) (ops : Array Oper) (g i : Nat) : Bool := match ops[g]? with | some o => o.after.any fun e => Region.binds md e && e.on == i | none => true
theorem wpG_load {g i : Nat} {oi : Oper} {v : Value} {f : Nat} {L : Array Bool} {a : Act} {w : World} (hi : ops[i]? = some oi)
    (hs : Region.noSelect ops = true) (hf : Region.free md ops L i = true) (hr : (Region.ready md ops L).contains i = true)
    (hQ : ∀ c a w, Q (.panic c) (a.put oi.dst v) w → Q (.panic c) a w) (hg : i ≠ g) (hw : waits md ops g i = true) (hy : YieldsIf P ops S1 oi v a) (hS : S1 w)
    (h : wpG P md ops Q S1 S2 g f (L.setIfInBounds i true) (a.put oi.dst v) w) : wpG P md ops Q S1 S2 g (f + 1) L a w :=
  wpG_first (fun _ h => h) hi (Region.noSelect_spec hs) hQ hg (.inl fun og ho => by
    unfold waits at hw
    rw [ho] at hw
    obtain ⟨e, he, k⟩ := Array.any_eq_true'.1 hw
    rw [Bool.and_eq_true, beq_iff_eq] at k
    exact ⟨e, he, k⟩) f L a w (Region.free_spec hi hf) (by simpa using hr) hy hS h
/-- One operation alone may come. -/
theorem wpG_one {g i : Nat} {o : Oper} {f : Nat} {L : Array Bool} {a : Act} {w : World} (hr : Region.ready md ops L = [i]) (hg : i ≠ g) (ho : ops[i]? = some o)
    (h : ∀ K' : Act → World → Prop, Shut (∀ a w, S1 w → (S1 w → wpG P md ops Q S1 S2 g f (L.setIfInBounds i true) a w) → K' a w) → if Region.wanted o (yielded ops a.tmps) = true then Oper.wp P o a w K' Q else K' (a.put o.dst undef) w) :
    wpG P md ops Q S1 S2 g (f + 1) L a w := by
  refine ⟨fun k => (by rw [hr] at k; cases k), fun j hj => ?_⟩
  rw [hr, List.mem_singleton] at hj
  subst hj
  exact wpOp_step ho fun K' hK => h K' fun a w hS hW => hK a w ⟨fun k => absurd k hg, fun _ => ⟨hS, hW hS⟩⟩
/-- The first store. -/
theorem wpG_gate {i : Nat} {o : Oper} {f : Nat} {L : Array Bool} {a : Act} {w : World} (hr : Region.ready md ops L = [i]) (ho : ops[i]? = some o)
    (h : ∀ K' : Act → World → Prop, Shut (∀ a w, S2 w → (S2 w → wpAnyH P md ops Q S2 f (L.setIfInBounds i true) a w) → K' a w) → if Region.wanted o (yielded ops a.tmps) = true then Oper.wp P o a w K' Q else K' (a.put o.dst undef) w) :
    wpG P md ops Q S1 S2 i (f + 1) L a w := by
  refine ⟨fun k => (by rw [hr] at k; cases k), fun j hj => ?_⟩
  rw [hr, List.mem_singleton] at hj
  subst hj
  exact wpOp_step ho fun K' hK => h K' fun a w hS hW => hK a w ⟨fun _ => ⟨hS, hW hS⟩, fun k => absurd rfl k⟩
end
end Go.Proofs.Ytkkkjdbcckaedaa
