/- The operations on memory over the list of known ranges: each hands on a world of which the list alone is known. Nothing of the program. -/
import Derived.Test.YtmoafjgogbcoeaaHeap
namespace Go.Proofs.Ytmoafjgogbcoeaa
open Go.RowKit
set_option linter.unusedVariables false

def nth : List Value → Nat → Option Value
  | [], _ => none
  | x :: _, 0 => some x
  | _ :: l, n + 1 => nth l n
theorem nth_get (l : List Value) (i : Nat) : nth l i = l[i]? := by
  induction l generalizing i with
  | nil => rfl
  | cons x l ih => cases i with
    | zero => rfl
    | succ i => simpa [nth] using ih i
/-- What lies at an offset. -/
def Look (es : List Ent) (b j : Nat) (k : Value → Prop) : Prop := ∃ q fr cs v, (⟨b, q, fr, cs⟩ : Ent) ∈ es ∧ q ≤ j ∧ nth cs.toList (j - q) = some v ∧ k v
theorem Look.here {b q j : Nat} {fr : Bool} {cs : Array Value} {l : List Ent} {k : Value → Prop} {v : Value} (hq : q ≤ j) (hv : nth cs.toList (j - q) = some v) (h : k v) : Look (⟨b, q, fr, cs⟩ :: l) b j k := ⟨q, fr, cs, v, .head _, hq, hv, h⟩
theorem Look.next {x : Ent} {l : List Ent} {b j : Nat} {k : Value → Prop} (h : Look l b j k) : Look (x :: l) b j k := by
  obtain ⟨q, fr, cs, v, hm, hq, hv, hk⟩ := h
  exact ⟨q, fr, cs, v, .tail _ hm, hq, hv, hk⟩
/-- A whole range. -/
def Row (es : List Ent) (b q : Nat) (k : Array Value → Prop) : Prop := ∃ fr cs, (⟨b, q, fr, cs⟩ : Ent) ∈ es ∧ k cs
theorem Row.here {b q : Nat} {fr : Bool} {cs : Array Value} {l : List Ent} {k : Array Value → Prop} (h : k cs) : Row (⟨b, q, fr, cs⟩ :: l) b q k := ⟨fr, cs, .head _, h⟩
theorem Row.next {x : Ent} {l : List Ent} {b q : Nat} {k : Array Value → Prop} (h : Row l b q k) : Row (x :: l) b q k := by
  obtain ⟨fr, cs, hm, hk⟩ := h
  exact ⟨fr, cs, .tail _ hm, hk⟩
/-- A whole range turned. -/
def Turn (es : List Ent) (b q : Nat) (c : Array Value) (k : List Ent → Prop) : Prop := ∃ cs es', Upd es b q cs c es' ∧ c.size = cs.size ∧ k es'
theorem Turn.here {b q : Nat} {cs c : Array Value} {l : List Ent} {k : List Ent → Prop} (hl : c.size = cs.size) (h : k (⟨b, q, true, c⟩ :: l)) : Turn (⟨b, q, true, cs⟩ :: l) b q c k := ⟨cs, _, .head _ _ _ _ _, hl, h⟩
theorem Turn.next {x : Ent} {l : List Ent} {b q : Nat} {c : Array Value} {k : List Ent → Prop} (h : Turn l b q c fun l' => k (x :: l')) : Turn (x :: l) b q c k := by
  obtain ⟨cs, es', hu, hl, hk⟩ := h
  exact ⟨cs, _, .tail x hu, hl, hk⟩
/-- One cell turned. -/
def Turn1 (es : List Ent) (b j : Nat) (v : Value) (k : List Ent → Prop) : Prop := ∃ q cs es', q ≤ j ∧ j - q < cs.size ∧ Upd es b q cs (cs.setIfInBounds (j - q) v) es' ∧ k es'
theorem Turn1.here {b q j : Nat} {cs : Array Value} {v : Value} {l : List Ent} {k : List Ent → Prop} (hq : q ≤ j) (hl : j - q < cs.size) (h : k (⟨b, q, true, cs.setIfInBounds (j - q) v⟩ :: l)) : Turn1 (⟨b, q, true, cs⟩ :: l) b j v k := ⟨q, cs, _, hq, hl, .head _ _ _ _ _, h⟩
theorem Turn1.next {x : Ent} {l : List Ent} {b j : Nat} {v : Value} {k : List Ent → Prop} (h : Turn1 l b j v fun l' => k (x :: l')) : Turn1 (x :: l) b j v k := by
  obtain ⟨q, cs, es', hq, hl, hu, hk⟩ := h
  exact ⟨q, cs, _, hq, hl, .tail x hu, hk⟩

/-! ### One cell, loaded and stored -/
theorem run_loadVar_one {P : Program} (w : World) (p : Addr) (ty : TypeId) (v : Value) (d : TypeDesc) (hc : w.cell? p = some v) (hu : P.underlying ty = some d) (hd : d.isRow = false) : (loadVar ty p).run P w = .ok v w := by
  have hagg : (isAgg ty).run P w = .ok false w := by
    unfold isAgg
    rw [Sem.run_bind, run_underlying hu w]
    cases d <;> simp_all
  simp [loadVar, Sem.run_bind, hagg, hc]
theorem run_storeVar_one {P : Program} (w : World) (p : Addr) (ty : TypeId) (v : Value) (hp : ∃ b j, p = ⟨b, j, none⟩) (hc : (w.cell? p).isSome = true) (hf : w.frozen? p = false) (hi : (P.info? ty).map (·.size) = some 1) (hv : v.cells = #[v]) (h1 : v.oneCell' = true) :
    (storeVar ty p v).run P w = .ok () (w.setCell p v) := by
  obtain ⟨b, j, rfl⟩ := hp
  have := run_storeCells_cells (P := P) b j [v] 0 w (fun i hi => by simp at hi; subst hi; simpa using hc) (fun i hi => by simp at hi; subst hi; simpa using hf) (fun u hu => by simp at hu; subst hu; exact h1)
  cases hq : P.info? ty with
  | none => simp [hq] at hi
  | some i =>
    have hs : i.size = 1 := by simpa [hq] using hi
    simp only [Nat.add_zero] at this
    have h2 : (storeCells ⟨b, j, none⟩ [v]).run P w = .ok () (w.setCell ⟨b, j, none⟩ v) := by simpa [World.setCells] using this
    simp [storeVar, sizeOf, typeInfo, hq, hv, hs, h2]
section
variable {P : Program} {ops : Array Oper} {rest : List Oper} {op : Oper} {a : Act} {Q : Exit → Act → World → Prop} {K : Act → World → Prop} {B o n : Nat} {w W : World} {es es' : List Ent}
theorem wp_alloc_st (hS : St B o n w es W) (ty : TypeId) (ho : op.op = .alloc ty) (Z : Array Value) (hz : ∀ w : World, (zeroValue ty).run P w = .ok (.agg Z) w)
    (h : ∀ b W', St B o n w (⟨b, 0, true, Z⟩ :: es) W' → K (a.put op.dst (.pointer (some ⟨b, 0, none⟩))) W') : op.wp P a W K Q :=
  wp_alloc_row ty ho Z hz (h _ _ (hS.new Z ty))
theorem wp_alloc1_st (hS : St B o n w es W) (ty : TypeId) (ho : op.op = .alloc ty) (z : Value) (hz : ∀ w : World, (zeroValue ty).run P w = .ok z w) (hz1 : z.cells = #[z])
    (h : ∀ b W', St B o n w (⟨b, 0, true, #[z]⟩ :: es) W' → K (a.put op.dst (.pointer (some ⟨b, 0, none⟩))) W') : op.wp P a W K Q := by
  unfold Oper.wp execOp
  simp only [ho, Instr.alloc, Sem.run_bind, hz, newVar, newRow, hz1, Result.andThen_ok, Sem.run_pure, run_newObj_alloc]
  exact h _ _ (hS.new #[z] ty)
theorem wp_box_st (hS : St B o n w es W) (ty : TypeId) (x : Operand) (ho : op.op = .box ty x) (c : Array Value) (hx : a.eval x = .agg c)
    (h : ∀ b W', St B o n w (⟨b, 0, true, c⟩ :: es) W' → K (a.put op.dst (.pointer (some ⟨b, 0, none⟩))) W') : op.wp P a W K Q := by
  unfold Oper.wp execOp
  simp only [ho, hx, Instr.box, Sem.run_bind, newVar, newRow, Value.cells, Result.andThen_ok, Sem.run_pure, run_newObj_alloc]
  exact h _ _ (hS.new c ty)
theorem wp_box1_st (hS : St B o n w es W) (ty : TypeId) (x : Operand) (ho : op.op = .box ty x) (v : Value) (hx : a.eval x = v) (hv : v.cells = #[v])
    (h : ∀ b W', St B o n w (⟨b, 0, true, #[v]⟩ :: es) W' → K (a.put op.dst (.pointer (some ⟨b, 0, none⟩))) W') : op.wp P a W K Q := by
  unfold Oper.wp execOp
  simp only [ho, hx, Instr.box, Sem.run_bind, newVar, newRow, hv, Result.andThen_ok, Sem.run_pure, run_newObj_alloc]
  exact h _ _ (hS.new #[v] ty)
theorem wp_load_st (hS : St B o n w es W) (ty : TypeId) (x : Operand) (ho : op.op = .load ty x) (b q : Nat) (hx : a.eval x = .pointer (some ⟨b, q, none⟩)) (d : TypeDesc) (hu : P.underlying ty = some d) (hd : d.isRow = true)
    (h : Row es b q fun c => (P.info? ty).map (·.size) = some c.size ∧ K (a.put op.dst (.agg c)) W) : op.wp P a W K Q := by
  obtain ⟨fr, cs, hm, hi, hk⟩ := h
  exact wp_load_mid ty x ho b q hx cs.toList d (hS.range hm) hu hd (by simpa using hi) (by simpa using hk)
theorem wp_load1_st (hS : St B o n w es W) (ty : TypeId) (x : Operand) (ho : op.op = .load ty x) (b j : Nat) (hx : a.eval x = .pointer (some ⟨b, j, none⟩)) (d : TypeDesc) (hu : P.underlying ty = some d) (hd : d.isRow = false)
    (h : Look es b j fun v => K (a.put op.dst v) W) : op.wp P a W K Q := by
  obtain ⟨q, fr, cs, v, hm, hq, hv, hk⟩ := h
  have hc : W.cell? ⟨b, j, none⟩ = some v := by
    have := hS.cell hm (j := j - q) (v := v) (by rw [nth_get] at hv; simpa using hv)
    rwa [show q + (j - q) = j by omega] at this
  unfold Oper.wp execOp
  simp only [ho, hx, Instr.loadAt, Instr.sureAddr, Sem.run_bind, Sem.run_pure, Result.andThen_ok, run_loadVar_one W _ ty v d hc hu hd]
  exact hk
theorem St.turn {b q : Nat} {c cs : Array Value} (hS : St B o n w es W) (hu : Upd es b q cs c es') (hl : c.size = cs.size) : St B o n w es' (W.setCells b q c.toList) := by
  have ht := touch_setCells W b q c.toList
  have h2 : W.there b q c.toList.length := by
    have := hS.there hu.mem rfl
    simpa [hl] using this
  exact hS.put hu hl (by simpa [hl] using ht) (World.rangeAt_setCells_same W b q c.toList h2)
theorem wp_store_st (hS : St B o n w es W) (ty : TypeId) (x y : Operand) (ho : op.op = .store ty x y) (b q : Nat) (c : Array Value) (hx : a.eval x = .pointer (some ⟨b, q, none⟩)) (hy : a.eval y = .agg c)
    (hi : (P.info? ty).map (·.size) = some c.size) (h1 : c.all (·.oneCell') = true) (h : Turn es b q c fun es' => ∀ W', St B o n w es' W' → K (a.put op.dst undef) W') : op.wp P a W K Q := by
  obtain ⟨cs, es', hu, hl, hk⟩ := h
  refine wp_store_mid ty x y ho b q c hx hy ?_ hi h1 (hk _ (hS.turn hu hl))
  have := hS.there hu.mem rfl
  rw [hl]
  exact this
theorem St.turn1 {b q j : Nat} {cs : Array Value} {v : Value} (hS : St B o n w es W) (hq : q ≤ j) (hj : j - q < cs.size) (hu : Upd es b q cs (cs.setIfInBounds (j - q) v) es') : St B o n w es' (W.setCell ⟨b, j, none⟩ v) := by
  have ht : Touch b q cs.size W (W.setCell ⟨b, j, none⟩ v) := (Touch.refl b q cs.size W).setCell j hq (by omega) v
  refine hS.put hu (by simp) ht ?_
  have hr := hS.range hu.mem
  intro i u hi
  simp only [Array.getElem?_toList, Array.getElem?_setIfInBounds] at hi
  by_cases e : j - q = i
  · subst e
    rw [if_pos rfl, if_pos hj] at hi
    cases hi
    have : W.cell? ⟨b, j, none⟩ = some cs[j - q] := by
      have := hr (j - q) cs[j - q] (by simp [hj])
      rwa [show (⟨b, q, true, cs⟩ : Ent).q + (j - q) = j by show q + (j - q) = j; omega] at this
    rw [show q + (j - q) = j by omega]
    exact World.cell?_setCell_same _ _ _ this
  · rw [if_neg e] at hi
    rw [World.cell?_setCell_other _ _ _ _ (by intro h; simp at h; all_goals omega)]
    exact hr i u (by simpa using hi)
theorem wp_store1_st (hS : St B o n w es W) (ty : TypeId) (x y : Operand) (ho : op.op = .store ty x y) (b j : Nat) (v : Value) (hx : a.eval x = .pointer (some ⟨b, j, none⟩)) (hy : a.eval y = v)
    (hi : (P.info? ty).map (·.size) = some 1) (hv : v.cells = #[v]) (h1 : v.oneCell' = true) (h : Turn1 es b j v fun es' => ∀ W', St B o n w es' W' → K (a.put op.dst undef) W') : op.wp P a W K Q := by
  obtain ⟨q, cs, es', hq, hl, hu, hk⟩ := h
  have hc : (W.cell? ⟨b, j, none⟩).isSome = true := by
    have := hS.range hu.mem (j - q) cs[j - q] (by simp [hl])
    rw [show (⟨b, q, true, cs⟩ : Ent).q + (j - q) = j by show q + (j - q) = j; omega] at this
    rw [this]
    rfl
  have hf : W.frozen? ⟨b, j, none⟩ = false := by
    have := hS.frozen hu.mem hl
    rwa [show q + (j - q) = j by omega] at this
  unfold Oper.wp execOp
  simp only [ho, hx, hy, Instr.storeAt, Instr.sureAddr, Sem.run_bind, Sem.run_pure, Result.andThen_ok, run_storeVar_one W _ ty v ⟨_, _, rfl⟩ hc hf hi hv h1]
  exact hk _ (hS.turn1 hq hl hu)
/-! ### At the list of a plain region's operations -/
theorem wpList_wanted (hw : Region.wanted op (yielded ops a.tmps) = true) (h : op.wp P a W (fun a w => wpList P ops Q rest a w) Q) : wpList P ops Q (op :: rest) a W :=
  wpList_step fun K hK => by
    rw [if_pos hw]
    exact Oper.wp_mono (fun a w h => hK a w h) h
end
/-- A part of a range, loaded and stored. -/
def Sub (es : List Ent) (b j : Nat) (c : Array Value) (k : Prop) : Prop := ∃ q fr cs, (⟨b, q, fr, cs⟩ : Ent) ∈ es ∧ q ≤ j ∧ (cs.toList.drop (j - q)).take c.size = c.toList ∧ k
theorem Sub.here {b q j : Nat} {fr : Bool} {cs c : Array Value} {l : List Ent} {k : Prop} (hq : q ≤ j) (hc : (cs.toList.drop (j - q)).take c.size = c.toList) (h : k) : Sub (⟨b, q, fr, cs⟩ :: l) b j c k := ⟨q, fr, cs, .head _, hq, hc, h⟩
theorem Sub.next {x : Ent} {l : List Ent} {b j : Nat} {c : Array Value} {k : Prop} (h : Sub l b j c k) : Sub (x :: l) b j c k := by
  obtain ⟨q, fr, cs, hm, hq, hc, hk⟩ := h
  exact ⟨q, fr, cs, .tail _ hm, hq, hc, hk⟩
def SubTurn (es : List Ent) (b j : Nat) (c cs' : Array Value) (k : List Ent → Prop) : Prop :=
  ∃ q cs es', q ≤ j ∧ j - q + c.size ≤ cs.size ∧ cs'.toList = cs.toList.take (j - q) ++ (c.toList ++ cs.toList.drop (j - q + c.size)) ∧ Upd es b q cs cs' es' ∧ k es'
theorem SubTurn.here {b q j : Nat} {cs c cs' : Array Value} {l : List Ent} {k : List Ent → Prop} (hq : q ≤ j) (hl : j - q + c.size ≤ cs.size) (hc : cs'.toList = cs.toList.take (j - q) ++ (c.toList ++ cs.toList.drop (j - q + c.size))) (h : k (⟨b, q, true, cs'⟩ :: l)) : SubTurn (⟨b, q, true, cs⟩ :: l) b j c cs' k := ⟨q, cs, _, hq, hl, hc, .head _ _ _ _ _, h⟩
theorem SubTurn.next {x : Ent} {l : List Ent} {b j : Nat} {c cs' : Array Value} {k : List Ent → Prop} (h : SubTurn l b j c cs' fun l' => k (x :: l')) : SubTurn (x :: l) b j c cs' k := by
  obtain ⟨q, cs, es', hq, hl, hc, hu, hk⟩ := h
  exact ⟨q, cs, _, hq, hl, hc, .tail x hu, hk⟩
section
variable {P : Program} {ops : Array Oper} {rest : List Oper} {op : Oper} {a : Act} {Q : Exit → Act → World → Prop} {K : Act → World → Prop} {B o n : Nat} {w W : World} {es es' : List Ent}
theorem sub_range {W : World} {b q j : Nat} {cs c : Array Value} (hr : W.rangeAt b q cs.toList) (hq : q ≤ j) (hc : (cs.toList.drop (j - q)).take c.size = c.toList) : W.rangeAt b j c.toList := fun i v hv => by
  have hi : i < c.size := by simpa using (List.getElem?_eq_some_iff.1 hv).1
  rw [← hc, List.getElem?_take_of_lt hi, List.getElem?_drop] at hv
  have := hr _ _ hv
  rwa [show q + (j - q + i) = j + i by omega] at this
theorem wp_load_sub_st (hS : St B o n w es W) (ty : TypeId) (x : Operand) (ho : op.op = .load ty x) (b j : Nat) (hx : a.eval x = .pointer (some ⟨b, j, none⟩)) (d : TypeDesc) (hu : P.underlying ty = some d) (hd : d.isRow = true) (c : Array Value)
    (hi : (P.info? ty).map (·.size) = some c.size) (h : Sub es b j c (K (a.put op.dst (.agg c)) W)) : op.wp P a W K Q := by
  obtain ⟨q, fr, cs, hm, hq, hc, hk⟩ := h
  exact wp_load_mid ty x ho b j hx c.toList d (sub_range (hS.range hm) hq hc) hu hd (by simpa using hi) (by simpa using hk)
theorem wp_store_sub_st (hS : St B o n w es W) (ty : TypeId) (x y : Operand) (ho : op.op = .store ty x y) (b j : Nat) (c cs' : Array Value) (hx : a.eval x = .pointer (some ⟨b, j, none⟩)) (hy : a.eval y = .agg c)
    (hi : (P.info? ty).map (·.size) = some c.size) (h1 : c.all (·.oneCell') = true) (h : SubTurn es b j c cs' fun es' => ∀ W', St B o n w es' W' → K (a.put op.dst undef) W') : op.wp P a W K Q := by
  obtain ⟨q, cs, es', hq, hl, hc, hu, hk⟩ := h
  have hth : W.there b j c.size := by
    have h0 := hS.there hu.mem rfl
    intro i hi
    have := h0 (j - q + i) (show j - q + i < cs.size by omega)
    rwa [show (⟨b, q, true, cs⟩ : Ent).q + (j - q + i) = j + i by show q + (j - q + i) = j + i; omega] at this
  refine wp_store_mid ty x y ho b j c hx hy hth hi h1 (hk _ ?_)
  have hr := hS.range hu.mem
  have ht := touch_setCells W b j c.toList
  have hcl : cs'.size = cs.size := by
    have := congrArg List.length hc
    simp at this
    omega
  refine hS.put hu hcl (ht.wide hq (by simp; omega)) ?_
  rw [hc]
  have hs := World.rangeAt_setCells_same W b j c.toList (by simpa using hth)
  have r1 : (W.setCells b j c.toList).rangeAt b q (cs.toList.take (j - q)) := fun i v hv => by
    have hi : i < j - q := by have := (List.getElem?_eq_some_iff.1 hv).1; simp at this; omega
    rw [World.cell?_setCells_out b _ j W _ (fun _ _ => .inl (by show q + i < j; omega))]
    exact hr i v (by rwa [List.getElem?_take_of_lt hi] at hv)
  have r3 : (W.setCells b j c.toList).rangeAt b (j + c.size) (cs.toList.drop (j - q + c.size)) := fun i v hv => by
    rw [World.cell?_setCells_out b _ j W _ (fun _ _ => .inr (by show j + c.toList.length ≤ j + c.size + i; simp))]
    rw [List.getElem?_drop] at hv
    have := hr _ _ hv
    rwa [show (⟨b, q, true, cs⟩ : Ent).q + (j - q + c.size + i) = j + c.size + i by show q + (j - q + c.size + i) = _; omega] at this
  have hlen : (cs.toList.take (j - q)).length = j - q := by simp; omega
  refine range_join r1 ?_
  rw [hlen, show q + (j - q) = j by omega]
  exact range_join hs (by simpa using r3)
end
/-- A type of one cell. -/
def Scalar (P : Program) (ty : TypeId) : Prop := (∃ d, P.underlying ty = some d ∧ d.isRow = false) ∧ (P.info? ty).map (·.size) = some 1
section
variable {P : Program} {ops : Array Oper} {rest : List Oper} {op : Oper} {a : Act} {Q : Exit → Act → World → Prop} {K : Act → World → Prop} {B o n : Nat} {w W : World} {es es' : List Ent} {S : World → Prop}
theorem wp_load1_sc (hS : St B o n w es W) (ty : TypeId) (x : Operand) (ho : op.op = .load ty x) (b j : Nat) (hx : a.eval x = .pointer (some ⟨b, j, none⟩)) (hsc : Scalar P ty)
    (h : Look es b j fun v => K (a.put op.dst v) W) : op.wp P a W K Q := by
  obtain ⟨⟨d, hu, hd⟩, _⟩ := hsc
  exact wp_load1_st hS ty x ho b j hx d hu hd h
theorem wp_store1_sc (hS : St B o n w es W) (ty : TypeId) (x y : Operand) (ho : op.op = .store ty x y) (b j : Nat) (v : Value) (hx : a.eval x = .pointer (some ⟨b, j, none⟩)) (hy : a.eval y = v)
    (hsc : Scalar P ty) (hv : v.cells = #[v]) (h1 : v.oneCell' = true) (h : Turn1 es b j v fun es' => ∀ W', St B o n w es' W' → K (a.put op.dst undef) W') : op.wp P a W K Q :=
  wp_store1_st hS ty x y ho b j v hx hy hsc.2 hv h1 h
theorem yields_row (hw : Region.wanted op (yielded ops a.tmps) = true) (ty : TypeId) (x : Operand) (ho : op.op = .load ty x) (b q : Nat) (hx : a.eval x = .pointer (some ⟨b, q, none⟩)) (d : TypeDesc) (hu : P.underlying ty = some d) (hd : d.isRow = true)
    (c : Array Value) (hS : ∀ W, S W → W.rangeAt b q c.toList) (hi : (P.info? ty).map (·.size) = some c.size) : YieldsIf P ops S op (.agg c) a :=
  yieldsIf_load_mid hw ty x ho b q hx c.toList d hS hu hd (by simpa using hi)
theorem yields_one (hw : Region.wanted op (yielded ops a.tmps) = true) (ty : TypeId) (x : Operand) (ho : op.op = .load ty x) (b j : Nat) (hx : a.eval x = .pointer (some ⟨b, j, none⟩)) (hsc : Scalar P ty)
    (v : Value) (hS : ∀ W, S W → W.cell? ⟨b, j, none⟩ = some v) : YieldsIf P ops S op v a :=
  .inl ⟨hw, fun W hW => by
    obtain ⟨⟨d, hu, hd⟩, _⟩ := hsc
    unfold execOp
    simp only [ho, hx, Instr.loadAt, Instr.sureAddr, Sem.run_bind, Sem.run_pure, Result.andThen_ok, run_loadVar_one W _ ty v d (hS W hW) hu hd]⟩
theorem St.cell0 {b j : Nat} {fr : Bool} {cs : Array Value} {v : Value} (h : St B o n w es W) (hm : (⟨b, 0, fr, cs⟩ : Ent) ∈ es) (hv : nth cs.toList j = some v) : W.cell? ⟨b, j, none⟩ = some v := by
  have := h.cell hm (j := j) (v := v) (by rw [nth_get] at hv; simpa using hv)
  rwa [Nat.zero_add] at this
theorem ret_st {fn : Func} {R : Ending → World → Prop} {p : Tmp} {ty : TypeId} (hS : St B o n w es W) (h : fn.results = #[.cell p ty]) (b q : Nat) (hp : a.tmps.getD p undef = .pointer (some ⟨b, q, none⟩)) (hdf : a.defers = []) (d : TypeDesc) (hu : P.underlying ty = some d) (hd : d.isRow = true)
    (hk : Row es b q fun c => (P.info? ty).map (·.size) = some c.size ∧ R (.returned (.agg c)) W) : bodyPost P fn R .ret a W := by
  obtain ⟨fr, cs, hm, hi, hr⟩ := hk
  exact bodyPost_ret (results_row h a.tmps W b q cs d hp (hS.range hm) hu hd hi) hdf hr
theorem ret_tmp_st {fn : Func} {R : Ending → World → Prop} {p u : Tmp} {ty : TypeId} (hS : St B o n w es W) (h : fn.results = #[.cell p ty, .tmp u]) (b q : Nat) (hp : a.tmps.getD p undef = .pointer (some ⟨b, q, none⟩)) (v : Value) (hv : a.tmps.getD u undef = v) (hdf : a.defers = []) (d : TypeDesc) (hu : P.underlying ty = some d) (hd : d.isRow = true)
    (hk : Row es b q fun c => (P.info? ty).map (·.size) = some c.size ∧ R (.returned (.tuple #[.agg c, v])) W) : bodyPost P fn R .ret a W := by
  obtain ⟨fr, cs, hm, hi, hr⟩ := hk
  subst hv
  exact bodyPost_ret (results_row_tmp h a.tmps W b q cs d hp (hS.range hm) hu hd hi) hdf hr
end
/-! ### The operations as the walk meets them: the guard opens the way, the law goes it -/
section
variable {P : Program} {ops : Array Oper} {rest : List Oper} {a : Act} {Q : Exit → Act → World → Prop} {B o n : Nat} {w W : World} {es es' : List Ent} {dst : Option Tmp} {T ty : TypeId} {x y : Operand} {pos : String} {aft : Array Edge} {g : Option (Nat × Bool)}
@[irreducible] def Wl (P : Program) (ops : Array Oper) (Q : Exit → Act → World → Prop) (l : List Oper) (a : Act) (w : World) : Prop := wpList P ops Q l a w
theorem Wl.of {l : List Oper} (h : Wl P ops Q l a w) : wpList P ops Q l a w := by unfold Wl at h; exact h
theorem Wl.mk {l : List Oper} (h : wpList P ops Q l a w) : Wl P ops Q l a w := by unfold Wl; exact h
theorem to_load (n : Nat) (_ : (T == n) = true) (h : Wl P ops Q ({ dst := dst, op := .load T x, type := ty, pos := pos, after := aft, guard := g } :: rest) a w) : wpList P ops Q ({ dst := dst, op := .load T x, type := ty, pos := pos, after := aft, guard := g } :: rest) a w := h.of
theorem to_store (n : Nat) (_ : (T == n) = true) (h : Wl P ops Q ({ dst := dst, op := .store T x y, type := ty, pos := pos, after := aft, guard := g } :: rest) a w) : wpList P ops Q ({ dst := dst, op := .store T x y, type := ty, pos := pos, after := aft, guard := g } :: rest) a w := h.of
theorem to_alloc (n : Nat) (_ : (T == n) = true) (h : Wl P ops Q ({ dst := dst, op := .alloc T, type := ty, pos := pos, after := aft, guard := g } :: rest) a w) : wpList P ops Q ({ dst := dst, op := .alloc T, type := ty, pos := pos, after := aft, guard := g } :: rest) a w := h.of
theorem to_box (h : Wl P ops Q ({ dst := dst, op := .box T x, type := ty, pos := pos, after := aft, guard := g } :: rest) a w) : wpList P ops Q ({ dst := dst, op := .box T x, type := ty, pos := pos, after := aft, guard := g } :: rest) a w := h.of
theorem Wl_alloc (hS : St B o n w es W) (hw : ∀ op : Op, Region.wanted { dst := dst, op := op, type := ty, pos := pos, after := aft, guard := g } (yielded ops a.tmps) = true) (Z : Array Value) (hz : ∀ w : World, (zeroValue T).run P w = .ok (.agg Z) w)
    (h : ∀ b W', St B o n w (⟨b, 0, true, Z⟩ :: es) W' → wpList P ops Q rest (a.put dst (.pointer (some ⟨b, 0, none⟩))) W') : Wl P ops Q ({ dst := dst, op := .alloc T, type := ty, pos := pos, after := aft, guard := g } :: rest) a W :=
  .mk (wpList_wanted (hw _) (wp_alloc_st hS T rfl Z hz h))
theorem Wl_alloc1 (hS : St B o n w es W) (hw : ∀ op : Op, Region.wanted { dst := dst, op := op, type := ty, pos := pos, after := aft, guard := g } (yielded ops a.tmps) = true) (z : Value) (hz : ∀ w : World, (zeroValue T).run P w = .ok z w) (hz1 : z.cells = #[z])
    (h : ∀ b W', St B o n w (⟨b, 0, true, #[z]⟩ :: es) W' → wpList P ops Q rest (a.put dst (.pointer (some ⟨b, 0, none⟩))) W') : Wl P ops Q ({ dst := dst, op := .alloc T, type := ty, pos := pos, after := aft, guard := g } :: rest) a W :=
  .mk (wpList_wanted (hw _) (wp_alloc1_st hS T rfl z hz hz1 h))
theorem Wl_box (hS : St B o n w es W) (hw : ∀ op : Op, Region.wanted { dst := dst, op := op, type := ty, pos := pos, after := aft, guard := g } (yielded ops a.tmps) = true) (c : Array Value) (hx : a.eval x = .agg c)
    (h : ∀ b W', St B o n w (⟨b, 0, true, c⟩ :: es) W' → wpList P ops Q rest (a.put dst (.pointer (some ⟨b, 0, none⟩))) W') : Wl P ops Q ({ dst := dst, op := .box T x, type := ty, pos := pos, after := aft, guard := g } :: rest) a W :=
  .mk (wpList_wanted (hw _) (wp_box_st hS T x rfl c hx h))
theorem Wl_box1 (hS : St B o n w es W) (hw : ∀ op : Op, Region.wanted { dst := dst, op := op, type := ty, pos := pos, after := aft, guard := g } (yielded ops a.tmps) = true) (v : Value) (hx : a.eval x = v) (hv : v.cells = #[v])
    (h : ∀ b W', St B o n w (⟨b, 0, true, #[v]⟩ :: es) W' → wpList P ops Q rest (a.put dst (.pointer (some ⟨b, 0, none⟩))) W') : Wl P ops Q ({ dst := dst, op := .box T x, type := ty, pos := pos, after := aft, guard := g } :: rest) a W :=
  .mk (wpList_wanted (hw _) (wp_box1_st hS T x rfl v hx hv h))
theorem Wl_load (hS : St B o n w es W) (hw : ∀ op : Op, Region.wanted { dst := dst, op := op, type := ty, pos := pos, after := aft, guard := g } (yielded ops a.tmps) = true) (b q : Nat) (hx : a.eval x = .pointer (some ⟨b, q, none⟩)) (d : TypeDesc) (hu : P.underlying T = some d) (hd : d.isRow = true)
    (h : Row es b q fun c => (P.info? T).map (·.size) = some c.size ∧ wpList P ops Q rest (a.put dst (.agg c)) W) : Wl P ops Q ({ dst := dst, op := .load T x, type := ty, pos := pos, after := aft, guard := g } :: rest) a W :=
  .mk (wpList_wanted (hw _) (wp_load_st hS T x rfl b q hx d hu hd h))
theorem Wl_load_sub (hS : St B o n w es W) (hw : ∀ op : Op, Region.wanted { dst := dst, op := op, type := ty, pos := pos, after := aft, guard := g } (yielded ops a.tmps) = true) (b j : Nat) (hx : a.eval x = .pointer (some ⟨b, j, none⟩)) (d : TypeDesc) (hu : P.underlying T = some d) (hd : d.isRow = true) (c : Array Value)
    (hi : (P.info? T).map (·.size) = some c.size) (h : Sub es b j c (wpList P ops Q rest (a.put dst (.agg c)) W)) : Wl P ops Q ({ dst := dst, op := .load T x, type := ty, pos := pos, after := aft, guard := g } :: rest) a W :=
  .mk (wpList_wanted (hw _) (wp_load_sub_st hS T x rfl b j hx d hu hd c hi h))
theorem Wl_load1 (hS : St B o n w es W) (hw : ∀ op : Op, Region.wanted { dst := dst, op := op, type := ty, pos := pos, after := aft, guard := g } (yielded ops a.tmps) = true) (b j : Nat) (hx : a.eval x = .pointer (some ⟨b, j, none⟩)) (hsc : Scalar P T)
    (h : Look es b j fun v => wpList P ops Q rest (a.put dst v) W) : Wl P ops Q ({ dst := dst, op := .load T x, type := ty, pos := pos, after := aft, guard := g } :: rest) a W :=
  .mk (wpList_wanted (hw _) (wp_load1_sc hS T x rfl b j hx hsc h))
theorem Wl_store (hS : St B o n w es W) (hw : ∀ op : Op, Region.wanted { dst := dst, op := op, type := ty, pos := pos, after := aft, guard := g } (yielded ops a.tmps) = true) (b q : Nat) (c : Array Value) (hx : a.eval x = .pointer (some ⟨b, q, none⟩)) (hy : a.eval y = .agg c)
    (hi : (P.info? T).map (·.size) = some c.size) (h1 : c.all (·.oneCell') = true) (h : Turn es b q c fun es' => ∀ W', St B o n w es' W' → wpList P ops Q rest (a.put dst undef) W') : Wl P ops Q ({ dst := dst, op := .store T x y, type := ty, pos := pos, after := aft, guard := g } :: rest) a W :=
  .mk (wpList_wanted (hw _) (wp_store_st hS T x y rfl b q c hx hy hi h1 h))
theorem Wl_store_sub (hS : St B o n w es W) (hw : ∀ op : Op, Region.wanted { dst := dst, op := op, type := ty, pos := pos, after := aft, guard := g } (yielded ops a.tmps) = true) (b j : Nat) (c cs' : Array Value) (hx : a.eval x = .pointer (some ⟨b, j, none⟩)) (hy : a.eval y = .agg c)
    (hi : (P.info? T).map (·.size) = some c.size) (h1 : c.all (·.oneCell') = true) (h : SubTurn es b j c cs' fun es' => ∀ W', St B o n w es' W' → wpList P ops Q rest (a.put dst undef) W') : Wl P ops Q ({ dst := dst, op := .store T x y, type := ty, pos := pos, after := aft, guard := g } :: rest) a W :=
  .mk (wpList_wanted (hw _) (wp_store_sub_st hS T x y rfl b j c cs' hx hy hi h1 h))
theorem Wl_store1 (hS : St B o n w es W) (hw : ∀ op : Op, Region.wanted { dst := dst, op := op, type := ty, pos := pos, after := aft, guard := g } (yielded ops a.tmps) = true) (b j : Nat) (v : Value) (hx : a.eval x = .pointer (some ⟨b, j, none⟩)) (hy : a.eval y = v)
    (hsc : Scalar P T) (hv : v.cells = #[v]) (h1 : v.oneCell' = true) (h : Turn1 es b j v fun es' => ∀ W', St B o n w es' W' → wpList P ops Q rest (a.put dst undef) W') : Wl P ops Q ({ dst := dst, op := .store T x y, type := ty, pos := pos, after := aft, guard := g } :: rest) a W :=
  .mk (wpList_wanted (hw _) (wp_store1_sc hS T x y rfl b j v hx hy hsc hv h1 h))
end
end Go.Proofs.Ytmoafjgogbcoeaa
