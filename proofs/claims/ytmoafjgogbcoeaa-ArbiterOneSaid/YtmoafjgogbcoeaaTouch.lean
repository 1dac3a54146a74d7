/- Of a range of cells in a block that a call turned, and nothing else: words for the world behind it. Nothing of the program. -/
import Derived.Handy
import Derived.Deep.MidRow
import Derived.Deep.QuietTactic
import Derived.Lib.Hide
namespace Go.Proofs.Ytmoafjgogbcoeaa
open Go.RowKit
set_option linter.unusedVariables false

/-- Of what lay in w, only n cells of block B from offset o on may have turned. -/
structure Touch (B o n : Nat) (w w' : World) : Prop where
  size : w.heap.size ≤ w'.heap.size
  cell : ∀ p : Addr, p.block < w.heap.size → (p.block ≠ B ∨ p.off < o ∨ o + n ≤ p.off) → w'.cell? p = w.cell? p
  frozen : ∀ p : Addr, p.block < w.heap.size → w'.frozen? p = w.frozen? p
  below : ∀ base A, base ≤ B → base ≤ w.heap.size → Below base A w → Below base A w'
variable {B o n : Nat} {w w' : World}
theorem Touch.refl (B o n : Nat) (w : World) : Touch B o n w w := ⟨Nat.le_refl _, fun _ _ _ => rfl, fun _ _ => rfl, fun _ _ _ _ h => h⟩
theorem Touch.setCell (h : Touch B o n w w') (j : Nat) (h1 : o ≤ j) (h2 : j < o + n) (v : Value) : Touch B o n w (w'.setCell ⟨B, j, none⟩ v) :=
  ⟨by have := h.size; simpa using this,
   fun p hp hq => by
    rw [World.cell?_setCell_other _ _ _ _ (fun e => by subst e; rcases hq with hq | hq | hq <;> simp at hq <;> omega)]
    exact h.cell p hp hq,
   fun p hp => by rw [World.frozen?_setCell]; exact h.frozen p hp,
   fun base A hb hs hB => (h.below base A hb hs hB).setCell (p := ⟨B, j, none⟩) hb v⟩
theorem Touch.drew (h : Touch B o n w w') : Touch B o n w w'.drew :=
  ⟨h.size, fun p hp hq => by rw [World.cell?_drew]; exact h.cell p hp hq, fun p hp => by rw [World.frozen?_drew]; exact h.frozen p hp, fun base A hb hs hB => (h.below base A hb hs hB).drew⟩
theorem Touch.drewN (h : Touch B o n w w') (k : Nat) : Touch B o n w (w'.drewN k) :=
  ⟨h.size, fun p hp hq => by rw [show (w'.drewN k).cell? p = w'.cell? p from rfl]; exact h.cell p hp hq, fun p hp => h.frozen p hp, fun base A hb hs hB => ⟨(h.below base A hb hs hB).os, (h.below base A hb hs hB).tape, (h.below base A hb hs hB).output, (h.below base A hb hs hB).size, (h.below base A hb hs hB).block⟩⟩
theorem Touch.trans {w'' : World} (h : Touch B o n w w') (k : Touch B o n w' w'') : Touch B o n w w'' :=
  ⟨Nat.le_trans h.size k.size, fun p hp hq => (k.cell p (Nat.lt_of_lt_of_le hp h.size) hq).trans (h.cell p hp hq), fun p hp => (k.frozen p (Nat.lt_of_lt_of_le hp h.size)).trans (h.frozen p hp),
   fun base A hb hs hB => k.below base A hb (Nat.le_trans hs h.size) (h.below base A hb hs hB)⟩
theorem Touch.wide {o' n' : Nat} (h : Touch B o n w w') (h1 : o' ≤ o) (h2 : o + n ≤ o' + n') : Touch B o' n' w w' :=
  ⟨h.size, fun p hp hq => h.cell p hp (by rcases hq with hq | hq | hq; exact .inl hq; exact .inr (.inl (by omega)); exact .inr (.inr (by omega))), h.frozen, h.below⟩
/-- Ranges. -/
theorem Touch.range {b q : Nat} {cs : List Value} (h : Touch B o n w w') (hb : b < w.heap.size) (hr : w.rangeAt b q cs) (hd : b ≠ B ∨ q + cs.length ≤ o ∨ o + n ≤ q) : w'.rangeAt b q cs := fun j v hv => by
  have hj : j < cs.length := (List.getElem?_eq_some_iff.1 hv).1
  rw [h.cell ⟨b, q + j, none⟩ hb (by rcases hd with hd | hd | hd; exact .inl hd; exact .inr (.inl (by show q + j < o; omega)); exact .inr (.inr (by show o + n ≤ q + j; omega)))]
  exact hr j v hv
theorem Touch.cell1 {p : Addr} {v : Value} (h : Touch B o n w w') (hr : w.cell? p = some v) (hb : p.block < w.heap.size) (hd : p.block ≠ B) : w'.cell? p = some v := (h.cell p hb (.inl hd)).trans hr
/-- A new block's range. -/
theorem range_new (w : World) (cs : Array Value) (t : TypeId) : (w.alloc (.cells cs t)).rangeAt w.heap.size 0 cs.toList := fun j v hv => by
  simp only [Array.getElem?_toList] at hv
  have hj : j < cs.size := (Array.getElem?_eq_some_iff.1 hv).1
  simpa [hj] using hv
theorem range_part {W : World} {b q : Nat} {xs ys zs : List Value} (h : W.rangeAt b q (xs ++ ys ++ zs)) : W.rangeAt b (q + xs.length) ys := fun j v hv => by
  have hj : j < ys.length := (List.getElem?_eq_some_iff.1 hv).1
  have h2 := h (xs.length + j) v (by
    rw [List.getElem?_append_left (by simp; omega), List.getElem?_append_right (by omega), Nat.add_sub_cancel_left]; exact hv)
  rwa [← Nat.add_assoc] at h2
theorem range_join {W : World} {b q : Nat} {xs ys : List Value} (h : W.rangeAt b q xs) (k : W.rangeAt b (q + xs.length) ys) : W.rangeAt b q (xs ++ ys) := fun j v hv => by
  by_cases hj : j < xs.length
  · rw [List.getElem?_append_left hj] at hv; exact h j v hv
  · rw [List.getElem?_append_right (by omega)] at hv
    have := k (j - xs.length) v hv
    rwa [show q + xs.length + (j - xs.length) = q + j by omega] at this
theorem range_cell {W : World} {b q : Nat} {cs : List Value} (h : W.rangeAt b q cs) (j : Nat) {v : Value} (hv : cs[j]? = some v) : W.cell? ⟨b, q + j, none⟩ = some v := h j v hv
/-- What may be written. -/
def Free (w : World) (b o n : Nat) : Prop := ∀ j, j < n → w.frozen? ⟨b, o + j, none⟩ = false
theorem Free.touch {b q m : Nat} (h : Free w b q m) (k : Touch B o n w w') (hb : b < w.heap.size) : Free w' b q m := fun j hj => (k.frozen ⟨b, q + j, none⟩ hb).trans (h j hj)
theorem there_of {W : World} {b q m : Nat} {cs : List Value} (hr : W.rangeAt b q cs) (hf : Free W b q m) (hm : m ≤ cs.length) : W.there b q m := fun j hj => by
  refine ⟨?_, hf j hj⟩
  rw [hr j cs[j] (List.getElem?_eq_getElem (by omega))]
  rfl
theorem free_new (w : World) (cs : Array Value) (t : TypeId) (m : Nat) : Free (w.alloc (.cells cs t)) w.heap.size 0 m := fun j hj => by simp
theorem frozen_alloc {b : Nat} (w : World) (ob : Obj) (j : Nat) (hb : b < w.heap.size) : (w.alloc ob).frozen? ⟨b, j, none⟩ = w.frozen? ⟨b, j, none⟩ := World.frozen?_of_block (w := w) (Below.heap_alloc w ob b hb)
theorem Free.alloc {b q m : Nat} (h : Free w b q m) (hb : b < w.heap.size) (ob : Obj) : Free (w.alloc ob) b q m := fun j hj => by rw [frozen_alloc w ob _ hb]; exact h j hj
end Go.Proofs.Ytmoafjgogbcoeaa
