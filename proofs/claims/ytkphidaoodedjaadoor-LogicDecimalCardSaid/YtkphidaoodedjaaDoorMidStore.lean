/- A whole row or struct stored into a block that stands: the world behind it, by what it holds. Nothing of the program. -/
import Derived.Handy
import Derived.Deep.MidRow
import Derived.Lib.LazyBuf
import Derived.Test.YtkphidaoodedjaaDoorBitsIter
namespace Go.Proofs.YtkphidaoodedjaaDoor
open Go.RowKit
set_option linter.unusedVariables false

theorem there_new (w : World) (cs : Array Value) (t : TypeId) (n : Nat) (hn : n ≤ cs.size) : (w.alloc (.cells cs t)).there w.heap.size 0 n := fun j hj => by
  have : j < cs.size := by omega
  constructor <;> simp [this]
theorem there_alloc {W : World} {b n : Nat} (o : Obj) (h : W.there b 0 n) : (W.alloc o).there b 0 n := fun j hj => by
  obtain ⟨h1, h2⟩ := h j hj
  obtain ⟨v, hv⟩ := Option.isSome_iff_exists.1 h1
  exact ⟨by rw [cell_alloc_l o hv]; rfl, frozen_alloc_l o hv h2⟩
theorem there_below {X W : World} {b n : Nat} (h : X.there b 0 n) (hb : Below X.heap.size X W) (hl : b < X.heap.size) : W.there b 0 n := fun j hj => by
  rw [hb.cell (p := ⟨b, 0 + j, none⟩) hl, hb.frozen (p := ⟨b, 0 + j, none⟩) hl]
  exact h j hj
theorem is_store {P : Program} {w : World} {ops : Array Oper} {rest : List Oper} {a : Act} {Q : Exit → Act → World → Prop} {dst : Option Tmp} {t ty : TypeId} {m x : Operand} {pos : String} {aft : Array Edge}
    (h : wpList P ops Q ({ dst := dst, op := .store t m x, type := ty, pos := pos, after := aft, guard := none } :: rest) a w) : wpList P ops Q ({ dst := dst, op := .store t m x, type := ty, pos := pos, after := aft, guard := none } :: rest) a w := h
/-- The store, and what is known behind it. -/
theorem wpList_store_row {P : Program} {ops : Array Oper} {rest : List Oper} {op : Oper} {a : Act} {w : World} {Q : Exit → Act → World → Prop} (hgd : op.guard = none) (ty : TypeId) (x y : Operand) (ho : op.op = .store ty x y)
    (b o : Nat) (cells : Array Value) (hx : a.eval x = .pointer (some ⟨b, o, none⟩)) (hy : a.eval y = .agg cells)
    (ht : w.there b o cells.size) (hi : (P.info? ty).map (·.size) = some cells.size) (h1 : cells.all (·.oneCell') = true)
    (h : ∀ W : World, W.rangeAt b o cells.toList → W.there b o cells.size → (∀ base A, base ≤ b → Below base A w → Below base A W) → (∀ p : Addr, p.block ≠ b → W.cell? p = w.cell? p ∧ W.frozen? p = w.frozen? p) → wpList P ops Q rest (a.put op.dst undef) W) : wpList P ops Q (op :: rest) a w :=
  wpList_store_mid hgd ty x y ho b o cells hx hy ht hi h1 (h _ (World.rangeAt_setCells_same w b o cells.toList (by simpa using ht)) (World.there_setCells ht b o _)
    (fun base A hb hB => below_setCells hb _ _ _ hB) (fun p hp => ⟨World.cell?_setCells_out b _ o w p (fun e => absurd e hp), World.frozen?_setCells b _ o w p⟩))
theorem range8 {W : World} {b : Nat} {v0 v1 v2 v3 v4 v5 v6 v7 : Value} (h : W.rangeAt b 0 [v0, v1, v2, v3, v4, v5, v6, v7]) : W.cell? ⟨b, 0, none⟩ = some v0 ∧ W.cell? ⟨b, 1, none⟩ = some v1 ∧ W.cell? ⟨b, 2, none⟩ = some v2 ∧ W.cell? ⟨b, 3, none⟩ = some v3
    ∧ W.cell? ⟨b, 4, none⟩ = some v4 ∧ W.cell? ⟨b, 5, none⟩ = some v5 ∧ W.cell? ⟨b, 6, none⟩ = some v6 ∧ W.cell? ⟨b, 7, none⟩ = some v7 :=
  ⟨h 0 _ rfl, h 1 _ rfl, h 2 _ rfl, h 3 _ rfl, h 4 _ rfl, h 5 _ rfl, h 6 _ rfl, h 7 _ rfl⟩
end Go.Proofs.YtkphidaoodedjaaDoor
