/- The map literal of the program's take (dmareg): its steps in whatever order. -/
import Derived.Test.YtkkkjdbcckaedaaRgReg
import Derived.Test.YtkkkjdbcckaedaaRgClo
namespace Go.Proofs.Ytkkkjdbcckaedaa
open Go.RowKit
set_option linter.unusedVariables false
set_option linter.unusedSimpArgs false
set_option maxRecDepth 100000
/-- Where the region is: which of its steps came up, and what these made. -/
structure S6 where
  f0 : Bool
  g1 : Bool
  g2 : Bool
  g3 : Bool
  g4 : Bool
  g5 : Bool
  g6 : Bool
  g7 : Bool
  g8 : Bool
  g9 : Bool
  g10 : Bool
  i1 : Bool
  i2 : Bool
  i3 : Bool
  i4 : Bool
  i5 : Bool
  i6 : Bool
  i7 : Bool
  i8 : Bool
  i9 : Bool
  i10 : Bool
  i11 : Bool
  i12 : Bool
  i13 : Bool
  i14 : Bool
  m : Value
  x1 : Value
  x2 : Value
  x3 : Value
  x4 : Value
  x5 : Value
  x6 : Value
  x7 : Value
  x8 : Value
  x9 : Value
  x10 : Value
def S6.L (s : S6) : Array Bool := #[s.f0, true, true, true, true, s.g1, s.i1, true, true, true, true, s.g2, s.i2, true, true, true, true, s.g3, s.i3, true, true, true, true, s.g4, s.i4, true, true, true, true, s.g5, s.i5, true, true, true, true, s.g6, s.i6, true, s.i11, true, s.i12, true, true, true, true, s.g7, s.i7, true, true, true, true, s.g8, s.i8, true, true, true, true, s.g9, s.i9, true, true, true, true, s.g10, s.i10, true, s.i13, true, s.i14, false, true, false, false]
def S6.A (B b2 b3 : Nat) (b k : Int) (y12 y13 y19 y20 y21 : Value) (s : S6) : Act := ⟨#[Value.pointer (some ⟨B, 0, none⟩), Value.int .u8 b, Value.pointer (some ⟨b2, 0, none⟩), Value.pointer (some ⟨b3, 0, none⟩), Value.int .i64 k, Value.func (.func 80) #[] #[.pointer (some ⟨b3, 0, none⟩)], Value.func (.func 83) #[] #[.pointer (some ⟨b3, 0, none⟩)], Value.func (.func 85) #[] #[.pointer (some ⟨b3, 0, none⟩)], undef, Value.pointer (some ⟨B, 0, none⟩), Value.pointer (some ⟨B, 0, none⟩), Value.pointer (some ⟨B, 23, none⟩), y12, y13, Value.int .i64 k, Value.pointer (some ⟨B, 0, none⟩), Value.pointer (some ⟨B, 0, none⟩), Value.pointer (some ⟨B, 0, none⟩), Value.pointer (some ⟨B, 23, none⟩), y19, y20, y21, Value.pointer (some ⟨B, 0, none⟩), Value.pointer (some ⟨B, 23, none⟩), Value.func (.func 80) #[] #[.pointer (some ⟨b3, 0, none⟩)], Value.func (.func 83) #[] #[.pointer (some ⟨b3, 0, none⟩)], Value.func (.func 85) #[] #[.pointer (some ⟨b3, 0, none⟩)], s.m, Value.func (.func 80) #[] #[.pointer (some ⟨b3, 0, none⟩)], Value.pointer (some ⟨B, 0, none⟩), Value.pointer (some ⟨B, 0, none⟩), Value.pointer (some ⟨B, 2, none⟩), s.x1, Value.func (.func 83) #[] #[.pointer (some ⟨b3, 0, none⟩)], Value.pointer (some ⟨B, 0, none⟩), Value.pointer (some ⟨B, 0, none⟩), Value.pointer (some ⟨B, 2, none⟩), s.x2, Value.func (.func 80) #[] #[.pointer (some ⟨b3, 0, none⟩)], Value.pointer (some ⟨B, 0, none⟩), Value.pointer (some ⟨B, 0, none⟩), Value.pointer (some ⟨B, 4, none⟩), s.x3, Value.func (.func 83) #[] #[.pointer (some ⟨b3, 0, none⟩)], Value.pointer (some ⟨B, 0, none⟩), Value.pointer (some ⟨B, 0, none⟩), Value.pointer (some ⟨B, 4, none⟩), s.x4, Value.func (.func 80) #[] #[.pointer (some ⟨b3, 0, none⟩)], Value.pointer (some ⟨B, 0, none⟩), Value.pointer (some ⟨B, 0, none⟩), Value.pointer (some ⟨B, 3, none⟩), s.x5, Value.func (.func 83) #[] #[.pointer (some ⟨b3, 0, none⟩)], Value.pointer (some ⟨B, 0, none⟩), Value.pointer (some ⟨B, 0, none⟩), Value.pointer (some ⟨B, 3, none⟩), s.x6, Value.func (.func 87) #[] #[.pointer (some ⟨b3, 0, none⟩), .pointer (some ⟨b2, 0, none⟩)], Value.func (.func 89) #[] #[.pointer (some ⟨b3, 0, none⟩), .pointer (some ⟨b2, 0, none⟩)], Value.func (.func 85) #[] #[.pointer (some ⟨b3, 0, none⟩)], Value.pointer (some ⟨B, 0, none⟩), Value.pointer (some ⟨B, 0, none⟩), Value.pointer (some ⟨B, 11, none⟩), s.x7, Value.func (.func 85) #[] #[.pointer (some ⟨b3, 0, none⟩)], Value.pointer (some ⟨B, 0, none⟩), Value.pointer (some ⟨B, 0, none⟩), Value.pointer (some ⟨B, 12, none⟩), s.x8, Value.func (.func 85) #[] #[.pointer (some ⟨b3, 0, none⟩)], Value.pointer (some ⟨B, 0, none⟩), Value.pointer (some ⟨B, 0, none⟩), Value.pointer (some ⟨B, 16, none⟩), s.x9, Value.func (.func 85) #[] #[.pointer (some ⟨b3, 0, none⟩)], Value.pointer (some ⟨B, 0, none⟩), Value.pointer (some ⟨B, 0, none⟩), Value.pointer (some ⟨B, 17, none⟩), s.x10, Value.func (.func 90) #[] #[.pointer (some ⟨b3, 0, none⟩), .pointer (some ⟨b2, 0, none⟩)], Value.func (.func 93) #[] #[.pointer (some ⟨b3, 0, none⟩), .pointer (some ⟨b2, 0, none⟩)], undef, Value.int .i64 k, undef, undef, undef, undef, undef], []⟩
def S6.n (s : S6) : Nat := cond s.f0 0 1 + cond s.g1 0 1 + cond s.g2 0 1 + cond s.g3 0 1 + cond s.g4 0 1 + cond s.g5 0 1 + cond s.g6 0 1 + cond s.g7 0 1 + cond s.g8 0 1 + cond s.g9 0 1 + cond s.g10 0 1 + cond s.i1 0 1 + cond s.i2 0 1 + cond s.i3 0 1 + cond s.i4 0 1 + cond s.i5 0 1 + cond s.i6 0 1 + cond s.i7 0 1 + cond s.i8 0 1 + cond s.i9 0 1 + cond s.i10 0 1 + cond s.i11 0 1 + cond s.i12 0 1 + cond s.i13 0 1 + cond s.i14 0 1
def look : List (Int × Bool × Value) → Int → Option Value
  | [], _ => none
  | x :: t, n => if n = x.1 then (if x.2.1 then some x.2.2 else none) else look t n
def S6.vals (b2 b3 : Nat) (s : S6) : List (Int × Bool × Value) := [(1, s.i1, s.x1), (2, s.i2, s.x2), (3, s.i3, s.x3), (4, s.i4, s.x4), (9, s.i5, s.x5), (10, s.i6, s.x6), (7, s.i7, s.x7), (8, s.i8, s.x8), (12, s.i9, s.x9), (13, s.i10, s.x10), (5, s.i11, Value.func (.func 87) #[] #[.pointer (some ⟨b3, 0, none⟩), .pointer (some ⟨b2, 0, none⟩)]), (6, s.i12, Value.func (.func 89) #[] #[.pointer (some ⟨b3, 0, none⟩), .pointer (some ⟨b2, 0, none⟩)]), (11, s.i13, Value.func (.func 90) #[] #[.pointer (some ⟨b3, 0, none⟩), .pointer (some ⟨b2, 0, none⟩)]), (14, s.i14, Value.func (.func 93) #[] #[.pointer (some ⟨b3, 0, none⟩), .pointer (some ⟨b2, 0, none⟩)])]
/-- A closure over a box that points to a field. -/
def Cl (B b3 : Nat) (off : Nat) (kind : Nat) (W : World) (v : Value) : Prop := ∃ P, v = (if kind = 1 then Value.func (.func 81) #[] #[.pointer (some ⟨P, 0, none⟩), .pointer (some ⟨b3, 0, none⟩)] else if kind = 2 then Value.func (.func 84) #[] #[.pointer (some ⟨b3, 0, none⟩), .pointer (some ⟨P, 0, none⟩)] else Value.func (.func 86) #[] #[.pointer (some ⟨b3, 0, none⟩), .pointer (some ⟨P, 0, none⟩)]) ∧ W.cell? ⟨P, 0, none⟩ = some (.pointer (some ⟨B, off, none⟩)) ∧ B ≠ P
theorem Cl.keep {B b3 off kind : Nat} {W W' : World} {v : Value} (h : Cl B b3 off kind W v) (k : Keep W W') : Cl B b3 off kind W' v := by
  obtain ⟨P, h1, h2, h3⟩ := h
  exact ⟨P, h1, k _ _ h2, h3⟩
structure S6.Ok (B b2 b3 : Nat) (w : World) (es : List Ent) (s : S6) (W : World) : Prop where
  st : St B 0 24 w es W
  map : s.f0 = true → ∃ m, s.m = .map (some m) ∧ w.heap.size ≤ m ∧ Mp W m (look (s.vals b2 b3))
  nomap : s.f0 = false → s.i1 = false ∧ s.i2 = false ∧ s.i3 = false ∧ s.i4 = false ∧ s.i5 = false ∧ s.i6 = false ∧ s.i7 = false ∧ s.i8 = false ∧ s.i9 = false ∧ s.i10 = false ∧ s.i11 = false ∧ s.i12 = false ∧ s.i13 = false ∧ s.i14 = false
  c1 : s.g1 = true → Cl B b3 2 1 W s.x1
  d1 : s.i1 = true → s.g1 = true
  c2 : s.g2 = true → Cl B b3 2 2 W s.x2
  d2 : s.i2 = true → s.g2 = true
  c3 : s.g3 = true → Cl B b3 4 1 W s.x3
  d3 : s.i3 = true → s.g3 = true
  c4 : s.g4 = true → Cl B b3 4 2 W s.x4
  d4 : s.i4 = true → s.g4 = true
  c5 : s.g5 = true → Cl B b3 3 1 W s.x5
  d5 : s.i5 = true → s.g5 = true
  c6 : s.g6 = true → Cl B b3 3 2 W s.x6
  d6 : s.i6 = true → s.g6 = true
  c7 : s.g7 = true → Cl B b3 11 3 W s.x7
  d7 : s.i7 = true → s.g7 = true
  c8 : s.g8 = true → Cl B b3 12 3 W s.x8
  d8 : s.i8 = true → s.g8 = true
  c9 : s.g9 = true → Cl B b3 16 3 W s.x9
  d9 : s.i9 = true → s.g9 = true
  c10 : s.g10 = true → Cl B b3 17 3 W s.x10
  d10 : s.i10 = true → s.g10 = true
theorem St.keepMap {B o n b : Nat} {w W W' : World} {es : List Ent} (h : St B o n w es W) (hg : W.grownBy W' (some b)) (hb : w.heap.size ≤ b) (hm : ∃ es c es' c', W.heap[b]? = some (.map es c) ∧ W'.heap[b]? = some (.map es' c')) : St B o n w es W' := by
  obtain ⟨e, c, e', c', h1, h2⟩ := hm
  exact h.touch0 (touch_map h1 h2 hg) hb
end Go.Proofs.Ytkkkjdbcckaedaa
