/- Four counters as plain mathematics: what a byte that is told, and a state, make of them. No Go, no memory but the cells' values. -/
import Derived.Test.YtmoafjgogbcoeaaMath
namespace Go.Proofs.Ytmoafjgogbcoeaa
open Go.RowKit

/-- A channel. -/
structure M.Ch where
  con : Int
  cst : Int
  cnt : Int
  pre : Int
  runs : Bool
  waits : Bool
  wants : Bool
  pend : Bool
/-- Four of them and a vector. -/
structure M.Ct where
  c0 : M.Ch
  c1 : M.Ch
  c2 : M.Ch
  c3 : M.Ch
  vec : Int
def M.Ch.ok (x : M.Ch) : Prop := (0 ≤ x.con ∧ x.con ≤ 255) ∧ (0 ≤ x.cst ∧ x.cst ≤ 255) ∧ (-9223372036854775808 ≤ x.cnt ∧ x.cnt ≤ 9223372036854775807) ∧ (-9223372036854775808 ≤ x.pre ∧ x.pre ≤ 9223372036854775807)
def M.Ct.ok (c : M.Ct) : Prop := c.c0.ok ∧ c.c1.ok ∧ c.c2.ok ∧ c.c3.ok ∧ 0 ≤ c.vec ∧ c.vec ≤ 255
/-- The cells. -/
def M.Ch.v (x : M.Ch) : List Value := [.int .u8 x.con, .int .u8 x.cst, .int .i64 x.cnt, .int .i64 x.pre, .bool x.runs, .bool x.waits, .bool x.wants, .bool x.pend]
def M.Ct.v (c : M.Ct) : List Value := c.c0.v ++ c.c1.v ++ c.c2.v ++ c.c3.v ++ [.int .u8 c.vec]
def M.Ct.at (c : M.Ct) : Nat → M.Ch
  | 0 => c.c0
  | 1 => c.c1
  | 2 => c.c2
  | _ => c.c3
def M.Ct.set (c : M.Ct) (x : M.Ch) : Nat → M.Ct
  | 0 => { c with c0 := x }
  | 1 => { c with c1 := x }
  | 2 => { c with c2 := x }
  | _ => { c with c3 := x }

def M.whole (b : Int) : Int := if b = 0 then 256 else b
def M.tellsW (x : M.Ch) : Bool := !M.is x.con 6 && M.is x.con 3
def M.told (x : M.Ch) (b : Int) : M.Ch :=
  if x.wants then { x with cst := b, cnt := M.whole b, pre := 0, wants := false, waits := M.tellsW x, runs := !M.tellsW x }
  else if M.is b 1 then { x with con := b, wants := M.is b 2, runs := false, waits := false }
  else { x with con := b, wants := M.is b 2 }
def M.write (c : M.Ct) (k : Int) (b : Int) : M.Ct :=
  if k < 0 ∨ 3 < k then c
  else if (c.at k.toNat).wants || M.is b 0 then c.set (M.told (c.at k.toNat) b) k.toNat
  else if k = 0 then { c with vec := b / 8 * 8 } else c
def M.read (c : M.Ct) (k : Int) : Int := if k < 0 ∨ 3 < k then 0 else (c.at k.toNat).cnt % 256
def M.downX (x : M.Ch) : M.Ch := if 0 < wrap64 (x.cnt - 1) then { x with cnt := wrap64 (x.cnt - 1) } else { x with cnt := M.whole x.cst, pend := x.pend || M.is x.con 7 }
def M.downZ (x : M.Ch) : Bool := !decide (0 < wrap64 (x.cnt - 1))
def M.scale (x : M.Ch) : Int := if M.is x.con 5 then 256 else 16
def M.tickX (x : M.Ch) (e : Bool) : M.Ch :=
  if x.waits && e then { x with runs := true, waits := false }
  else if !x.runs then x
  else if M.is x.con 6 then (if e then M.downX x else x)
  else if wrap64 (x.pre + 1) < M.scale x then { x with pre := wrap64 (x.pre + 1) }
  else M.downX { x with pre := 0 }
def M.tickZ (x : M.Ch) (e : Bool) : Bool :=
  if x.waits && e then false
  else if !x.runs then false
  else if M.is x.con 6 then (e && M.downZ x)
  else if wrap64 (x.pre + 1) < M.scale x then false
  else M.downZ { x with pre := 0 }
/-- Four bools. -/
structure M.E4 where
  e0 : Bool
  e1 : Bool
  e2 : Bool
  e3 : Bool
def M.E4.v (e : M.E4) : List Value := [.bool e.e0, .bool e.e1, .bool e.e2, .bool e.e3]
def M.E4.at (e : M.E4) : Nat → Bool
  | 0 => e.e0
  | 1 => e.e1
  | 2 => e.e2
  | _ => e.e3
def M.tickC (c : M.Ct) (e : M.E4) : M.Ct := ⟨M.tickX c.c0 e.e0, M.tickX c.c1 e.e1, M.tickX c.c2 e.e2, M.tickX c.c3 e.e3, c.vec⟩
def M.tickE (c : M.Ct) (e : M.E4) : M.E4 := ⟨M.tickZ c.c0 e.e0, M.tickZ c.c1 e.e1, M.tickZ c.c2 e.e2, M.tickZ c.c3 e.e3⟩
def M.pendC (c : M.Ct) : Int := if c.c0.pend then 0 else if c.c1.pend then 1 else if c.c2.pend then 2 else if c.c3.pend then 3 else -1
def M.ackC (c : M.Ct) : M.Ct :=
  if c.c0.pend then { c with c0 := { c.c0 with pend := false } } else if c.c1.pend then { c with c1 := { c.c1 with pend := false } }
  else if c.c2.pend then { c with c2 := { c.c2 with pend := false } } else if c.c3.pend then { c with c3 := { c.c3 with pend := false } } else c
def M.ackV (c : M.Ct) : Int := if c.c0.pend then c.vec % 256 else if c.c1.pend then (c.vec + 2) % 256 else if c.c2.pend then (c.vec + 4) % 256 else if c.c3.pend then (c.vec + 6) % 256 else 255
def M.ch0 : M.Ch := ⟨0, 0, 0, 0, false, false, false, false⟩
def M.ct0 : M.Ct := ⟨M.ch0, M.ch0, M.ch0, M.ch0, 0⟩

theorem M.andNot7 (b : Int) (h0 : 0 ≤ b) (h1 : b ≤ 255) : bits .andNot .u8 b 7 = b / 8 * 8 := by
  have h : ∀ n : Fin 256, bits .andNot .u8 (n.val : Int) 7 = (n.val : Int) / 8 * 8 := by decide +kernel
  have := h ⟨b.toNat, by omega⟩
  simpa [Int.toNat_of_nonneg h0] using this
theorem M.whole_range {b : Int} (h0 : 0 ≤ b) (h1 : b ≤ 255) : 1 ≤ M.whole b ∧ M.whole b ≤ 256 := by unfold M.whole; split <;> omega
theorem M.whole_code {b : Int} (h0 : 0 ≤ b) (h1 : b ≤ 255) : (b - 1) % 256 + 1 = M.whole b := by unfold M.whole; split <;> omega
theorem M.w64_range (n : Int) : -9223372036854775808 ≤ wrap64 n ∧ wrap64 n ≤ 9223372036854775807 := by unfold wrap64; omega
theorem M.told_ok {x : M.Ch} {b : Int} (hx : x.ok) (h0 : 0 ≤ b) (h1 : b ≤ 255) : (M.told x b).ok := by
  obtain ⟨a1, a2, a3, a4⟩ := hx
  have := M.whole_range h0 h1
  unfold M.told
  split
  · exact ⟨a1, ⟨h0, h1⟩, ⟨by show -9223372036854775808 ≤ M.whole b; omega, by show M.whole b ≤ _; omega⟩, by simp⟩
  · split <;> exact ⟨⟨h0, h1⟩, a2, a3, a4⟩
theorem M.set_ok {c : M.Ct} {x : M.Ch} (hc : c.ok) (hx : x.ok) (k : Nat) : (c.set x k).ok := by
  obtain ⟨a0, a1, a2, a3, a4⟩ := hc
  unfold M.Ct.set
  split
  · exact ⟨hx, a1, a2, a3, a4⟩
  · exact ⟨a0, hx, a2, a3, a4⟩
  · exact ⟨a0, a1, hx, a3, a4⟩
  · exact ⟨a0, a1, a2, hx, a4⟩
theorem M.at_ok {c : M.Ct} (hc : c.ok) (k : Nat) : (c.at k).ok := by
  obtain ⟨a0, a1, a2, a3, a4⟩ := hc
  unfold M.Ct.at
  split <;> assumption
theorem M.write_ok {c : M.Ct} {k b : Int} (hc : c.ok) (h0 : 0 ≤ b) (h1 : b ≤ 255) : (M.write c k b).ok := by
  unfold M.write
  split
  · exact hc
  · split
    · exact M.set_ok hc (M.told_ok (M.at_ok hc _) h0 h1) _
    · split
      · obtain ⟨a0, a1, a2, a3, a4⟩ := hc
        exact ⟨a0, a1, a2, a3, by show 0 ≤ b / 8 * 8; omega, by show b / 8 * 8 ≤ 255; omega⟩
      · exact hc
theorem M.down_ok {x : M.Ch} (hx : x.ok) : (M.downX x).ok := by
  obtain ⟨a1, a2, a3, a4⟩ := hx
  have hw := M.whole_range a2.1 a2.2
  have h6 := M.w64_range (x.cnt - 1)
  unfold M.downX
  split
  · exact ⟨a1, a2, h6, a4⟩
  · exact ⟨a1, a2, ⟨by show -9223372036854775808 ≤ M.whole x.cst; omega, by show M.whole x.cst ≤ _; omega⟩, a4⟩
theorem M.tick_ok {x : M.Ch} {e : Bool} (hx : x.ok) : (M.tickX x e).ok := by
  have hd := M.down_ok hx
  obtain ⟨a1, a2, a3, a4⟩ := hx
  have hp : (M.Ch.ok { x with pre := 0 }) := ⟨a1, a2, a3, by simp⟩
  have hd0 := M.down_ok hp
  have h6 := M.w64_range (x.pre + 1)
  unfold M.tickX
  repeat' split
  · exact ⟨a1, a2, a3, a4⟩
  · exact ⟨a1, a2, a3, a4⟩
  · exact hd
  · exact ⟨a1, a2, a3, a4⟩
  · exact ⟨a1, a2, a3, h6⟩
  · exact hd0
theorem M.tickC_ok {c : M.Ct} {e : M.E4} (hc : c.ok) : (M.tickC c e).ok := by
  obtain ⟨a0, a1, a2, a3, a4⟩ := hc
  exact ⟨M.tick_ok a0, M.tick_ok a1, M.tick_ok a2, M.tick_ok a3, a4⟩
end Go.Proofs.Ytmoafjgogbcoeaa
