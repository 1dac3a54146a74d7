/- Two serial channels as plain mathematics: what a byte that is told, comes in, goes out makes of them. No Go, no memory but the cells' values. -/
import Derived.Test.YtlpoldnidojgmaaMath2
import Derived.Test.YtlpoldnidojgmaaMath3
namespace Go.Proofs.Ytlpoldnidojgmaa
open Go.RowKit

/-- A channel. -/
structure M.Cn where
  w0 : Int
  w1 : Int
  w2 : Int
  w3 : Int
  w4 : Int
  w5 : Int
  w6 : Int
  w7 : Int
  pt : Int
  f0 : Int
  f1 : Int
  f2 : Int
  n : Int
  over : Bool
  tx : Int
  full : Bool
  gone : Bool
/-- Both. -/
structure M.Si where
  c0 : M.Cn
  c1 : M.Cn
structure M.Cn.ok (x : M.Cn) : Prop where
  w0 : 0 ≤ x.w0 ∧ x.w0 ≤ 255
  w1 : 0 ≤ x.w1 ∧ x.w1 ≤ 255
  w2 : 0 ≤ x.w2 ∧ x.w2 ≤ 255
  w3 : 0 ≤ x.w3 ∧ x.w3 ≤ 255
  w4 : 0 ≤ x.w4 ∧ x.w4 ≤ 255
  w5 : 0 ≤ x.w5 ∧ x.w5 ≤ 255
  w6 : 0 ≤ x.w6 ∧ x.w6 ≤ 255
  w7 : 0 ≤ x.w7 ∧ x.w7 ≤ 255
  pt : -9223372036854775808 ≤ x.pt ∧ x.pt ≤ 9223372036854775807
  f0 : 0 ≤ x.f0 ∧ x.f0 ≤ 255
  f1 : 0 ≤ x.f1 ∧ x.f1 ≤ 255
  f2 : 0 ≤ x.f2 ∧ x.f2 ≤ 255
  n : -9223372036854775808 ≤ x.n ∧ x.n ≤ 9223372036854775807
  tx : 0 ≤ x.tx ∧ x.tx ≤ 255
def M.Si.ok (s : M.Si) : Prop := s.c0.ok ∧ s.c1.ok
def M.Cn.v (x : M.Cn) : List Value := [.int .u8 x.w0, .int .u8 x.w1, .int .u8 x.w2, .int .u8 x.w3, .int .u8 x.w4, .int .u8 x.w5, .int .u8 x.w6, .int .u8 x.w7, .int .i64 x.pt, .int .u8 x.f0, .int .u8 x.f1, .int .u8 x.f2, .int .i64 x.n, .bool x.over, .int .u8 x.tx, .bool x.full, .bool x.gone]
def M.Cn.a (x : M.Cn) : Array Value := x.v.toArray
def M.Si.v (s : M.Si) : List Value := s.c0.v ++ s.c1.v
def M.Si.a (s : M.Si) : Array Value := s.v.toArray
def M.Si.at (s : M.Si) : Nat → M.Cn
  | 0 => s.c0
  | _ => s.c1
def M.Si.set (s : M.Si) (x : M.Cn) : Nat → M.Si
  | 0 => { s with c0 := x }
  | _ => { s with c1 := x }
def M.cn0 : M.Cn := ⟨0, 0, 0, 0, 0, 0, 0, 0, 0, 0, 0, 0, 0, false, 0, false, false⟩
def M.si0 : M.Si := ⟨M.cn0, M.cn0⟩
def M.Cn.wset (x : M.Cn) (b : Int) : Nat → M.Cn
  | 0 => { x with w0 := b }
  | 1 => { x with w1 := b }
  | 2 => { x with w2 := b }
  | 3 => { x with w3 := b }
  | 4 => { x with w4 := b }
  | 5 => { x with w5 := b }
  | 6 => { x with w6 := b }
  | _ => { x with w7 := b }
def M.fix (n hi : Int) : Int := if n < 0 ∨ hi < n then 0 else n
def M.right (x : M.Cn) : M.Cn := { x with pt := M.fix x.pt 7, n := M.fix x.n 3 }
def M.sCmd (x : M.Cn) (b : Int) : M.Cn :=
  if b / 8 % 8 = 3 then M.cn0 else if b / 8 % 8 = 5 then { x with pt := b % 8, gone := false } else if b / 8 % 8 = 6 then { x with pt := b % 8, over := false } else { x with pt := b % 8 }
def M.sCtl (x : M.Cn) (b : Int) : M.Cn := if 0 < x.pt then { x.wset b x.pt.toNat with pt := 0 } else M.sCmd x b
def M.sTx (x : M.Cn) (b : Int) : M.Cn := { x with tx := b, full := true, gone := false }
def M.sWrite (s : M.Si) (reg b : Int) : M.Si :=
  if 0 ≤ reg ∧ reg ≤ 3 then s.set (if reg % 2 = 1 then M.sCtl (M.right (s.at (reg / 2).toNat)) b else M.sTx (M.right (s.at (reg / 2).toNat)) b) (reg / 2).toNat else s
def M.sTake (x : M.Cn) : M.Cn := if x.n = 0 then x else { x with f0 := x.f1, f1 := x.f2, f2 := 0, n := x.n - 1 }
def M.sTakeV (x : M.Cn) : Int := if x.n = 0 then 0 else x.f0
def M.came (x : M.Cn) : Bool := decide (0 < x.n) && (M.is x.w1 3 || M.is x.w1 4)
def M.sPend (s : M.Si) : Int :=
  if M.came (M.right s.c0) then 0 else if s.c0.gone then 1 else if M.came (M.right s.c1) then 2 else if s.c1.gone then 3 else -1
def M.sWhat (s : M.Si) : Int := if 0 ≤ M.sPend s then 6 - 2 * M.sPend s else 3
def M.vecB (v what : Int) : Int := M.withB (M.withB (M.withB v 1 (M.is what 0)) 2 (M.is what 1)) 3 (M.is what 2)
def M.sVec (s : M.Si) : Int := if M.is s.c1.w1 2 then M.vecB s.c1.w2 (M.sWhat s) else s.c1.w2
def M.sTold (s : M.Si) (k : Int) (x : M.Cn) : Int :=
  if x.pt = 0 then M.withB (M.withB (M.withB 0 0 (decide (0 < x.n))) 1 (decide (k = 0) && decide (0 ≤ M.sPend s))) 2 (!x.full)
  else if x.pt = 1 then M.withB (M.withB 0 0 (!x.full)) 5 x.over
  else if x.pt = 2 ∧ k = 1 then M.sVec s else 0
def M.sReadP (s : M.Si) (reg : Int) : M.Si :=
  if 0 ≤ reg ∧ reg ≤ 3 then s.set (if reg % 2 = 1 then { M.right (s.at (reg / 2).toNat) with pt := 0 } else M.sTake (M.right (s.at (reg / 2).toNat))) (reg / 2).toNat else s
def M.sReadV (s : M.Si) (reg : Int) : Int :=
  if 0 ≤ reg ∧ reg ≤ 3 then (if reg % 2 = 1 then M.sTold s (reg / 2) (M.right (s.at (reg / 2).toNat)) else M.sTakeV (M.right (s.at (reg / 2).toNat))) else 255
def M.sGot (x : M.Cn) (b : Int) : M.Cn :=
  if x.n = 0 then { x with f0 := b, n := 1 } else if x.n = 1 then { x with f1 := b, n := 2 } else if x.n = 2 then { x with f2 := b, n := 3 } else { x with f2 := b, over := true }
def M.sRecv (s : M.Si) (k b : Int) : M.Si :=
  if (k = 0 ∨ k = 1) ∧ M.is (s.at k.toNat).w3 0 = true then s.set (M.sGot (M.right (s.at k.toNat)) b) k.toNat else s
def M.sends (s : M.Si) (k : Int) : Bool := decide (k = 0 ∨ k = 1) && ((s.at k.toNat).full && M.is (s.at k.toNat).w5 3)
def M.sSendP (s : M.Si) (k : Int) : M.Si :=
  if M.sends s k then s.set { M.right (s.at k.toNat) with full := false, gone := (s.at k.toNat).gone || M.is (s.at k.toNat).w1 1 } k.toNat else s
def M.sSendV (s : M.Si) (k : Int) : Int := if M.sends s k then (s.at k.toNat).tx else 0
def M.sAckP (s : M.Si) : M.Si := if M.sPend s = 1 then { s with c0 := { s.c0 with gone := false } } else if M.sPend s = 3 then { s with c1 := { s.c1 with gone := false } } else s
def M.sAckV (s : M.Si) : Int := if M.sPend s < 0 then 255 else M.sVec s
end Go.Proofs.Ytlpoldnidojgmaa
