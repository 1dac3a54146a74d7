/- Two ports as plain mathematics: what a byte that is told, lines, strobes make of them. No Go, no memory but the cells' values. -/
import Derived.Test.YtmoafjgogbcoeaaMath2
import Derived.Test.YtmoafjgogbcoeaaMath3
namespace Go.Proofs.Ytmoafjgogbcoeaa
open Go.RowKit

/-- A port. -/
structure M.Po where
  mode : Int
  out : Int
  inn : Int
  dir : Int
  vec : Int
  mask : Int
  con : Int
  next : Int
  ready : Bool
  was : Bool
  pend : Bool
/-- Both. -/
structure M.Pi2 where
  p0 : M.Po
  p1 : M.Po
def M.Po.ok (x : M.Po) : Prop := (-9223372036854775808 ≤ x.mode ∧ x.mode ≤ 9223372036854775807) ∧ (0 ≤ x.out ∧ x.out ≤ 255) ∧ (0 ≤ x.inn ∧ x.inn ≤ 255) ∧ (0 ≤ x.dir ∧ x.dir ≤ 255) ∧ (0 ≤ x.vec ∧ x.vec ≤ 255) ∧ (0 ≤ x.mask ∧ x.mask ≤ 255) ∧ (0 ≤ x.con ∧ x.con ≤ 255) ∧ (-9223372036854775808 ≤ x.next ∧ x.next ≤ 9223372036854775807)
def M.Pi2.ok (p : M.Pi2) : Prop := p.p0.ok ∧ p.p1.ok
def M.Po.v (x : M.Po) : List Value := [.int .i64 x.mode, .int .u8 x.out, .int .u8 x.inn, .int .u8 x.dir, .int .u8 x.vec, .int .u8 x.mask, .int .u8 x.con, .int .i64 x.next, .bool x.ready, .bool x.was, .bool x.pend]
def M.Po.a (x : M.Po) : Array Value := x.v.toArray
def M.Pi2.v (p : M.Pi2) : List Value := p.p0.v ++ p.p1.v
def M.Pi2.a (p : M.Pi2) : Array Value := p.v.toArray
def M.Pi2.at (p : M.Pi2) : Nat → M.Po
  | 0 => p.p0
  | _ => p.p1
def M.Pi2.set (p : M.Pi2) (x : M.Po) : Nat → M.Pi2
  | 0 => { p with p0 := x }
  | _ => { p with p1 := x }
/-- Is any bit that is looked at as it is looked for; are all. -/
def M.anyH (mask inn : Int) (set : Bool) : Bool := (List.range 8).any fun i => !M.bit mask i && (M.bit inn i == set)
def M.allH (mask inn : Int) (set : Bool) : Bool := (List.range 8).all fun i => M.bit mask i || (M.bit inn i == set)
def M.soB (x : M.Po) : Bool := x.mode == 3 && (M.anyH x.mask x.inn (M.is x.con 5) && (!M.is x.con 6 || M.allH x.mask x.inn (M.is x.con 5)))
def M.pLook (x : M.Po) : M.Po := { x with was := M.soB x }
def M.pSignal (x : M.Po) : M.Po := { x with pend := x.pend || M.is x.con 7 }
def M.pData (x : M.Po) (b : Int) : M.Po := { x with out := b, ready := x.ready || (x.mode == 0 || x.mode == 2) }
def M.pFollow (x : M.Po) (b : Int) : M.Po := M.pLook (if x.next = 1 then { x with dir := b, next := 0 } else { x with mask := b, next := 0 })
def M.pControl (x : M.Po) (b : Int) : M.Po :=
  if x.next = 1 ∨ x.next = 2 then M.pFollow x b
  else if b % 16 = 15 then { x with mode := b / 64, next := if b / 64 = 3 then 1 else 0, ready := false }
  else if b % 16 = 7 then M.pLook (if M.is b 4 then { x with con := b, next := 2, pend := false } else { x with con := b })
  else if b % 16 = 3 then { x with con := M.withB x.con 7 (M.is b 7) }
  else if b % 2 = 0 then { x with vec := b } else x
def M.pWrite (p : M.Pi2) (reg b : Int) : M.Pi2 :=
  if reg = 0 ∨ reg = 1 then p.set (M.pData (p.at reg.toNat) b) reg.toNat
  else if reg = 2 ∨ reg = 3 then p.set (M.pControl (p.at (reg.toNat - 2)) b) (reg.toNat - 2) else p
def M.mixedB (x : M.Po) : Int := bits .or .u8 (bits .and .u8 x.inn x.dir) (bits .andNot .u8 x.out x.dir)
def M.pReadP (p : M.Pi2) (reg : Int) : M.Pi2 :=
  if reg = 0 ∨ reg = 1 then (if (p.at reg.toNat).mode = 1 ∨ (p.at reg.toNat).mode = 2 then p.set { p.at reg.toNat with ready := true } reg.toNat else p) else p
def M.pReadV (p : M.Pi2) (reg : Int) : Int :=
  if reg = 0 ∨ reg = 1 then (if (p.at reg.toNat).mode = 0 then (p.at reg.toNat).out else if (p.at reg.toNat).mode = 1 ∨ (p.at reg.toNat).mode = 2 then (p.at reg.toNat).inn else M.mixedB (p.at reg.toNat)) else 255
def M.pStrobe (p : M.Pi2) (k b : Int) : M.Pi2 :=
  if k = 0 ∨ k = 1 then
    (if (p.at k.toNat).mode = 0 then p.set (M.pSignal { p.at k.toNat with ready := false }) k.toNat
     else if (p.at k.toNat).mode = 1 ∨ (p.at k.toNat).mode = 2 then p.set (M.pSignal { p.at k.toNat with inn := b, ready := false }) k.toNat else p) else p
def M.lined (x : M.Po) (b : Int) : M.Po := M.pLook { x with inn := b }
def M.pLines (p : M.Pi2) (k b : Int) : M.Pi2 :=
  if (k = 0 ∨ k = 1) ∧ (p.at k.toNat).mode = 3 then
    p.set (if (M.lined (p.at k.toNat) b).was && !(p.at k.toNat).was then M.pSignal (M.lined (p.at k.toNat) b) else M.lined (p.at k.toNat) b) k.toNat else p
def M.pPend (p : M.Pi2) : Int := if p.p0.pend then 0 else if p.p1.pend then 1 else -1
def M.pAck (p : M.Pi2) : M.Pi2 := if p.p0.pend then { p with p0 := { p.p0 with pend := false } } else if p.p1.pend then { p with p1 := { p.p1 with pend := false } } else p
def M.pAckV (p : M.Pi2) : Int := if p.p0.pend then p.p0.vec else if p.p1.pend then p.p1.vec else 255
def M.po0 : M.Po := ⟨1, 0, 0, 255, 0, 255, 0, 0, false, false, false⟩
def M.pio0 : M.Pi2 := ⟨M.po0, M.po0⟩

/-! ### What is looked for, through words -/
theorem M.bit_max (k : Nat) (hk : k < 8) : M.bit IntKind.u8.max k = true := by
  rcases M.lt8 hk with rfl | rfl | rfl | rfl | rfl | rfl | rfl | rfl <;> decide +kernel
theorem M.bit_not (x : Int) (k : Nat) (hk : k < 8) : M.bit (bits .xor .u8 IntKind.u8.max x) k = !M.bit x k := by
  rw [M.bit_xor _ _ _ hk, M.bit_max k hk]
  cases M.bit x k <;> rfl
theorem M.zero_any {v : Int} (h0 : 0 ≤ v) (h1 : v ≤ 255) : (v == 0) = !((List.range 8).any fun i => M.bit v i) := by
  have hz : ∀ k, M.bit 0 k = false := fun k => by simp [M.bit]
  cases hc : (List.range 8).any fun i => M.bit v i with
  | false =>
    have : v = 0 := M.byte_ext h0 h1 (by omega) (by omega) (fun k hk => by
      rw [hz]
      have := List.any_eq_false.1 hc k (List.mem_range.2 hk)
      simpa using this)
    simp [this]
  | true =>
    obtain ⟨k, hk, hb⟩ := List.any_eq_true.1 hc
    have : v ≠ 0 := fun e => by subst e; rw [hz] at hb; cases hb
    simpa using this
theorem M.eq_all {v l : Int} (h0 : 0 ≤ v) (h1 : v ≤ 255) (h2 : 0 ≤ l) (h3 : l ≤ 255) : (v == l) = (List.range 8).all fun i => M.bit v i == M.bit l i := by
  cases hc : (List.range 8).all fun i => M.bit v i == M.bit l i with
  | true =>
    have : v = l := M.byte_ext h0 h1 h2 h3 (fun k hk => by
      have := List.all_eq_true.1 hc k (List.mem_range.2 hk)
      simpa using this)
    simp [this]
  | false =>
    have : v ≠ l := fun e => by
      subst e
      simp at hc
    simpa using this
theorem M.held_bit (set : Bool) (mask inn : Int) (k : Nat) (hk : k < 8) : M.bit (bits .and .u8 (bif set then inn else bits .xor .u8 IntKind.u8.max inn) (bits .xor .u8 IntKind.u8.max mask)) k = (!M.bit mask k && (M.bit inn k == set)) := by
  rw [M.bit_and _ _ _ hk, M.bit_not _ _ hk]
  cases set
  · simp only [cond_false]
    rw [M.bit_not _ _ hk]
    cases M.bit inn k <;> cases M.bit mask k <;> rfl
  · simp only [cond_true]
    cases M.bit inn k <;> cases M.bit mask k <;> rfl
theorem M.any_same {f g : Nat → Bool} (h : ∀ k, k < 8 → f k = g k) : (List.range 8).any f = (List.range 8).any g := by
  simp [List.range, List.range.loop, h 0 (by omega), h 1 (by omega), h 2 (by omega), h 3 (by omega), h 4 (by omega), h 5 (by omega), h 6 (by omega), h 7 (by omega)]
theorem M.all_same {f g : Nat → Bool} (h : ∀ k, k < 8 → f k = g k) : (List.range 8).all f = (List.range 8).all g := by
  simp [List.range, List.range.loop, h 0 (by omega), h 1 (by omega), h 2 (by omega), h 3 (by omega), h 4 (by omega), h 5 (by omega), h 6 (by omega), h 7 (by omega)]
theorem M.held_any (set : Bool) (mask inn : Int) : (bits .and .u8 (bif set then inn else bits .xor .u8 IntKind.u8.max inn) (bits .xor .u8 IntKind.u8.max mask) == 0) = !M.anyH mask inn set := by
  rw [M.zero_any (M.bits_range _ _ _).1 (M.bits_range _ _ _).2]
  unfold M.anyH
  rw [M.any_same (fun k hk => M.held_bit set mask inn k hk)]
theorem M.held_all (set : Bool) (mask inn : Int) : (bits .and .u8 (bif set then inn else bits .xor .u8 IntKind.u8.max inn) (bits .xor .u8 IntKind.u8.max mask) == bits .xor .u8 IntKind.u8.max mask) = M.allH mask inn set := by
  rw [M.eq_all (M.bits_range _ _ _).1 (M.bits_range _ _ _).2 (M.bits_range _ _ _).1 (M.bits_range _ _ _).2]
  unfold M.allH
  refine M.all_same (fun k hk => ?_)
  rw [M.held_bit set mask inn k hk, M.bit_not _ _ hk]
  cases M.bit inn k <;> cases M.bit mask k <;> cases set <;> rfl
end Go.Proofs.Ytmoafjgogbcoeaa
