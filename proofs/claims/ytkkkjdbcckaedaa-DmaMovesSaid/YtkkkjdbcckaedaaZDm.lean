/- A DMA at work, as mathematics; its small methods by their contracts. -/
import Derived.Test.YtkkkjdbcckaedaaZRg
import Derived.Test.YtkkkjdbcckaedaaRgRef2
import Derived.Test.YtkkkjdbcckaedaaZHeap
import Derived.Test.YtkkkjdbcckaedaaRgBas
import Derived.Test.YtkkkjdbcckaedaaRgSame
namespace Go.Proofs.Ytkkkjdbcckaedaa
open Go.RowKit
set_option linter.unusedVariables false
structure M.Dm where
  p : M.Rg
  a : Int
  b : Int
  left : Int
  held : Bool
  hold : Int
  forced : Bool
  done : Bool
  matched : Bool
  ran : Bool
  pending : Bool
  ask : Int
structure M.Dm.ok (d : M.Dm) : Prop where
  p : d.p.ok
  a : 0 ≤ d.a ∧ d.a ≤ 65535
  b : 0 ≤ d.b ∧ d.b ≤ 65535
  left : -9223372036854775808 ≤ d.left ∧ d.left ≤ 9223372036854775807
  hold : 0 ≤ d.hold ∧ d.hold ≤ 255
  ask : 0 ≤ d.ask ∧ d.ask ≤ 255
/-- Its cells; s is the slice of the bytes that are to come. -/
def M.Dm.v (d : M.Dm) (s : Value) : List Value := d.p.v s ++ [.int .u16 d.a, .int .u16 d.b, .int .i64 d.left, .bool d.held, .int .u8 d.hold, .bool d.forced, .bool d.done, .bool d.matched, .bool d.ran, .bool d.pending, .int .u8 d.ask]
def M.Dm.c (d : M.Dm) (s : Value) : Array Value := (d.v s).toArray
def M.dmZero : M.Dm := ⟨M.rZero, 0, 0, 0, false, 0, false, false, false, false, false, 0⟩
def M.dmNew : M.Dm := ⟨M.rReset, 0, 0, 0, false, 0, false, false, false, false, false, 0⟩
def M.dLen (d : M.Dm) : Int := if d.p.len = 0 then 65536 else d.p.len
def M.dBlock (d : M.Dm) : M.Dm := { d with a := d.p.a, b := d.p.b, left := M.dLen d, held := false }
def M.dCmd (d : M.Dm) (c : Int) : M.Dm :=
  if c = 195 then M.dmNew
  else if c = 207 then { M.dBlock d with done := false, forced := false }
  else if c = 211 then { d with left := M.dLen d, done := false }
  else if c = 179 then { d with forced := true }
  else if c = 131 then { d with forced := false }
  else if c = 139 then { d with matched := false, done := false, pending := false }
  else if c = 163 then { d with pending := false, forced := false }
  else if c = 167 then { d with ask := d.p.rmask }
  else if c = 191 then { d with ask := 1 }
  else d
def M.dWrite (d : M.Dm) (b : Int) : M.Dm := M.dCmd { d with p := M.rWrite d.p b } (M.rWriteC d.p b)
def M.dStatus (d : M.Dm) : Int := M.withB (M.withB (M.withB (M.withB 0 0 d.ran) 3 d.pending) 4 d.matched) 5 d.done
def M.dReadP (d : M.Dm) : M.Dm := { d with ask := M.withB d.ask (M.firstB d.ask) false }
def M.dReadV (d : M.Dm) : Int :=
  if M.firstB d.ask = 1 then d.left % 65536 % 256
  else if M.firstB d.ask = 2 then d.left % 65536 / 256
  else if M.firstB d.ask = 3 then d.a % 256
  else if M.firstB d.ask = 4 then d.a / 256
  else if M.firstB d.ask = 5 then d.b % 256
  else if M.firstB d.ask = 6 then d.b / 256
  else M.dStatus d
def M.dOpen (d : M.Dm) : Bool := d.p.on && (!d.done && decide (0 < d.left))
def M.dWants (d : M.Dm) (ready : Bool) : Bool := M.dOpen d && (d.forced || ready == d.p.high)
def M.dHolds (d : M.Dm) (ready : Bool) : Bool := d.held || (if d.p.mode = 1 then M.dOpen d else if d.p.mode = 2 then M.dWants d ready else false)
/-- Is it side A's turn? -/
def M.dIsA (d : M.Dm) : Bool := d.p.atob != d.held
def M.dNextA (d : M.Dm) : Int := if M.dIsA d then d.a else d.b
def M.dNextIo (d : M.Dm) : Bool := if M.dIsA d then d.p.aio else d.p.bio
def M.dNextT0 (d : M.Dm) : Int := if M.dIsA d then d.p.atime else d.p.btime
def M.dNextT (d : M.Dm) : Int := if M.dNextT0 d = 0 then (if M.dNextIo d then 4 else 3) else M.dNextT0 d
def M.dNextD (d : M.Dm) : Int := if d.held then d.hold else 0
def M.dMove (d : M.Dm) (isA : Bool) : M.Dm := if isA then { d with a := (d.a + d.p.astep) % 65536 } else { d with b := (d.b + d.p.bstep) % 65536 }
def M.dSignal (d : M.Dm) (n : Int) : M.Dm := { d with pending := d.pending || (d.p.ints && M.is d.p.ctl n) }
def M.dFinish (d : M.Dm) : M.Dm :=
  if 1 < d.left then { d with left := d.left - 1 }
  else if d.p.auto && !d.done then M.dBlock (M.dSignal { d with left := d.left - 1 } 1)
  else { M.dSignal { d with left := d.left - 1 } 1 with done := true }
/-- Do two bytes differ in no bit that a mask hasn't? -/
def M.alike (a b mask : Int) : Bool := (List.range 8).all fun k : Nat => (M.bit a k == M.bit b k) || M.bit mask k
def M.dFound (d : M.Dm) (b : Int) : M.Dm :=
  if d.p.cls ≠ 1 ∧ M.alike b d.p.mat d.p.mask = true then M.dSignal { d with matched := true, done := d.done || d.p.stop } 0 else d
def M.dTake (d : M.Dm) (b : Int) : M.Dm :=
  if d.held then M.dFinish { M.dMove d (!d.p.atob) with held := false }
  else if d.p.cls = 2 then M.dFinish (M.dFound (M.dMove { d with hold := b, ran := true } d.p.atob) b)
  else { M.dFound (M.dMove { d with hold := b, ran := true } d.p.atob) b with held := true }
theorem M.dmNew_ok : M.dmNew.ok := ⟨M.rReset_ok, by decide, by decide, by decide, by decide, by decide⟩
theorem M.dLen_range {d : M.Dm} (h : d.ok) : 1 ≤ M.dLen d ∧ M.dLen d ≤ 65536 := by
  have := h.p.len
  unfold M.dLen
  split <;> omega
theorem M.dBlock_ok {d : M.Dm} (h : d.ok) : (M.dBlock d).ok := by
  have := M.dLen_range h
  exact ⟨h.p, h.p.a, h.p.b, ⟨by show _ ≤ M.dLen d; omega, by show M.dLen d ≤ _; omega⟩, h.hold, h.ask⟩
theorem M.dite_ok {c : Prop} [Decidable c] {x y : M.Dm} (h : c → x.ok) (g : ¬ c → y.ok) : (if c then x else y).ok := by
  by_cases k : c
  · rw [if_pos k]; exact h k
  · rw [if_neg k]; exact g k
theorem M.dCmd_ok {d : M.Dm} (h : d.ok) (c : Int) : (M.dCmd d c).ok := by
  have hl := M.dLen_range h
  have hb := M.dBlock_ok h
  unfold M.dCmd
  repeat' refine M.dite_ok (fun _ => ?_) (fun _ => ?_)
  · exact M.dmNew_ok
  · exact ⟨hb.p, hb.a, hb.b, hb.left, hb.hold, hb.ask⟩
  · exact ⟨h.p, h.a, h.b, ⟨by show _ ≤ M.dLen d; omega, by show M.dLen d ≤ _; omega⟩, h.hold, h.ask⟩
  · exact ⟨h.p, h.a, h.b, h.left, h.hold, h.ask⟩
  · exact ⟨h.p, h.a, h.b, h.left, h.hold, h.ask⟩
  · exact ⟨h.p, h.a, h.b, h.left, h.hold, h.ask⟩
  · exact ⟨h.p, h.a, h.b, h.left, h.hold, h.ask⟩
  · exact ⟨h.p, h.a, h.b, h.left, h.hold, h.p.rmask⟩
  · exact ⟨h.p, h.a, h.b, h.left, h.hold, by show 0 ≤ (1 : Int) ∧ (1 : Int) ≤ 255; decide⟩
  · exact h
theorem M.dWrite_ok {d : M.Dm} (h : d.ok) {b : Int} (h0 : 0 ≤ b) (h1 : b ≤ 255) : (M.dWrite d b).ok :=
  M.dCmd_ok (d := { d with p := M.rWrite d.p b }) ⟨M.rWrite_ok h.p h0 h1, h.a, h.b, h.left, h.hold, h.ask⟩ _
theorem M.dMove_ok {d : M.Dm} (h : d.ok) (i : Bool) : (M.dMove d i).ok := by
  unfold M.dMove
  cases i
  · exact ⟨h.p, h.a, ⟨by show 0 ≤ (d.b + d.p.bstep) % 65536; omega, by show (d.b + d.p.bstep) % 65536 ≤ 65535; omega⟩, h.left, h.hold, h.ask⟩
  · exact ⟨h.p, ⟨by show 0 ≤ (d.a + d.p.astep) % 65536; omega, by show (d.a + d.p.astep) % 65536 ≤ 65535; omega⟩, h.b, h.left, h.hold, h.ask⟩
theorem M.dFound_ok {d : M.Dm} (h : d.ok) (b : Int) : (M.dFound d b).ok := by
  unfold M.dFound
  split
  · exact ⟨h.p, h.a, h.b, h.left, h.hold, h.ask⟩
  · exact h
theorem M.dFinish_ok {d : M.Dm} (h : d.ok) (hl : -9223372036854775807 ≤ d.left) : (M.dFinish d).ok := by
  have := h.left
  have h2 : (-9223372036854775808 : Int) ≤ d.left - 1 ∧ d.left - 1 ≤ 9223372036854775807 := by omega
  unfold M.dFinish
  refine M.dite_ok (fun _ => ?_) (fun _ => M.dite_ok (fun _ => ?_) (fun _ => ?_))
  · exact ⟨h.p, h.a, h.b, h2, h.hold, h.ask⟩
  · exact M.dBlock_ok (d := M.dSignal { d with left := d.left - 1 } 1) ⟨h.p, h.a, h.b, h2, h.hold, h.ask⟩
  · exact ⟨h.p, h.a, h.b, h2, h.hold, h.ask⟩
end Go.Proofs.Ytkkkjdbcckaedaa
namespace Go.Proofs.Ytkkkjdbcckaedaa
open Go.RowKit
set_option linter.unusedVariables false
set_option maxRecDepth 100000
theorem dmZ (w : World) : (zeroValue 29).run Try.prog w = .ok (.agg (M.dmZero.c nilS)) w := Try.zeroValue29 w
theorem rdmZ (w : World) : (zeroValue 42).run Try.prog w = .ok (.agg (M.dmZero.c nilS)) w := Try.zeroValue42 w
theorem dmI : (Try.prog.info? 29).map (·.size) = some 35 := by kernel_rfl
theorem rdmI : (Try.prog.info? 42).map (·.size) = some 35 := by kernel_rfl
theorem dm_one (d : M.Dm) (A : Option Addr) (m c : Nat) : (d.c (.slice A m c)).all (·.oneCell') = true := by simp [M.Dm.c, M.Dm.v, M.Rg.v, Value.oneCell']
theorem dm_ss : (∀ (x : M.Dm) (s : Value) (v : Int), (x.c s).setIfInBounds 24 (.int .u16 v) = ({ x with a := v } : M.Dm).c s) ∧ (∀ (x : M.Dm) (s : Value) (v : Int), (x.c s).setIfInBounds 25 (.int .u16 v) = ({ x with b := v } : M.Dm).c s) ∧ (∀ (x : M.Dm) (s : Value) (v : Int), (x.c s).setIfInBounds 26 (.int .i64 v) = ({ x with left := v } : M.Dm).c s) ∧ (∀ (x : M.Dm) (s : Value) (v : Bool), (x.c s).setIfInBounds 27 (.bool v) = ({ x with held := v } : M.Dm).c s) ∧ (∀ (x : M.Dm) (s : Value) (v : Int), (x.c s).setIfInBounds 28 (.int .u8 v) = ({ x with hold := v } : M.Dm).c s) ∧ (∀ (x : M.Dm) (s : Value) (v : Bool), (x.c s).setIfInBounds 29 (.bool v) = ({ x with forced := v } : M.Dm).c s) ∧ (∀ (x : M.Dm) (s : Value) (v : Bool), (x.c s).setIfInBounds 30 (.bool v) = ({ x with done := v } : M.Dm).c s) ∧ (∀ (x : M.Dm) (s : Value) (v : Bool), (x.c s).setIfInBounds 31 (.bool v) = ({ x with matched := v } : M.Dm).c s) ∧ (∀ (x : M.Dm) (s : Value) (v : Bool), (x.c s).setIfInBounds 32 (.bool v) = ({ x with ran := v } : M.Dm).c s) ∧ (∀ (x : M.Dm) (s : Value) (v : Bool), (x.c s).setIfInBounds 33 (.bool v) = ({ x with pending := v } : M.Dm).c s) ∧ (∀ (x : M.Dm) (s : Value) (v : Int), (x.c s).setIfInBounds 34 (.int .u8 v) = ({ x with ask := v } : M.Dm).c s) :=
  ⟨fun _ _ _ => rfl, fun _ _ _ => rfl, fun _ _ _ => rfl, fun _ _ _ => rfl, fun _ _ _ => rfl, fun _ _ _ => rfl, fun _ _ _ => rfl, fun _ _ _ => rfl, fun _ _ _ => rfl, fun _ _ _ => rfl, fun _ _ _ => rfl⟩
/-- The part that was told. -/
theorem dm_sub (d : M.Dm) (s : Value) : ((d.c s).toList.drop 0).take 24 = (d.p.c s).toList := rfl
theorem dm_put (d : M.Dm) (s s' : Value) (p' : M.Rg) : ({ d with p := p' } : M.Dm).v s' = (p'.c s').toList ++ ((d.c s).toList.drop 24) := rfl
end Go.Proofs.Ytkkkjdbcckaedaa
namespace Go.Proofs.Ytkkkjdbcckaedaa
open Go.RowKit
set_option linter.unusedVariables false
set_option linter.unusedSimpArgs false
set_option maxRecDepth 100000
/-- What a method of Dma is handed. -/
structure DmAt (B : Nat) (d : M.Dm) (s : Value) (w : World) : Prop where
  rng : w.rangeAt B 0 (d.c s).toList
  free : Free w B 0 35
  lt : B < w.heap.size
theorem DmAt.st {B : Nat} {d : M.Dm} {s : Value} {w : World} (h : DmAt B d s w) : St B 0 35 w [⟨B, 0, true, d.c s⟩] w := St.handed (c := d.c s) h.rng h.free h.lt
theorem St.dmAt {B o n b : Nat} {w W : World} {es : List Ent} {d : M.Dm} {s : Value} (h : St B o n w es W) (hm : (⟨b, 0, true, d.c s⟩ : Ent) ∈ es) : DmAt b d s W := ⟨h.range hm, (h.good _ hm).free rfl, (h.good _ hm).lt⟩
/-- What such a method leaves. -/
def DmOut (B : Nat) (d' : M.Dm) (s : Value) (v : Value) (w : World) (e : Ending) (w' : World) : Prop := e = .returned v ∧ w'.rangeAt B 0 (d'.c s).toList ∧ Touch B 0 35 w w'
theorem M.dLen_is (n : Int) (h0 : 0 ≤ n) (h1 : n ≤ 65535) : (n + 65535) % 65536 + 1 = if n = 0 then 65536 else n := by split <;> omega
theorem dlength_any (B : Nat) (d : M.Dm) (hd : d.ok) (s : Value) (w : World) (h : DmAt B d s w) : Calls Try.prog 71 #[.pointer (some ⟨B, 0, none⟩)] w fun e w' => e = .returned (.int .i64 (M.dLen d)) ∧ w = w' := by
  have hS := h.st
  have hl := hd.p.len
  have e := Lib.hid (M.dLen_is d.p.len hl.1 hl.2)
  clear h
  go_enter Try.func71, Try.ntmps71
  go_wp2_with (first
  | ((with_reducible first | refine to_load 24 rfl ?_); refine Wl_load1 hS (fun _ => by rfl) _ _ rfl (scT _ rfl) ?_; (repeat (first | refine Look.here (of_decide_eq_true rfl) rfl ?_)); (with_reducible show wpList _ _ _ _ _ _); simp only [nA])
  )
  go_returns
  exact ⟨ret_int e.out, rfl⟩
set_option maxHeartbeats 4000000 in
theorem dforce_any (B : Nat) (d : M.Dm) (hd : d.ok) (s : Value) (w : World) (h : DmAt B d s w) : Calls Try.prog 49 #[.pointer (some ⟨B, 0, none⟩)] w (DmOut B ({ d with forced := true }) s (.tuple #[]) w) := by
  have hS := h.st
  clear h
  go_enter Try.func49, Try.ntmps49
  go_wp2_with (first
  | ((with_reducible first | refine to_store 4 rfl ?_ ); (first | refine Wl_store1 hS (fun _ => by rfl) _ _ (.bool _) rfl rfl (scT _ rfl) rfl rfl ?_); (repeat (first | refine Turn1.here (of_decide_eq_true rfl) (of_decide_eq_true rfl) ?_)); clear hS; intro wW hS; (try simp only [nA]); try simp only [Nat.sub_zero, Nat.add_zero, Nat.zero_add, Nat.reduceSub, Nat.add_sub_cancel_left, dm_ss] at hS))
  skip
  go_returns
  exact ⟨rfl, hS.range (.head _), hS.touch⟩
set_option maxHeartbeats 4000000 in
theorem drelease_any (B : Nat) (d : M.Dm) (hd : d.ok) (s : Value) (w : World) (h : DmAt B d s w) : Calls Try.prog 50 #[.pointer (some ⟨B, 0, none⟩)] w (DmOut B ({ d with forced := false }) s (.tuple #[]) w) := by
  have hS := h.st
  clear h
  go_enter Try.func50, Try.ntmps50
  go_wp2_with (first
  | ((with_reducible first | refine to_store 4 rfl ?_ ); (first | refine Wl_store1 hS (fun _ => by rfl) _ _ (.bool _) rfl rfl (scT _ rfl) rfl rfl ?_); (repeat (first | refine Turn1.here (of_decide_eq_true rfl) (of_decide_eq_true rfl) ?_)); clear hS; intro wW hS; (try simp only [nA]); try simp only [Nat.sub_zero, Nat.add_zero, Nat.zero_add, Nat.reduceSub, Nat.add_sub_cancel_left, dm_ss] at hS))
  skip
  go_returns
  exact ⟨rfl, hS.range (.head _), hS.touch⟩
set_option maxHeartbeats 4000000 in
theorem dforget_any (B : Nat) (d : M.Dm) (hd : d.ok) (s : Value) (w : World) (h : DmAt B d s w) : Calls Try.prog 51 #[.pointer (some ⟨B, 0, none⟩)] w (DmOut B ({ d with matched := false, done := false, pending := false }) s (.tuple #[]) w) := by
  have hS := h.st
  clear h
  go_enter Try.func51, Try.ntmps51
  go_wp2_with (first
  | ((with_reducible first | refine to_store 4 rfl ?_ ); (first | refine Wl_store1 hS (fun _ => by rfl) _ _ (.bool _) rfl rfl (scT _ rfl) rfl rfl ?_); (repeat (first | refine Turn1.here (of_decide_eq_true rfl) (of_decide_eq_true rfl) ?_)); clear hS; intro wW hS; (try simp only [nA]); try simp only [Nat.sub_zero, Nat.add_zero, Nat.zero_add, Nat.reduceSub, Nat.add_sub_cancel_left, dm_ss] at hS))
  skip
  go_returns
  exact ⟨rfl, hS.range (.head _), hS.touch⟩
set_option maxHeartbeats 4000000 in
theorem dclear_any (B : Nat) (d : M.Dm) (hd : d.ok) (s : Value) (w : World) (h : DmAt B d s w) : Calls Try.prog 52 #[.pointer (some ⟨B, 0, none⟩)] w (DmOut B ({ d with pending := false, forced := false }) s (.tuple #[]) w) := by
  have hS := h.st
  clear h
  go_enter Try.func52, Try.ntmps52
  go_wp2_with (first
  | ((with_reducible first | refine to_store 4 rfl ?_ ); (first | refine Wl_store1 hS (fun _ => by rfl) _ _ (.bool _) rfl rfl (scT _ rfl) rfl rfl ?_); (repeat (first | refine Turn1.here (of_decide_eq_true rfl) (of_decide_eq_true rfl) ?_)); clear hS; intro wW hS; (try simp only [nA]); try simp only [Nat.sub_zero, Nat.add_zero, Nat.zero_add, Nat.reduceSub, Nat.add_sub_cancel_left, dm_ss] at hS))
  skip
  go_returns
  exact ⟨rfl, hS.range (.head _), hS.touch⟩
set_option maxHeartbeats 4000000 in
theorem daskAll_any (B : Nat) (d : M.Dm) (hd : d.ok) (s : Value) (w : World) (h : DmAt B d s w) : Calls Try.prog 53 #[.pointer (some ⟨B, 0, none⟩)] w (DmOut B ({ d with ask := d.p.rmask }) s (.tuple #[]) w) := by
  have hS := h.st
  clear h
  go_enter Try.func53, Try.ntmps53
  go_wp2_with (first
  | ((with_reducible first | refine to_load 5 rfl ?_ ); refine Wl_load1 hS (fun _ => by rfl) _ _ rfl (scT _ rfl) ?_; (repeat (first | refine Look.here (of_decide_eq_true rfl) rfl ?_)); (with_reducible show wpList _ _ _ _ _ _); simp only [nA])
  | ((with_reducible first | refine to_store 5 rfl ?_); (first | refine Wl_store1 hS (fun _ => by rfl) _ _ (.int _ _) rfl rfl (scT _ rfl) rfl rfl ?_); (repeat (first | refine Turn1.here (of_decide_eq_true rfl) (of_decide_eq_true rfl) ?_)); clear hS; intro wW hS; (try simp only [nA]); try simp only [Nat.sub_zero, Nat.add_zero, Nat.zero_add, Nat.reduceSub, Nat.add_sub_cancel_left, dm_ss] at hS))
  skip
  go_returns
  exact ⟨rfl, hS.range (.head _), hS.touch⟩
set_option maxHeartbeats 4000000 in
theorem daskOne_any (B : Nat) (d : M.Dm) (hd : d.ok) (s : Value) (w : World) (h : DmAt B d s w) : Calls Try.prog 54 #[.pointer (some ⟨B, 0, none⟩)] w (DmOut B ({ d with ask := 1 }) s (.tuple #[]) w) := by
  have hS := h.st
  clear h
  go_enter Try.func54, Try.ntmps54
  go_wp2_with (first
  | ((with_reducible first | refine to_store 5 rfl ?_); (first | refine Wl_store1 hS (fun _ => by rfl) _ _ (.int _ _) rfl rfl (scT _ rfl) rfl rfl ?_); (repeat (first | refine Turn1.here (of_decide_eq_true rfl) (of_decide_eq_true rfl) ?_)); clear hS; intro wW hS; (try simp only [nA]); try simp only [Nat.sub_zero, Nat.add_zero, Nat.zero_add, Nat.reduceSub, Nat.add_sub_cancel_left, dm_ss] at hS))
  skip
  go_returns
  exact ⟨rfl, hS.range (.head _), hS.touch⟩
set_option maxHeartbeats 4000000 in
theorem dgoOn_any (B : Nat) (d : M.Dm) (hd : d.ok) (s : Value) (w : World) (h : DmAt B d s w) : Calls Try.prog 48 #[.pointer (some ⟨B, 0, none⟩)] w (DmOut B { d with left := M.dLen d, done := false } s (.tuple #[]) w) := by
  have hS := h.st
  clear h
  go_enter Try.func48, Try.ntmps48
  go_wp2_with (first
  | ((with_reducible first | refine to_load 3 rfl ?_ ); refine Wl_load1 hS (fun _ => by rfl) _ _ rfl (scT _ rfl) ?_; (repeat (first | refine Look.here (of_decide_eq_true rfl) rfl ?_)); (with_reducible show wpList _ _ _ _ _ _); simp only [nA])
  )
  refine (dlength_any B _ hd s _ (hS.dmAt (.head _))).mono ?_
  rintro e w1 ⟨rfl, rfl⟩
  go_wp2_with (first
  | ((with_reducible first | refine to_store 3 rfl ?_ | refine to_store 4 rfl ?_ ); (first | refine Wl_store1 hS (fun _ => by rfl) _ _ (.int _ _) rfl rfl (scT _ rfl) rfl rfl ?_ | refine Wl_store1 hS (fun _ => by rfl) _ _ (.bool _) rfl rfl (scT _ rfl) rfl rfl ?_); (repeat (first | refine Turn1.here (of_decide_eq_true rfl) (of_decide_eq_true rfl) ?_)); clear hS; intro wW hS; (try simp only [nA]); try simp only [Nat.sub_zero, Nat.add_zero, Nat.zero_add, Nat.reduceSub, Nat.add_sub_cancel_left, dm_ss] at hS))
  go_returns
  exact ⟨rfl, hS.range (.head _), hS.touch⟩
set_option maxHeartbeats 4000000 in
theorem dblock_any (B : Nat) (d : M.Dm) (hd : d.ok) (s : Value) (w : World) (h : DmAt B d s w) : Calls Try.prog 65 #[.pointer (some ⟨B, 0, none⟩)] w (DmOut B (M.dBlock d) s (.tuple #[]) w) := by
  have hS := h.st
  clear h
  go_enter Try.func65, Try.ntmps65
  refine wpG_start (g := 18) (S1 := fun W => St B 0 35 w [⟨B, 0, true, d.c s⟩] W) (S2 := fun W => St B 0 35 w [] W) (by kernel_rfl) (hS.drew.sub (by repeat (first | exact List.Sublist.slnil | apply List.Sublist.cons_cons))) ?_
  intro _
  replace hS := hS.drew
  generalize World.drew _ = wX at hS ⊢
  refine wpG_take (i := 0) (v := ?_) (fun W h => (h.sub (by repeat (first | exact List.Sublist.slnil | apply List.Sublist.cons)))) rfl (by kernel_rfl) (by kernel_rfl) (by kernel_rfl) (fun _ _ _ h => h) (by decide) (Or.inl ⟨by rfl, ?_⟩) (hS.sub (by repeat (first | exact List.Sublist.slnil | apply List.Sublist.cons_cons))) ?_
  rotate_left 1
  · intro W hW
    clear hW
    go_simp
    all_goals with_reducible rfl
  try simp only [nR]
  refine wpG_take (i := 1) (v := ?_) (fun W h => (h.sub (by repeat (first | exact List.Sublist.slnil | apply List.Sublist.cons)))) rfl (by kernel_rfl) (by kernel_rfl) (by kernel_rfl) (fun _ _ _ h => h) (by decide) (Or.inl ⟨by rfl, ?_⟩) (hS.sub (by repeat (first | exact List.Sublist.slnil | apply List.Sublist.cons_cons))) ?_
  rotate_left 1
  · intro W hW
    clear hW
    go_simp
    all_goals with_reducible rfl
  try simp only [nR]
  refine wpG_take (i := 2) (v := ?_) (fun W h => (h.sub (by repeat (first | exact List.Sublist.slnil | apply List.Sublist.cons)))) rfl (by kernel_rfl) (by kernel_rfl) (by kernel_rfl) (fun _ _ _ h => h) (by decide) (Or.inl ⟨by rfl, ?_⟩) (hS.sub (by repeat (first | exact List.Sublist.slnil | apply List.Sublist.cons_cons))) ?_
  rotate_left 1
  · intro W hW
    clear hW
    go_simp
    all_goals with_reducible rfl
  try simp only [nR]
  refine wpG_take (i := 3) (v := ?_) (fun W h => (h.sub (by repeat (first | exact List.Sublist.slnil | apply List.Sublist.cons)))) rfl (by kernel_rfl) (by kernel_rfl) (by kernel_rfl) (fun _ _ _ h => h) (by decide) (Or.inl ⟨by rfl, ?_⟩) (hS.sub (by repeat (first | exact List.Sublist.slnil | apply List.Sublist.cons_cons))) ?_
  rotate_left 1
  · intro W hW
    clear hW
    go_simp
    all_goals with_reducible rfl
  try simp only [nR]
  refine wpG_take (i := 4) (v := ?_) (fun W h => (h.sub (by repeat (first | exact List.Sublist.slnil | apply List.Sublist.cons)))) rfl (by kernel_rfl) (by kernel_rfl) (by kernel_rfl) (fun _ _ _ h => h) (by decide) (Or.inl ⟨by rfl, ?_⟩) (hS.sub (by repeat (first | exact List.Sublist.slnil | apply List.Sublist.cons_cons))) ?_
  rotate_left 1
  · intro W hW
    clear hW
    go_simp
    all_goals with_reducible rfl
  try simp only [nR]
  refine wpG_take (i := 5) (v := ?_) (fun W h => (h.sub (by repeat (first | exact List.Sublist.slnil | apply List.Sublist.cons)))) rfl (by kernel_rfl) (by kernel_rfl) (by kernel_rfl) (fun _ _ _ h => h) (by decide) (Or.inl ⟨by rfl, ?_⟩) (hS.sub (by repeat (first | exact List.Sublist.slnil | apply List.Sublist.cons_cons))) ?_
  rotate_left 1
  · intro W hW
    clear hW
    go_simp
    all_goals with_reducible rfl
  try simp only [nR]
  refine wpG_take (i := 6) (v := ?_) (fun W h => (h.sub (by repeat (first | exact List.Sublist.slnil | apply List.Sublist.cons)))) rfl (by kernel_rfl) (by kernel_rfl) (by kernel_rfl) (fun _ _ _ h => h) (by decide) (Or.inl ⟨by rfl, ?_⟩) (hS.sub (by repeat (first | exact List.Sublist.slnil | apply List.Sublist.cons_cons))) ?_
  rotate_left 1
  · intro W hW
    clear hW
    go_simp
    all_goals with_reducible rfl
  try simp only [nR]
  refine wpG_take (i := 7) (v := ?_) (fun W h => (h.sub (by repeat (first | exact List.Sublist.slnil | apply List.Sublist.cons)))) rfl (by kernel_rfl) (by kernel_rfl) (by kernel_rfl) (fun _ _ _ h => h) (by decide) (Or.inl ⟨by rfl, ?_⟩) (hS.sub (by repeat (first | exact List.Sublist.slnil | apply List.Sublist.cons_cons))) ?_
  rotate_left 1
  · intro W hW
    clear hW
    go_simp
    all_goals with_reducible rfl
  try simp only [nR]
  first
    | refine wpG_load (i := 8) rfl (by kernel_rfl) (by kernel_rfl) (by kernel_rfl) (fun _ _ _ h => h) (by decide) (by kernel_rfl) (yields_one (by rfl) _ _ rfl _ _ rfl scW _ (fun W hW => hW.cell0 (.head _) rfl)) (hS.sub (by repeat (first | exact List.Sublist.slnil | apply List.Sublist.cons_cons))) ?_
  try simp only [nR]
  refine wpG_take (i := 9) (v := ?_) (fun W h => (h.sub (by repeat (first | exact List.Sublist.slnil | apply List.Sublist.cons)))) rfl (by kernel_rfl) (by kernel_rfl) (by kernel_rfl) (fun _ _ _ h => h) (by decide) (Or.inl ⟨by rfl, ?_⟩) (hS.sub (by repeat (first | exact List.Sublist.slnil | apply List.Sublist.cons_cons))) ?_
  rotate_left 1
  · intro W hW
    clear hW
    go_simp
    all_goals with_reducible rfl
  try simp only [nR]
  refine wpG_take (i := 10) (v := ?_) (fun W h => (h.sub (by repeat (first | exact List.Sublist.slnil | apply List.Sublist.cons)))) rfl (by kernel_rfl) (by kernel_rfl) (by kernel_rfl) (fun _ _ _ h => h) (by decide) (Or.inl ⟨by rfl, ?_⟩) (hS.sub (by repeat (first | exact List.Sublist.slnil | apply List.Sublist.cons_cons))) ?_
  rotate_left 1
  · intro W hW
    clear hW
    go_simp
    all_goals with_reducible rfl
  try simp only [nR]
  refine wpG_take (i := 11) (v := ?_) (fun W h => (h.sub (by repeat (first | exact List.Sublist.slnil | apply List.Sublist.cons)))) rfl (by kernel_rfl) (by kernel_rfl) (by kernel_rfl) (fun _ _ _ h => h) (by decide) (Or.inl ⟨by rfl, ?_⟩) (hS.sub (by repeat (first | exact List.Sublist.slnil | apply List.Sublist.cons_cons))) ?_
  rotate_left 1
  · intro W hW
    clear hW
    go_simp
    all_goals with_reducible rfl
  try simp only [nR]
  refine wpG_take (i := 12) (v := ?_) (fun W h => (h.sub (by repeat (first | exact List.Sublist.slnil | apply List.Sublist.cons)))) rfl (by kernel_rfl) (by kernel_rfl) (by kernel_rfl) (fun _ _ _ h => h) (by decide) (Or.inl ⟨by rfl, ?_⟩) (hS.sub (by repeat (first | exact List.Sublist.slnil | apply List.Sublist.cons_cons))) ?_
  rotate_left 1
  · intro W hW
    clear hW
    go_simp
    all_goals with_reducible rfl
  try simp only [nR]
  first
    | refine wpG_load (i := 13) rfl (by kernel_rfl) (by kernel_rfl) (by kernel_rfl) (fun _ _ _ h => h) (by decide) (by kernel_rfl) (yields_one (by rfl) _ _ rfl _ _ rfl scW _ (fun W hW => hW.cell0 (.head _) rfl)) (hS.sub (by repeat (first | exact List.Sublist.slnil | apply List.Sublist.cons_cons))) ?_
  try simp only [nR]
  refine wpG_take (i := 14) (v := ?_) (fun W h => (h.sub (by repeat (first | exact List.Sublist.slnil | apply List.Sublist.cons)))) rfl (by kernel_rfl) (by kernel_rfl) (by kernel_rfl) (fun _ _ _ h => h) (by decide) (Or.inl ⟨by rfl, ?_⟩) (hS.sub (by repeat (first | exact List.Sublist.slnil | apply List.Sublist.cons_cons))) ?_
  rotate_left 1
  · intro W hW
    clear hW
    go_simp
    all_goals with_reducible rfl
  try simp only [nR]
  refine wpG_one (i := 15) (by kernel_rfl) (by decide) rfl ?_
  intro K1 hK1
  rw [if_pos (by rfl)]
  try simp only [nR]
  go_simp
  refine (dlength_any B _ hd s _ (hS.dmAt (.head _))).mono ?_
  rintro e1 v2 ⟨rfl, rfl⟩
  refine hK1.out _ _ (hS.sub (by repeat (first | exact List.Sublist.slnil | apply List.Sublist.cons_cons))) (fun _ => ?_)
  clear hK1
  try simp only [nR]
  refine wpG_take (i := 16) (v := ?_) (fun W h => (h.sub (by repeat (first | exact List.Sublist.slnil | apply List.Sublist.cons)))) rfl (by kernel_rfl) (by kernel_rfl) (by kernel_rfl) (fun _ _ _ h => h) (by decide) (Or.inl ⟨by rfl, ?_⟩) (hS.sub (by repeat (first | exact List.Sublist.slnil | apply List.Sublist.cons_cons))) ?_
  rotate_left 1
  · intro W hW
    clear hW
    go_simp
    all_goals with_reducible rfl
  try simp only [nR]
  refine wpG_take (i := 17) (v := ?_) (fun W h => (h.sub (by repeat (first | exact List.Sublist.slnil | apply List.Sublist.cons)))) rfl (by kernel_rfl) (by kernel_rfl) (by kernel_rfl) (fun _ _ _ h => h) (by decide) (Or.inl ⟨by rfl, ?_⟩) (hS.sub (by repeat (first | exact List.Sublist.slnil | apply List.Sublist.cons_cons))) ?_
  rotate_left 1
  · intro W hW
    clear hW
    go_simp
    all_goals with_reducible rfl
  try simp only [nR]
  refine wpG_gate (i := 18) (by kernel_rfl) rfl ?_
  intro K1 hK1
  rw [if_pos (by rfl)]
  try simp only [nR]
  refine wp_store1_sc hS _ _ _ rfl _ _ (.int _ _) rfl rfl scW rfl rfl ?_
  repeat (first | refine Turn1.here (of_decide_eq_true rfl) (of_decide_eq_true rfl) ?_)
  clear hS
  intro wW hS
  try simp only [Nat.sub_zero, Nat.add_zero, Nat.zero_add, Nat.reduceSub, Nat.add_sub_cancel_left, dm_ss] at hS
  refine hK1.out _ _ (hS.sub (by repeat (first | exact List.Sublist.slnil | apply List.Sublist.cons))) (fun _ => ?_)
  clear hK1
  try simp only [nR]
  refine wpAnyH_take (i := 19) (v := ?_) rfl (by kernel_rfl) (by kernel_rfl) (by kernel_rfl) (fun _ _ _ h => h) (Or.inl ⟨by rfl, ?_⟩) (hS.sub (by repeat (first | exact List.Sublist.slnil | apply List.Sublist.cons))) ?_
  rotate_left 1
  · intro W hW
    clear hW
    go_simp
    all_goals with_reducible rfl
  try simp only [nR]
  refine wpAnyH_take (i := 20) (v := ?_) rfl (by kernel_rfl) (by kernel_rfl) (by kernel_rfl) (fun _ _ _ h => h) (Or.inl ⟨by rfl, ?_⟩) (hS.sub (by repeat (first | exact List.Sublist.slnil | apply List.Sublist.cons))) ?_
  rotate_left 1
  · intro W hW
    clear hW
    go_simp
    all_goals with_reducible rfl
  try simp only [nR]
  refine wpAnyH_ready (rs := [21]) (by kernel_rfl) (by simp) (AllReadyH.cons rfl ?_ AllReadyH.nil)
  intro K1 hK1
  rw [if_pos (by rfl)]
  try simp only [nR]
  refine wp_store1_sc hS _ _ _ rfl _ _ (.int _ _) rfl rfl scW rfl rfl ?_
  repeat (first | refine Turn1.here (of_decide_eq_true rfl) (of_decide_eq_true rfl) ?_)
  clear hS
  intro wW hS
  try simp only [Nat.sub_zero, Nat.add_zero, Nat.zero_add, Nat.reduceSub, Nat.add_sub_cancel_left, dm_ss] at hS
  refine hK1.out _ _ (hS.sub (by repeat (first | exact List.Sublist.slnil | apply List.Sublist.cons))) (fun _ => ?_)
  clear hK1
  try simp only [nR]
  refine wpAnyH_take (i := 22) (v := ?_) rfl (by kernel_rfl) (by kernel_rfl) (by kernel_rfl) (fun _ _ _ h => h) (Or.inl ⟨by rfl, ?_⟩) (hS.sub (by repeat (first | exact List.Sublist.slnil | apply List.Sublist.cons))) ?_
  rotate_left 1
  · intro W hW
    clear hW
    go_simp
    all_goals with_reducible rfl
  try simp only [nR]
  refine wpAnyH_take (i := 23) (v := ?_) rfl (by kernel_rfl) (by kernel_rfl) (by kernel_rfl) (fun _ _ _ h => h) (Or.inl ⟨by rfl, ?_⟩) (hS.sub (by repeat (first | exact List.Sublist.slnil | apply List.Sublist.cons))) ?_
  rotate_left 1
  · intro W hW
    clear hW
    go_simp
    all_goals with_reducible rfl
  try simp only [nR]
  refine wpAnyH_ready (rs := [24]) (by kernel_rfl) (by simp) (AllReadyH.cons rfl ?_ AllReadyH.nil)
  intro K1 hK1
  rw [if_pos (by rfl)]
  try simp only [nR]
  refine wp_store1_sc hS _ _ _ rfl _ _ (.int _ _) rfl rfl sc3 rfl rfl ?_
  repeat (first | refine Turn1.here (of_decide_eq_true rfl) (of_decide_eq_true rfl) ?_)
  clear hS
  intro wW hS
  try simp only [Nat.sub_zero, Nat.add_zero, Nat.zero_add, Nat.reduceSub, Nat.add_sub_cancel_left, dm_ss] at hS
  refine hK1.out _ _ (hS.sub (by repeat (first | exact List.Sublist.slnil | apply List.Sublist.cons))) (fun _ => ?_)
  clear hK1
  try simp only [nR]
  refine wpAnyH_take (i := 25) (v := ?_) rfl (by kernel_rfl) (by kernel_rfl) (by kernel_rfl) (fun _ _ _ h => h) (Or.inl ⟨by rfl, ?_⟩) (hS.sub (by repeat (first | exact List.Sublist.slnil | apply List.Sublist.cons))) ?_
  rotate_left 1
  · intro W hW
    clear hW
    go_simp
    all_goals with_reducible rfl
  try simp only [nR]
  refine wpAnyH_take (i := 26) (v := ?_) rfl (by kernel_rfl) (by kernel_rfl) (by kernel_rfl) (fun _ _ _ h => h) (Or.inl ⟨by rfl, ?_⟩) (hS.sub (by repeat (first | exact List.Sublist.slnil | apply List.Sublist.cons))) ?_
  rotate_left 1
  · intro W hW
    clear hW
    go_simp
    all_goals with_reducible rfl
  try simp only [nR]
  refine wpAnyH_ready (rs := [27]) (by kernel_rfl) (by simp) (AllReadyH.cons rfl ?_ AllReadyH.nil)
  intro K1 hK1
  rw [if_pos (by rfl)]
  try simp only [nR]
  refine wp_store1_sc hS _ _ _ rfl _ _ (.bool _) rfl rfl sc4 rfl rfl ?_
  repeat (first | refine Turn1.here (of_decide_eq_true rfl) (of_decide_eq_true rfl) ?_)
  clear hS
  intro wW hS
  try simp only [Nat.sub_zero, Nat.add_zero, Nat.zero_add, Nat.reduceSub, Nat.add_sub_cancel_left, dm_ss] at hS
  refine hK1.out _ _ (hS.sub (by repeat (first | exact List.Sublist.slnil | apply List.Sublist.cons))) (fun _ => ?_)
  clear hK1
  try simp only [nR]
  refine wpAnyH_done (by kernel_rfl) ?_ _
  go_wp2_with (first
  | ((with_reducible first | refine to_load 3 rfl ?_ ); refine Wl_load1 hS (fun _ => by rfl) _ _ rfl (scT _ rfl) ?_; (repeat (first | refine Look.here (of_decide_eq_true rfl) rfl ?_)); (with_reducible show wpList _ _ _ _ _ _); simp only [nA])
  )
  go_returns
  exact ⟨rfl, hS.range (.head _), hS.touch⟩
end Go.Proofs.Ytkkkjdbcckaedaa
namespace Go.Proofs.Ytkkkjdbcckaedaa
open Go.RowKit
set_option linter.unusedVariables false
set_option linter.unusedSimpArgs false
set_option maxRecDepth 100000
theorem dnew_any (w : World) : Calls Try.prog 30 #[] w fun e w' => e = .returned (.agg (M.dmNew.c (.slice none 0 0))) ∧ Below w.heap.size w w' := by
  have hS := St.start w.heap.size 0 0 w
  go_enter Try.func30, Try.ntmps30
  go_wp2_with (first
  | ((with_reducible refine to_alloc 29 rfl ?_); refine Wl_alloc hS (fun _ => by rfl) _ dmZ ?_; clear hS; intro bA wW hS; simp only [nA])
  )
  refine (dreset_any _).mono ?_
  rintro e w1 ⟨rfl, hb⟩
  replace hS := hS.call hb
  clear hb
  go_wp2_with (first
  | ((with_reducible refine to_store 29 rfl ?_); refine Wl_store hS (fun _ => by rfl) _ _ _ rfl rfl (dmI.trans rfl) (dm_one _ _ _ _) ?_; (repeat (first | refine Turn.here rfl ?_)); clear hS; intro wW hS; try simp only [nA])
  | ((with_reducible refine to_build (.agg (M.dmNew.c (.slice none 0 0))) (by intro w; kernel_rfl) ?_); simp only [nA]))
  refine ret_st hS rfl _ _ rfl rfl _ Try.underlying29 rfl ?_
  repeat (first | (refine Row.here ⟨dmI.trans rfl, ?_⟩))
  exact ⟨rfl, hS.below⟩
theorem dreset1_any (B : Nat) (d : M.Dm) (s : Value) (w : World) (h : DmAt B d s w) (A : Option Addr) (n c : Nat) (hs : s = .slice A n c) : Calls Try.prog 46 #[.pointer (some ⟨B, 0, none⟩)] w (DmOut B M.dmNew (.slice none 0 0) (.tuple #[]) w) := by
  subst hs
  have hS := h.st
  clear h
  go_enter Try.func46, Try.ntmps46
  go_wp2_with (first
  | ((with_reducible first | refine to_load 3 rfl ?_ ); refine Wl_load1 hS (fun _ => by rfl) _ _ rfl (scT _ rfl) ?_; (repeat (first | refine Look.here (of_decide_eq_true rfl) rfl ?_)); (with_reducible show wpList _ _ _ _ _ _); simp only [nA])
  )
  refine (dnew_any _).mono ?_
  rintro e w1 ⟨rfl, hb⟩
  replace hS := hS.call hb
  clear hb
  go_wp2_with (first
  | ((with_reducible refine to_store 29 rfl ?_); refine Wl_store hS (fun _ => by rfl) _ _ _ rfl rfl (dmI.trans rfl) (dm_one _ _ _ _) ?_; (repeat (first | refine Turn.here rfl ?_)); clear hS; intro wW hS; try simp only [nA]))
  go_returns
  exact ⟨rfl, hS.range (.head _), hS.touch⟩
theorem dload_any (B : Nat) (d : M.Dm) (hd : d.ok) (s : Value) (w : World) (h : DmAt B d s w) (A : Option Addr) (n c : Nat) (hs : s = .slice A n c) : Calls Try.prog 47 #[.pointer (some ⟨B, 0, none⟩)] w (DmOut B { M.dBlock d with done := false, forced := false } s (.tuple #[]) w) := by
  subst hs
  have hS := h.st
  clear h
  go_enter Try.func47, Try.ntmps47
  go_wp2_with (first
  | ((with_reducible first | refine to_load 3 rfl ?_ ); refine Wl_load1 hS (fun _ => by rfl) _ _ rfl (scT _ rfl) ?_; (repeat (first | refine Look.here (of_decide_eq_true rfl) rfl ?_)); (with_reducible show wpList _ _ _ _ _ _); simp only [nA])
  )
  refine (dblock_any B d hd _ _ (hS.dmAt (.head _))).mono ?_
  rintro e w1 ⟨rfl, hr, ht⟩
  replace hS := hS.callT (.head _ _ _ _ _) hr ht rfl
  clear hr ht
  go_wp2_with (first
  | ((with_reducible first | refine to_store 4 rfl ?_ ); (first | refine Wl_store1 hS (fun _ => by rfl) _ _ (.bool _) rfl rfl (scT _ rfl) rfl rfl ?_); (repeat (first | refine Turn1.here (of_decide_eq_true rfl) (of_decide_eq_true rfl) ?_)); clear hS; intro wW hS; (try simp only [nA]); try simp only [Nat.sub_zero, Nat.add_zero, Nat.zero_add, Nat.reduceSub, Nat.add_sub_cancel_left, dm_ss] at hS)
  )
  go_returns
  exact ⟨rfl, hS.range (.head _), hS.touch⟩
theorem M.dSignal_is (d : M.Dm) (n : Int) : (if d.pending = true then true else if d.p.ints = true then M.is d.p.ctl n else false) = (d.pending || (d.p.ints && M.is d.p.ctl n)) := by
  cases d.pending <;> cases d.p.ints <;> rfl
set_option maxHeartbeats 4000000 in
theorem dsignal_any (B : Nat) (d : M.Dm) (hd : d.ok) (s : Value) (w : World) (h : DmAt B d s w) (k : Int) : Calls Try.prog 64 #[.pointer (some ⟨B, 0, none⟩), .int .i64 k] w (DmOut B (M.dSignal d k) s (.tuple #[]) w) := by
  have hc := fun W => is_any d.p.ctl k hd.p.ctl.1 hd.p.ctl.2 W
  have hS := h.st
  clear h
  go_enter Try.func64, Try.ntmps64
  cases hp : d.pending
  · cases hi : d.p.ints
    · have e1 : M.dSignal d k = { d with pending := false } := by simp [M.dSignal, hp, hi]
      go_wp2_with (first
  | ((with_reducible first | refine to_load 4 rfl ?_ ); refine Wl_load1 hS (fun _ => by rfl) _ _ rfl (scT _ rfl) ?_; (repeat (first | refine Look.here (of_decide_eq_true rfl) rfl ?_)); (with_reducible show wpList _ _ _ _ _ _); simp only [nA])
  | ((with_reducible first | refine to_store 4 rfl ?_ ); (first | refine Wl_store1 hS (fun _ => by rfl) _ _ (.bool _) rfl rfl (scT _ rfl) rfl rfl ?_); (repeat (first | refine Turn1.here (of_decide_eq_true rfl) (of_decide_eq_true rfl) ?_)); clear hS; intro wW hS; (try simp only [nA]); try simp only [Nat.sub_zero, Nat.add_zero, Nat.zero_add, Nat.reduceSub, Nat.add_sub_cancel_left, dm_ss] at hS)
  )
      go_returns
      exact ⟨rfl, e1 ▸ hS.range (.head _), hS.touch⟩
    · have e1 : M.dSignal d k = { d with pending := M.is d.p.ctl k } := by simp [M.dSignal, hp, hi]
      go_wp2_with (first
  | ((with_reducible first | refine to_load 4 rfl ?_ | refine to_load 5 rfl ?_ ); refine Wl_load1 hS (fun _ => by rfl) _ _ rfl (scT _ rfl) ?_; (repeat (first | refine Look.here (of_decide_eq_true rfl) rfl ?_)); (with_reducible show wpList _ _ _ _ _ _); simp only [nA])
  )
      refine (hc _).mono ?_
      rintro e w1 ⟨rfl, rfl⟩
      go_wp2_with (first
  | ((with_reducible first | refine to_store 4 rfl ?_ ); (first | refine Wl_store1 hS (fun _ => by rfl) _ _ (.bool _) rfl rfl (scT _ rfl) rfl rfl ?_); (repeat (first | refine Turn1.here (of_decide_eq_true rfl) (of_decide_eq_true rfl) ?_)); clear hS; intro wW hS; (try simp only [nA]); try simp only [Nat.sub_zero, Nat.add_zero, Nat.zero_add, Nat.reduceSub, Nat.add_sub_cancel_left, dm_ss] at hS)
  )
      go_returns
      exact ⟨rfl, e1 ▸ hS.range (.head _), hS.touch⟩
  · have e1 : M.dSignal d k = { d with pending := true } := by simp [M.dSignal, hp]
    go_wp2_with (first
  | ((with_reducible first | refine to_load 4 rfl ?_ ); refine Wl_load1 hS (fun _ => by rfl) _ _ rfl (scT _ rfl) ?_; (repeat (first | refine Look.here (of_decide_eq_true rfl) rfl ?_)); (with_reducible show wpList _ _ _ _ _ _); simp only [nA])
  | ((with_reducible first | refine to_store 4 rfl ?_ ); (first | refine Wl_store1 hS (fun _ => by rfl) _ _ (.bool _) rfl rfl (scT _ rfl) rfl rfl ?_); (repeat (first | refine Turn1.here (of_decide_eq_true rfl) (of_decide_eq_true rfl) ?_)); clear hS; intro wW hS; (try simp only [nA]); try simp only [Nat.sub_zero, Nat.add_zero, Nat.zero_add, Nat.reduceSub, Nat.add_sub_cancel_left, dm_ss] at hS)
  )
    go_returns
    exact ⟨rfl, e1 ▸ hS.range (.head _), hS.touch⟩
theorem M.dSignal_ok {d : M.Dm} (h : d.ok) (n : Int) : (M.dSignal d n).ok := ⟨h.p, h.a, h.b, h.left, h.hold, h.ask⟩
set_option maxHeartbeats 4000000 in
theorem dfinish_any (B : Nat) (d : M.Dm) (hd : d.ok) (hl : -9223372036854775807 ≤ d.left) (s : Value) (w : World) (h : DmAt B d s w) : Calls Try.prog 32 #[.pointer (some ⟨B, 0, none⟩)] w (DmOut B (M.dFinish d) s (.tuple #[]) w) := by
  have hL := hd.left
  have hS := h.st
  clear h
  go_enter Try.func32, Try.ntmps32
  by_cases h1 : 1 < d.left
  · have t1 : decide (0 < d.left - 1) = true := by rw [decide_eq_true_eq]; omega
    have e1 : M.dFinish d = { d with left := d.left - 1 } := by unfold M.dFinish; rw [if_pos h1]
    go_wp2_with (first
  | ((with_reducible first | refine to_load 3 rfl ?_ ); refine Wl_load1 hS (fun _ => by rfl) _ _ rfl (scT _ rfl) ?_; (repeat (first | refine Look.here (of_decide_eq_true rfl) rfl ?_)); (with_reducible show wpList _ _ _ _ _ _); simp only [nA])
  | ((with_reducible first | refine to_store 3 rfl ?_ ); (first | refine Wl_store1 hS (fun _ => by rfl) _ _ (.int _ _) rfl rfl (scT _ rfl) rfl rfl ?_); (repeat (first | refine Turn1.here (of_decide_eq_true rfl) (of_decide_eq_true rfl) ?_)); clear hS; intro wW hS; (try simp only [nA]); try simp only [Nat.sub_zero, Nat.add_zero, Nat.zero_add, Nat.reduceSub, Nat.add_sub_cancel_left, dm_ss] at hS)
  )
    go_returns
    exact ⟨rfl, e1 ▸ hS.range (.head _), hS.touch⟩
  · have t1 : decide (0 < d.left - 1) = false := by rw [decide_eq_false_iff_not]; omega
    have hd1 : ({ d with left := d.left - 1 } : M.Dm).ok := ⟨hd.p, hd.a, hd.b, by show _ ≤ d.left - 1 ∧ d.left - 1 ≤ _; omega, hd.hold, hd.ask⟩
    have hd2 := M.dSignal_ok hd1 1
    obtain ⟨x, hx⟩ : ∃ x, x = M.dSignal { d with left := d.left - 1 } 1 := ⟨_, rfl⟩
    have e0 : M.dFinish d = if (x.p.auto && !x.done) = true then M.dBlock x else { x with done := true } := by subst hx; unfold M.dFinish; rw [if_neg h1]; rfl
    rw [← hx] at hd2
    replace e0 := Lib.hid e0
    go_wp2_with (first
  | ((with_reducible first | refine to_load 3 rfl ?_ ); refine Wl_load1 hS (fun _ => by rfl) _ _ rfl (scT _ rfl) ?_; (repeat (first | refine Look.here (of_decide_eq_true rfl) rfl ?_)); (with_reducible show wpList _ _ _ _ _ _); simp only [nA])
  | ((with_reducible first | refine to_store 3 rfl ?_ ); (first | refine Wl_store1 hS (fun _ => by rfl) _ _ (.int _ _) rfl rfl (scT _ rfl) rfl rfl ?_); (repeat (first | refine Turn1.here (of_decide_eq_true rfl) (of_decide_eq_true rfl) ?_)); clear hS; intro wW hS; (try simp only [nA]); try simp only [Nat.sub_zero, Nat.add_zero, Nat.zero_add, Nat.reduceSub, Nat.add_sub_cancel_left, dm_ss] at hS)
  )
    refine (dsignal_any B _ hd1 _ _ (hS.dmAt (.head _)) 1).mono ?_
    rintro e w1 ⟨rfl, hr, ht⟩
    replace hS := hS.callT (.head _ _ _ _ _) hr ht rfl
    clear hr ht
    rw [← hx] at hS
    clear hx hd1 t1
    cases ha : x.p.auto
    · go_wp2_with (first
  | ((with_reducible first | refine to_load 4 rfl ?_ ); refine Wl_load1 hS (fun _ => by rfl) _ _ rfl (scT _ rfl) ?_; (repeat (first | refine Look.here (of_decide_eq_true rfl) rfl ?_)); (with_reducible show wpList _ _ _ _ _ _); simp only [nA])
  | ((with_reducible first | refine to_store 4 rfl ?_ ); (first | refine Wl_store1 hS (fun _ => by rfl) _ _ (.bool _) rfl rfl (scT _ rfl) rfl rfl ?_); (repeat (first | refine Turn1.here (of_decide_eq_true rfl) (of_decide_eq_true rfl) ?_)); clear hS; intro wW hS; (try simp only [nA]); try simp only [Nat.sub_zero, Nat.add_zero, Nat.zero_add, Nat.reduceSub, Nat.add_sub_cancel_left, dm_ss] at hS)
  )
      go_returns
      have e1 := e0.out
      rw [ha] at e1
      exact ⟨rfl, e1 ▸ hS.range (.head _), hS.touch⟩
    · cases hn : x.done
      · go_wp2_with (first
  | ((with_reducible first | refine to_load 4 rfl ?_ ); refine Wl_load1 hS (fun _ => by rfl) _ _ rfl (scT _ rfl) ?_; (repeat (first | refine Look.here (of_decide_eq_true rfl) rfl ?_)); (with_reducible show wpList _ _ _ _ _ _); simp only [nA])
  )
        refine (dblock_any B x hd2 _ _ (hS.dmAt (.head _))).mono ?_
        rintro e w1 ⟨rfl, hr, ht⟩
        replace hS := hS.callT (.head _ _ _ _ _) hr ht rfl
        clear hr ht
        go_wp2_with (first
  | ((with_reducible first | refine to_load 3 rfl ?_ ); refine Wl_load1 hS (fun _ => by rfl) _ _ rfl (scT _ rfl) ?_; (repeat (first | refine Look.here (of_decide_eq_true rfl) rfl ?_)); (with_reducible show wpList _ _ _ _ _ _); simp only [nA])
  )
        go_returns
        have e1 := e0.out
        rw [ha, hn] at e1
        exact ⟨rfl, e1 ▸ hS.range (.head _), hS.touch⟩
      · go_wp2_with (first
  | ((with_reducible first | refine to_load 4 rfl ?_ ); refine Wl_load1 hS (fun _ => by rfl) _ _ rfl (scT _ rfl) ?_; (repeat (first | refine Look.here (of_decide_eq_true rfl) rfl ?_)); (with_reducible show wpList _ _ _ _ _ _); simp only [nA])
  | ((with_reducible first | refine to_store 4 rfl ?_ ); (first | refine Wl_store1 hS (fun _ => by rfl) _ _ (.bool _) rfl rfl (scT _ rfl) rfl rfl ?_); (repeat (first | refine Turn1.here (of_decide_eq_true rfl) (of_decide_eq_true rfl) ?_)); clear hS; intro wW hS; (try simp only [nA]); try simp only [Nat.sub_zero, Nat.add_zero, Nat.zero_add, Nat.reduceSub, Nat.add_sub_cancel_left, dm_ss] at hS)
  )
        go_returns
        have e1 := e0.out
        rw [ha, hn] at e1
        exact ⟨rfl, e1 ▸ hS.range (.head _), hS.touch⟩
end Go.Proofs.Ytkkkjdbcckaedaa
