/- Written by a program of this session out of the translation and the contracts proved by hand: each function's answer and its proof; each law's statement over plain numbers. -/
import Derived.Test.YtkphidaoodedjaaProg
import Derived.Below
import Derived.Deep.Draws
import Derived.Deep.AppendLies
import Derived.Maps.AppendAt
import Derived.OwnWalk
import Derived.Laws.BytesArg
import Derived.Laws.MakeOwn
import Derived.Laws.OwnMore
import Derived.Deep.OwnRows
import Derived.Tactics
import Derived.Lib.ConvBytes
import Derived.Laws.Slices
import Derived.WalkKit
import Derived.KernelRfl
import Derived.RowKit3
import Derived.Deep.LoopGhost
import Derived.Deep.QuietTactic
import Derived.BigQuiet
import Derived.WideLaws
import Derived.Deep.DeepCutAuto
import Derived.Deep.CutBlock
import Derived.Deep.RegionHeld3
import Derived.Laws.Rows
import Derived.Lib.AppendStr
import Derived.ArgAppend
import Derived.Laws.IdiomCopy
import Derived.OrdersHeld
import Derived.Laws.BitsLemmas
import Derived.RowKit
import Derived.Test.YtkphidaoodedjaaBitsIter
import Derived.Test.YtkphidaoodedjaaRef07
import Derived.Test.YtkphidaoodedjaaRef03
import Derived.Test.YtkphidaoodedjaaBlock
import Derived.Test.YtkphidaoodedjaaWWords
import Derived.Test.YtkphidaoodedjaaWLast
import Derived.Test.YtkphidaoodedjaaWTab
import Derived.Test.YtkphidaoodedjaaWFour
import Derived.Test.YtkphidaoodedjaaWQPut
import Derived.Test.YtkphidaoodedjaaWApart
import Derived.Test.YtkphidaoodedjaaWArr
import Derived.Test.YtkphidaoodedjaaWZeros
import Derived.Test.YtkphidaoodedjaaWFoot
import Derived.Test.YtkphidaoodedjaaWKept
import Derived.Test.YtkphidaoodedjaaWShare
import Derived.Test.YtkphidaoodedjaaWN
import Derived.Test.YtkphidaoodedjaaWFootNe
import Derived.Test.YtkphidaoodedjaaWAt
import Derived.Test.YtkphidaoodedjaaWEqStruct
import Derived.Test.YtkphidaoodedjaaWRepsOne
import Derived.Test.YtkphidaoodedjaaWInv
import Derived.Test.YtkphidaoodedjaaWInvWords
import Derived.Test.YtkphidaoodedjaaWGuard
import Derived.Test.YtkphidaoodedjaaWNEv
import Derived.Test.YtkphidaoodedjaaWMore
namespace Go.Proofs.Ytkphidaoodedjaa.PK
open Go.RowKit Go.Proofs.YtkphidaoodedjaaW.PrintWords Go.Proofs.YtkphidaoodedjaaW.PrintLast Go.Proofs.YtkphidaoodedjaaW.PrintMore
attribute [local go_sem] max2_int min2_int max_two min_two max_three min_three max_four min_four   -- for this text's walks alone
set_option linter.unusedVariables false
set_option linter.unusedSimpArgs false



def errW : Option Int → Value
  | none => .nilIface
  | some c => .iface 0 (.int .i64 c)
theorem errW_none : errW none = .nilIface := rfl
theorem errW_some (c : Int) : errW (some c) = .iface 0 (.int .i64 c) := rfl

theorem info5 : (Try.prog.info? 5).map (fun i => (i.zero, i.size, i.bytes)) = some (some (.int .u8 0), 1, 1) := by kernel_rfl
theorem info42 : (Try.prog.info? 42).map (fun i => (i.zero, i.size, i.bytes)) = some (some (.agg #[(.bool false), (.int .u8 0)]), 2, 2) := by kernel_rfl
-- the values' own types
/-! #### struct type 42 -/
structure S42 where
  f0 : Bool
  f1 : Int
def z42 : S42 := ⟨false, (0 : Int)⟩
def k42 : Kd S42 := Kd.iso (Kd.pair Kd.bool (Kd.int .u8)) (fun x : S42 => (x.f0, x.f1))
theorem k42_open {w : World} {x : S42} {cs : List Value} (h : k42.K w x cs) : cs = [.bool x.f0, .int .u8 x.f1] := by
  obtain ⟨_, _, rfl, rfl, rfl⟩ := h
  exact rfl
theorem k42_openM {w : World} {base : Nat} {ok : Nat → Prop} {x : S42} {cs : List Value} (h : k42.M w base ok x cs) : cs = [.bool x.f0, .int .u8 x.f1] := by
  obtain ⟨_, _, rfl, rfl, rfl⟩ := h
  exact rfl
theorem k42_mk (w : World) (x : S42)  : k42.K w x [.bool x.f0, .int .u8 x.f1] := ⟨[.bool x.f0], [.int .u8 x.f1], rfl, rfl, rfl⟩
theorem k42_mkM (w : World) (base : Nat) (ok : Nat → Prop) (x : S42)  : k42.M w base ok x [.bool x.f0, .int .u8 x.f1] := ⟨[.bool x.f0], [.int .u8 x.f1], rfl, rfl, rfl⟩
def rd_T42 (xs : List S42) (i : Int) : S42 := xs.getD i.toNat z42
theorem at_T42 {w : World} {A : Option Addr} {n : Nat} {xs : List S42} (h : Kd.C k42 w A n xs) (i : Int) (h0 : 0 ≤ i) (h1 : i < n) : ∃ ad , A = some ad ∧ w.cell? (ad.add (i.toNat * 2)) = some (.bool (rd_T42 xs i).f0) ∧ w.cell? ⟨(ad.add (i.toNat * 2)).block, (ad.add (i.toNat * 2)).off + 1, none⟩ = some (.int .u8 (rd_T42 xs i).f1) := by
  obtain ⟨ad, c, e, _, hK, hc0⟩ := Kd.C_get h z42 i h0 h1
  have hc : ∀ j u, c[j]? = some u → w.cell? (ad.add (i.toNat * 2 + j)) = some u := hc0
  obtain rfl := k42_open hK
  exact ⟨ad, e, hc 0 _ rfl, by rw [← add_field _ _ 1 (by omega)]; exact hc 1 _ rfl⟩

end Go.Proofs.Ytkphidaoodedjaa.PK
