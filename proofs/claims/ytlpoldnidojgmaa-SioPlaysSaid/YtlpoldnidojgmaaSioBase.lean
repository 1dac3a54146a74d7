/- Two channels in one box: the types' sizes, the zero values. -/
import Derived.Test.YtlpoldnidojgmaaSioM
import Derived.Test.YtlpoldnidojgmaaHeapOps
import Derived.Test.YtlpoldnidojgmaaBits
import Derived.Laws.IdiomCopy
namespace Go.Proofs.Ytlpoldnidojgmaa
open Go.RowKit
set_option linter.unusedVariables false
set_option maxRecDepth 100000
theorem sc3 : Scalar Try.prog 3 := ⟨⟨_, Try.underlying3, rfl⟩, by kernel_rfl⟩
theorem sc4 : Scalar Try.prog 4 := ⟨⟨_, Try.underlying4, rfl⟩, by kernel_rfl⟩
theorem sc5 : Scalar Try.prog 5 := ⟨⟨_, Try.underlying5, rfl⟩, by kernel_rfl⟩
theorem scT (T : TypeId) (h : (T == 3 || T == 4 || T == 5) = true) : Scalar Try.prog T := by
  simp only [Bool.or_eq_true, beq_iff_eq] at h
  rcases h with (rfl | rfl) | rfl
  · exact sc3
  · exact sc4
  · exact sc5
theorem siZ (w : World) : (zeroValue 28).run Try.prog w = .ok (.agg M.si0.a) w := Try.zeroValue28 w
theorem cnZ (w : World) : (zeroValue 25).run Try.prog w = .ok (.agg M.cn0.a) w := Try.zeroValue25 w
theorem rsiZ (w : World) : (zeroValue 35).run Try.prog w = .ok (.agg M.si0.a) w := Try.zeroValue35 w
theorem rcnZ (w : World) : (zeroValue 32).run Try.prog w = .ok (.agg M.cn0.a) w := Try.zeroValue32 w
theorem siI : (Try.prog.info? 28).map (·.size) = some 34 := by kernel_rfl
theorem cnI : (Try.prog.info? 25).map (·.size) = some 17 := by kernel_rfl
theorem rsiI : (Try.prog.info? 35).map (·.size) = some 34 := by kernel_rfl
theorem rcnI : (Try.prog.info? 32).map (·.size) = some 17 := by kernel_rfl
theorem si_one (s : M.Si) : s.a.all (·.oneCell') = true := by simp [M.Si.a, M.Si.v, M.Cn.v, Value.oneCell']
theorem cn_one (x : M.Cn) : x.a.all (·.oneCell') = true := by simp [M.Cn.a, M.Cn.v, Value.oneCell']
theorem cn_mk (w0 w1 w2 w3 w4 w5 w6 w7 pt f0 f1 f2 n : Int) (over : Bool) (tx : Int) (full gone : Bool) : (M.Cn.mk w0 w1 w2 w3 w4 w5 w6 w7 pt f0 f1 f2 n over tx full gone).a = #[.int .u8 w0, .int .u8 w1, .int .u8 w2, .int .u8 w3, .int .u8 w4, .int .u8 w5, .int .u8 w6, .int .u8 w7, .int .i64 pt, .int .u8 f0, .int .u8 f1, .int .u8 f2, .int .i64 n, .bool over, .int .u8 tx, .bool full, .bool gone] := rfl
theorem si_split (s : M.Si) : s.a = s.c0.a ++ s.c1.a := by
  apply Array.ext'
  simp [M.Si.a, M.Si.v, M.Cn.a]
theorem si_join (x y : M.Cn) : x.a ++ y.a = (M.Si.mk x y).a := (si_split ⟨x, y⟩).symm
theorem M.fix_lo {n hi : Int} (h : n < 0) : M.fix n hi = 0 := if_pos (.inl h)
theorem M.fix_hi {n hi : Int} (h : hi < n) : M.fix n hi = 0 := if_pos (.inr h)
theorem M.fix_in {n hi : Int} (h : 0 ≤ n) (h2 : n ≤ hi) : M.fix n hi = n := if_neg (by omega)
section
variable {P : Program} {op : Oper} {a : Act} {Q : Exit → Act → World → Prop} {K : Act → World → Prop} {B o n : Nat} {w W : World} {es es' : List Ent}
theorem St.subturn {b q j : Nat} {cs c cs' : Array Value} (hS : St B o n w es W) (hq : q ≤ j) (hl : j - q + c.size ≤ cs.size) (hc : cs'.toList = cs.toList.take (j - q) ++ (c.toList ++ cs.toList.drop (j - q + c.size))) (hu : Upd es b q cs cs' es') : W.there b j c.size ∧ St B o n w es' (W.setCells b j c.toList) := by
  have hth : W.there b j c.size := by
    have h0 := hS.there hu.mem rfl
    intro i hi
    have := h0 (j - q + i) (show j - q + i < cs.size by omega)
    rwa [show (⟨b, q, true, cs⟩ : Ent).q + (j - q + i) = j + i by show q + (j - q + i) = j + i; omega] at this
  refine ⟨hth, ?_⟩
  have hr := hS.range hu.mem
  have ht := touch_setCells W b j c.toList
  have hcl : cs'.size = cs.size := by
    have := congrArg List.length hc
    simp at this
    omega
  refine hS.put hu hcl (ht.wide hq (by simp; omega)) ?_
  rw [hc]
  have hs := World.rangeAt_setCells_same W b j c.toList (by simpa using hth)
  have r1 : (W.setCells b j c.toList).rangeAt b q (cs.toList.take (j - q)) := fun i v hv => by
    have hi : i < j - q := by have := (List.getElem?_eq_some_iff.1 hv).1; simp at this; omega
    rw [World.cell?_setCells_out b _ j W _ (fun _ _ => .inl (by show q + i < j; omega))]
    exact hr i v (by rwa [List.getElem?_take_of_lt hi] at hv)
  have r3 : (W.setCells b j c.toList).rangeAt b (j + c.size) (cs.toList.drop (j - q + c.size)) := fun i v hv => by
    rw [World.cell?_setCells_out b _ j W _ (fun _ _ => .inr (by show j + c.toList.length ≤ j + c.size + i; simp))]
    rw [List.getElem?_drop] at hv
    have := hr _ _ hv
    rwa [show (⟨b, q, true, cs⟩ : Ent).q + (j - q + c.size + i) = j + c.size + i by show q + (j - q + c.size + i) = _; omega] at this
  have hlen : (cs.toList.take (j - q)).length = j - q := by simp; omega
  refine range_join r1 ?_
  rw [hlen, show q + (j - q) = j by omega]
  exact range_join hs (by simpa using r3)
/-- 'copy' within cells that are known. -/
theorem wp_copy_st (hS : St B o n w es W) (d s : Operand) (dT sT elem : TypeId) (ho : op.op = .call { callee := .builtin .copy, args := #[d, s], argTypes := #[dT, sT] }) (hu : P.underlying dT = some (.slice elem)) (hsz : (P.info? elem).map (·.size) = some 1)
    (b j sj dLen dCap sLen sCap : Nat) (hd : a.eval d = .slice (some ⟨b, j, none⟩) dLen dCap) (hs : a.eval s = .slice (some ⟨b, sj, none⟩) sLen sCap) (c cs' : Array Value) (hn : c.size = Nat.min sLen dLen) (h1 : ∀ v, v ∈ c.toList → v.oneCell' = true)
    (h : Sub es b sj c (SubTurn es b j c cs' fun es' => ∀ W', St B o n w es' W' → K (a.put op.dst (goInt c.toList.length)) W')) : op.wp P a W K Q := by
  obtain ⟨q1, fr, cs1, hm, hq1, hc1, q, cs, es', hq, hl, hc, hu', hk⟩ := h
  obtain ⟨hth, hS'⟩ := hS.subturn hq hl hc hu'
  have hsrc := sub_range (hS.range hm) hq1 hc1
  have hrun := run_copy_cells (P := P) W dT sT op.type elem b j dLen dCap ⟨b, sj, none⟩ sLen sCap c.toList hu hsz (by simpa using hn)
    (fun i v hv => by rw [Addr.add_mid]; exact hsrc i v hv) (fun i hi => (hth i (by simpa using hi)).1) (fun i hi => (hth i (by simpa using hi)).2) h1
  unfold Oper.wp
  simp [execOp, ho, resolve, invoke, builtin, hd, hs, hrun, Result.andThen]
  have := hk _ hS'
  simp at this
  exact this
end
/-- What the caller of a method behind a pointer holds. -/
theorem St.callT {B o n b q : Nat} {w W W' : World} {es es' : List Ent} {cs cs' : Array Value} (h : St B o n w es W) (hu : Upd es b q cs cs' es') (hr : W'.rangeAt b q cs'.toList) (ht : Touch b q cs.size W W') (hl : cs'.size = cs.size) : St B o n w es' W' := h.put hu hl ht hr
theorem St.done {B o : Nat} {c c' : Array Value} {w W : World} {n : Nat} (h : St B o n w [⟨B, o, true, c⟩] W) (hc : c = c') : W.rangeAt B o c'.toList ∧ Touch B o n w W := ⟨hc ▸ h.range (.head _), h.touch⟩
theorem to_boxT {P : Program} {ops : Array Oper} {rest : List Oper} {a : Act} {Q : Exit → Act → World → Prop} {w : World} {dst : Option Tmp} {T ty : TypeId} {x : Operand} {pos : String} {aft : Array Edge} {g : Option (Nat × Bool)} (n : Nat) (_ : (T == n) = true)
    (h : Wl P ops Q ({ dst := dst, op := .box T x, type := ty, pos := pos, after := aft, guard := g } :: rest) a w) : wpList P ops Q ({ dst := dst, op := .box T x, type := ty, pos := pos, after := aft, guard := g } :: rest) a w := h.of
end Go.Proofs.Ytlpoldnidojgmaa
