/- Status of a DMA (dma): a range over a map, in whatever order. -/
import Derived.Test.YtkkkjdbcckaedaaZBits
import Derived.Test.YtkkkjdbcckaedaaZDm
import Derived.Test.YtkkkjdbcckaedaaMaps
import Derived.Test.YtkkkjdbcckaedaaRgReg
import Derived.Maps.RangeRun
import Derived.LoopTactic
import Derived.LoopN
namespace Go.Proofs.Ytkkkjdbcckaedaa
open Go.RowKit
open Go.ChangeMaps (setBlock)
set_option linter.unusedVariables false
set_option linter.unusedSimpArgs false
set_option maxRecDepth 100000
theorem umapS : Try.prog.underlying 86 = some (.map 3 4) := by kernel_rfl
theorem uintS : Try.prog.underlying 3 = some (.int .i64) := by kernel_rfl
def M.stEs (r p q n : Bool) : Array MapEntry := #[⟨.int .i64 0, .bool r, 0⟩, ⟨.int .i64 3, .bool p, 1⟩, ⟨.int .i64 4, .bool q, 2⟩, ⟨.int .i64 5, .bool n, 3⟩]
def M.stB (r p q n s0 s1 s2 s3 : Bool) : Int := (if s0 && r then 1 else 0) + (if s1 && p then 8 else 0) + (if s2 && q then 16 else 0) + (if s3 && n then 32 else 0)
def M.stBits (r p q n : Bool) (seen : Array Nat) : Int := M.stB r p q n (seen.contains 0) (seen.contains 1) (seen.contains 2) (seen.contains 3)
theorem M.stB_tab : ∀ r p q n s0 s1 s2 s3 : Bool, (s0 = false → bits .or .u8 (M.stB r p q n s0 s1 s2 s3) (M.withB 0 0 r) = M.stB r p q n true s1 s2 s3) ∧ (s1 = false → bits .or .u8 (M.stB r p q n s0 s1 s2 s3) (M.withB 0 3 p) = M.stB r p q n s0 true s2 s3)
    ∧ (s2 = false → bits .or .u8 (M.stB r p q n s0 s1 s2 s3) (M.withB 0 4 q) = M.stB r p q n s0 s1 true s3) ∧ (s3 = false → bits .or .u8 (M.stB r p q n s0 s1 s2 s3) (M.withB 0 5 n) = M.stB r p q n s0 s1 s2 true) ∧ M.stB r p q n true true true true = M.withB (M.withB (M.withB (M.withB 0 0 r) 3 p) 4 q) 5 n := by decide +kernel
theorem M.st_step (r p q n : Bool) (seen : Array Nat) (e : MapEntry) (he : e ∈ (leftOf (M.stEs r p q n) seen).toList) : ∃ k on, e.key = .int .i64 k ∧ e.val = .bool on ∧ bits .or .u8 (M.stBits r p q n seen) (M.withB 0 k on) = M.stBits r p q n (seen.push e.born) := by
  obtain ⟨h1, h2⟩ := mem_left he
  have t := M.stB_tab r p q n (seen.contains 0) (seen.contains 1) (seen.contains 2) (seen.contains 3)
  simp only [M.stEs, List.mem_cons, List.not_mem_nil, or_false] at h1
  unfold M.stBits
  simp only [contains_push]
  rcases h1 with rfl | rfl | rfl | rfl
  · exact ⟨0, r, rfl, rfl, by rw [t.1 h2]; simp⟩
  · exact ⟨3, p, rfl, rfl, by rw [t.2.1 h2]; simp⟩
  · exact ⟨4, q, rfl, rfl, by rw [t.2.2.1 h2]; simp⟩
  · exact ⟨5, n, rfl, rfl, by rw [t.2.2.2.1 h2]; simp⟩
theorem M.st_all (r p q n : Bool) (seen : Array Nat) (h : (leftOf (M.stEs r p q n) seen).size = 0) : M.stBits r p q n seen = M.withB (M.withB (M.withB (M.withB 0 0 r) 3 p) 4 q) 5 n := by
  have ha := all_seen _ _ h
  have a0 := ha ⟨.int .i64 0, .bool r, 0⟩ (by simp [M.stEs])
  have a1 := ha ⟨.int .i64 3, .bool p, 1⟩ (by simp [M.stEs])
  have a2 := ha ⟨.int .i64 4, .bool q, 2⟩ (by simp [M.stEs])
  have a3 := ha ⟨.int .i64 5, .bool n, 3⟩ (by simp [M.stEs])
  unfold M.stBits
  rw [a0, a1, a2, a3]
  exact (M.stB_tab r p q n false false false false).2.2.2.2
theorem M.st_hold (r p q n : Bool) : ∀ x ∈ (M.stEs r p q n).toList, x.born < 4 := by
  intro x hx
  simp only [M.stEs, List.mem_cons, List.not_mem_nil, or_false] at hx
  rcases hx with rfl | rfl | rfl | rfl <;> simp
theorem M.st_nodup (r p q n : Bool) : ((M.stEs r p q n).toList.map (·.born)).Nodup := by simp [M.stEs]
section
variable {P : Program} {ops : Array Oper} {rest : List Oper} {a : Act} {Q : Exit → Act → World → Prop} {W : World} {dst : Option Tmp} {ty t : TypeId} {x : Operand} {pos : String} {aft : Array Edge}
theorem is_rng (h : wpList P ops Q ({ dst := dst, op := .range t x, type := ty, pos := pos, after := aft, guard := none } :: rest) a W) : wpList P ops Q ({ dst := dst, op := .range t x, type := ty, pos := pos, after := aft, guard := none } :: rest) a W := h
theorem wpList_rng (k e : TypeId) (ht : P.underlying t = some (.map k e)) (b clock : Nat) (es : Array MapEntry) (hm : a.eval x = .map (some b)) (hb : W.heap[b]? = some (.map es clock))
    (hK : wpList P ops Q rest (a.put dst (.pointer (some ⟨W.heap.size, 0, none⟩))) (W.alloc (.mapIter (some b) clock #[] clock))) :
    wpList P ops Q ({ dst := dst, op := .range t x, type := ty, pos := pos, after := aft, guard := none } :: rest) a W := by
  refine wpList_plain rfl fun K' hK' => ?_
  have hrun := run_range_map (P := P) W t k e b es clock ht hb
  unfold Oper.wp
  simp [execOp, hm, hrun, Result.andThen]
  exact hK' _ _ hK
theorem is_nxt (h : wpList P ops Q ({ dst := dst, op := .next x false, type := ty, pos := pos, after := aft, guard := none } :: rest) a W) : wpList P ops Q ({ dst := dst, op := .next x false, type := ty, pos := pos, after := aft, guard := none } :: rest) a W := h
theorem is_ent (h : wpList P ops Q ({ dst := dst, op := .entry x, type := ty, pos := pos, after := aft, guard := none } :: rest) a W) : wpList P ops Q ({ dst := dst, op := .entry x, type := ty, pos := pos, after := aft, guard := none } :: rest) a W := h
theorem wpList_nxt (r bm since c0 : Nat) (seen : Array Nat) (es : Array MapEntry) (clock : Nat) (hx : a.eval x = .pointer (some ⟨r, 0, none⟩)) (hr : W.heap[r]? = some (.mapIter (some bm) since seen c0)) (hb : W.heap[bm]? = some (.map es clock)) (hold : ∀ x ∈ es.toList, x.born < since) (hsc : since ≤ c0)
    (h0 : (leftOf es seen).size = 0 → wpList P ops Q rest (a.put dst (.tuple #[.bool false])) W)
    (h1 : ∀ e ∈ (leftOf es seen).toList, ∀ w1 : World, (w1 = W ∨ w1 = W.drew) → wpList P ops Q rest (a.put dst (.tuple #[.bool true, e.key, e.val])) (setBlock w1 r (.mapIter (some bm) since (seen.push e.born) clock))) :
    wpList P ops Q ({ dst := dst, op := .next x false, type := ty, pos := pos, after := aft, guard := none } :: rest) a W := by
  refine wpList_plain rfl fun K' hK' => ?_
  unfold Oper.wp
  rcases run_next_at (P := P) W ty r bm since c0 seen es clock hr hb hold hsc with ⟨hz, hrun⟩ | ⟨e, he, w1, hal, hrun⟩
  · simp [execOp, hx, hrun, Result.andThen]
    exact hK' _ _ (h0 hz)
  · simp [execOp, hx, hrun, Result.andThen]
    exact hK' _ _ (h1 e he w1 hal)
theorem wpList_ent (r bm since : Nat) (seen : Array Nat) (es : Array MapEntry) (clock : Nat) (e : MapEntry) (hx : a.eval x = .pointer (some ⟨r, 0, none⟩)) (hr : W.heap[r]? = some (.mapIter (some bm) since (seen.push e.born) clock)) (hb : W.heap[bm]? = some (.map es clock)) (he : e ∈ es.toList) (hn : (es.toList.map (·.born)).Nodup)
    (k v : Value) (hk : e.key = k) (hv : e.val = v) (h : wpList P ops Q rest (a.put dst (.tuple #[k, v])) W) :
    wpList P ops Q ({ dst := dst, op := .entry x, type := ty, pos := pos, after := aft, guard := none } :: rest) a W := by
  subst hk hv
  refine wpList_plain rfl fun K' hK' => ?_
  unfold Oper.wp
  have hrun := run_entry_at (P := P) W r bm since seen es clock e hr hb he hn
  simp [execOp, hx, hrun, Result.andThen]
  exact hK' _ _ h
end
/-- What lies in memory while the range goes on. -/
structure StL (w : World) (m r : Nat) (es : Array MapEntry) (seen : Array Nat) (W : World) : Prop where
  map : W.heap[m]? = some (.map es 4)
  it : W.heap[r]? = some (.mapIter (some m) 4 seen 4)
  ne : m ≠ r
  ge : w.heap.size ≤ r
  below : Below w.heap.size w W
theorem StL.next {w W W1 : World} {m r : Nat} {es : Array MapEntry} {seen : Array Nat} (h : StL w m r es seen W) (h1 : W1 = W ∨ W1 = W.drew) (b : Nat) : StL w m r es (seen.push b) (setBlock W1 r (.mapIter (some m) 4 (seen.push b) 4)) := by
  have k : StL w m r es seen W1 := by
    rcases h1 with rfl | rfl
    · exact h
    · exact ⟨h.map, h.it, h.ne, h.ge, h.below.drew⟩
  have hlt : r < W1.heap.size := (Array.getElem?_eq_some_iff.1 k.it).1
  refine ⟨?_, ?_, k.ne, k.ge, k.below.trans ⟨rfl, rfl, rfl, ?_, ?_⟩⟩
  · simp only [setBlock]
    rw [Array.getElem?_setIfInBounds_ne (fun e => k.ne e.symm)]
    exact k.map
  · simp only [setBlock]
    rw [Array.getElem?_setIfInBounds_self_of_lt hlt]
  · simp [setBlock]
  · intro i hi
    simp only [setBlock]
    rw [Array.getElem?_setIfInBounds_ne (by have := k.ge; omega)]
theorem StL.seen {w W : World} {m r : Nat} {es : Array MapEntry} {seen : Array Nat} (h : StL w m r es seen W) : W.iterSeen r = seen := by
  unfold World.iterSeen
  rw [h.it]
section
variable {P : Program} {ops : Array Oper} {rest : List Oper} {a : Act} {Q : Exit → Act → World → Prop} {B o n : Nat} {w W : World} {es : List Ent} {dst : Option Tmp} {ty t : TypeId} {pos : String} {aft : Array Edge}
theorem to_mkmapS (h : Wl P ops Q ({ dst := dst, op := .makeMap t none, type := ty, pos := pos, after := aft, guard := none } :: rest) a W) : wpList P ops Q ({ dst := dst, op := .makeMap t none, type := ty, pos := pos, after := aft, guard := none } :: rest) a W := h.of
theorem Wl_mkmapS (hS : St B o n w es W) (h : ∀ m W', w.heap.size ≤ m → W'.heap[m]? = some (.map #[] 0) → St B o n w es W' → wpList P ops Q rest (a.put dst (.map (some m))) W') :
    Wl P ops Q ({ dst := dst, op := .makeMap t none, type := ty, pos := pos, after := aft, guard := none } :: rest) a W := by
  refine Wl.mk (wpList_plain rfl fun K' hK' => ?_)
  unfold Oper.wp execOp
  simp only [run_makeMap, Sem.run_bind, Sem.run_pure, Result.andThen_ok]
  exact hK' _ _ (h _ _ hS.size (by simp) (hS.call ((Below.refl _ _).alloc (Nat.le_refl _) _)))
end
theorem StL.start {w W : World} {m : Nat} {es : Array MapEntry} (hb : Below w.heap.size w W) (hM : W.heap[m]? = some (.map es 4)) : StL w m W.heap.size es #[] (W.alloc (.mapIter (some m) 4 #[] 4)) :=
  have hlt : m < W.heap.size := (Array.getElem?_eq_some_iff.1 hM).1
  ⟨((MapKept.heap_alloc W _).2 m hlt).trans hM, (MapKept.heap_alloc W _).1, Nat.ne_of_lt hlt, hb.size, hb.alloc hb.size _⟩
set_option maxHeartbeats 4000000 in
theorem dstatus_any (d : M.Dm) (A : Option Addr) (n c : Nat) (w : World) : Calls Try.prog 21 #[.agg (d.c (.slice A n c))] w fun e w' => e = .returned (.int .u8 (M.dStatus d)) ∧ Below w.heap.size w w' := by
  have hS := St.start w.heap.size 0 0 w
  go_enter Try.func21, Try.ntmps21
  go_wp2_with (first
  | ((with_reducible refine to_boxT 29 rfl ?_); refine Wl_box hS (fun _ => by rfl) _ rfl ?_; clear hS; intro b2 wW hS; simp only [nA])
  | ((with_reducible refine to_mkmapS ?_); refine Wl_mkmapS hS ?_; clear hS; intro m wW hge hM hS; simp only [nA])
  | ((with_reducible first | refine to_load 3 rfl ?_ | refine to_load 4 rfl ?_ | refine to_load 5 rfl ?_ | refine to_load 24 rfl ?_ | refine to_load 25 rfl ?_); refine Wl_load1 hS (fun _ => by rfl) _ _ rfl (scT _ rfl) ?_; (repeat (first | refine Look.here (of_decide_eq_true rfl) rfl ?_ | refine Look.next ?_)); (with_reducible show wpList _ _ _ _ _ _); simp only [nA])
  | ((with_reducible refine is_insert ?_); refine wpList_insert _ rfl _ _ _ _ rfl _ _ _ umapS uintS _ _ _ rfl hM _ _ rfl rfl rfl ?_; intro W1 hm1 hg1; replace hS := hS.touch0 (touch_map hM hm1 hg1) hge; replace hM := hm1; clear hm1 hg1; simp only [nA])
  | ((with_reducible refine is_rng ?_); refine wpList_rng _ _ umapS m 4 (M.stEs d.ran d.pending d.matched d.done) rfl hM ?_; have h0 := StL.start (es := M.stEs d.ran d.pending d.matched d.done) hS.below hM; generalize World.alloc _ _ = W2 at h0 ⊢; generalize Array.size _ = r at h0 ⊢; clear hS hM; simp only [nA]))
  have HA := Lib.hid (M.st_all d.ran d.pending d.matched d.done)
  have HS := Lib.hid (M.st_step d.ran d.pending d.matched d.done)
  go_loopw [3] (fun s W => ∃ seen, StL w m r (M.stEs d.ran d.pending d.matched d.done) seen W ∧ s = .int .u8 (M.stBits d.ran d.pending d.matched d.done seen)) (fun _ W => (leftOf (M.stEs d.ran d.pending d.matched d.done) (W.iterSeen r)).size)
  case atStart => exact ⟨#[], h0, by simp [M.stBits, M.stB]⟩
  case round =>
    obtain ⟨seen, h, rfl⟩ := hrel
    have hq := h.seen
    go_wp2_with (first | ((with_reducible refine is_nxt ?_); refine wpList_nxt r m 4 4 seen (M.stEs d.ran d.pending d.matched d.done) 4 rfl h.it h.map (M.st_hold _ _ _ _) (Nat.le_refl _) (fun hz => ?_) (fun e he w1 hw1 => ?_); rotate_left; have h2 := h.next hw1 e.born; obtain ⟨k, on, hk, hv, hst⟩ := HS.out seen e he; have HT := Lib.hid hst; rw [hk, hv]; have HK := Lib.hid hk; have HV := Lib.hid hv; clear hst hk hv; generalize setBlock _ _ _ = W3 at h2 ⊢; rotate_left) | ((with_reducible refine is_ent ?_); refine wpList_ent r m 4 seen (M.stEs d.ran d.pending d.matched d.done) 4 e rfl h2.it h2.map (mem_left he).1 (M.st_nodup _ _ _ _) _ _ HK.out HV.out ?_; simp only [nA]))
    · go_returns
      exact ⟨ret_int (HA.out seen hz), h.below⟩
    · refine (with_any 0 k on (by decide) (by decide) _).mono ?_
      rintro e1 v2 ⟨rfl, rfl⟩
      go_wp2_with fail
      go_roundw
      case rel => exact ⟨_, h2, by rw [HT.out]⟩
      case measure =>
        rw [h2.seen, hq]
        exact left_shrinks _ seen e he
end Go.Proofs.Ytkkkjdbcckaedaa
