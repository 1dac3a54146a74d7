/- A range over an iterator that writes a variable of its own: the law of the statement, for an iterator whose contract speaks of two counts. Nothing of the program. -/
import Derived.RangeFuncNested
import Derived.RangeFuncBound
import Derived.RangeFuncCalls
import Derived.RangeFuncLeaves
import Derived.Shelf.Abstract
import Derived.Shelf.RegionOpen
import Derived.WalkKit
import Derived.OwnWalkIn
import Derived.TacticsInMore
import Derived.LoopNIn
import Derived.LoopIn
import Derived.Maps.AppendAt
import Derived.Test.YtmoafjgogbcoeaaArW
namespace Go.Proofs.Ytmoafjgogbcoeaa
open Go.RowKit Go.Shelf
set_option linter.unusedVariables false
/-- What abides everything that leaves the blocks of cells from w's end on alone. -/
def Abides (h : Nat) (J : World → Prop) : Prop := ∀ (W W' : World) (row : Option Nat), J W → W.grownBy W' row → (∀ r, row = some r → h ≤ r ∧ ∃ o, W.heap[r]? = some o ∧ o.isCells = false) → J W'
theorem grown_put (W : World) (l : Nat) (o : Obj) : W.grownBy (W.putObj l o) (some l) :=
  ⟨rfl, rfl, rfl, by simp, fun k _ hk => World.putObj_heap_other (fun e => hk (by rw [e]))⟩
theorem grown_alloc (W : World) (o : Obj) : W.grownBy (W.alloc o) none :=
  ⟨rfl, rfl, rfl, by simp, fun k hk _ => Below.heap_alloc _ _ k hk⟩
theorem grown_below {W W' : World} (h : Below W.heap.size W W') : W.grownBy W' none := ⟨h.os, h.tape, h.output, h.size, fun k hk _ => h.block k hk⟩
theorem Abides.put {h : Nat} {J : World → Prop} (hJ : Abides h J) {W : World} (hw : J W) {l : Nat} {o : Obj} (o' : Obj) (hl : h ≤ l) (ho : W.heap[l]? = some o) (hc : o.isCells = false) : J (W.putObj l o') :=
  hJ W _ (some l) hw (grown_put _ _ _) (fun r e => by cases e; exact ⟨hl, o, ho, hc⟩)
theorem Abides.alloc {h : Nat} {J : World → Prop} (hJ : Abides h J) {W : World} (hw : J W) (o : Obj) : J (W.alloc o) := hJ W _ none hw (grown_alloc _ _) (fun r e => by cases e)
theorem Abides.below {h : Nat} {J : World → Prop} (hJ : Abides h J) {W W' : World} (hw : J W) (hb : Below W.heap.size W W') : J W' := hJ W _ none hw (grown_below hb) (fun r e => by cases e)
theorem setCells_size' (b : Nat) : ∀ (vs : List Value) (q : Nat) (W : World), (W.setCells b q vs).heap.size = W.heap.size
  | [], _, _ => rfl
  | v :: r, q, W => by
    have := setCells_size' b r (q + 1) (W.setCell ⟨b, q, none⟩ v)
    simpa [World.setCells] using this
theorem setCells_other {b k : Nat} (hk : k ≠ b) : ∀ (vs : List Value) (q : Nat) (W : World), (W.setCells b q vs).heap[k]? = W.heap[k]?
  | [], _, _ => rfl
  | v :: r, q, W => by
    have := setCells_other hk r (q + 1) (W.setCell ⟨b, q, none⟩ v)
    simp only [World.setCells]
    exact this.trans (Below.heap_setCell _ _ _ k hk)
theorem range_own {P : Program} {g : Operand} {ps : Array Tmp} {assign body : Code} {Q : Exit → Act → World → Prop} {a : Act} {w : World} {n gf bs : Nat} {lb : Array Value} (h1 : 1 ≤ n)
    (hg : a.eval g = .func (.func gf) #[] lb) (eg : ∀ args w, (callFunc gf args).run P w = .ok (.enter gf args) w)
    (J : Nat → Nat → World → Prop) (Mid : Nat → Act → World → Prop) (hJ : ∀ i j, Abides w.heap.size (J i j)) (hM : ∀ j a, Abides w.heap.size (Mid j a)) (h0 : J 0 0 w)
    (N : Nat) (enc : Nat → Value) (cs : Nat → List Value) (hps : ps.size = 1) (hbs : bs < w.heap.size)
    (hJS : ∀ i j W, J i j W → J (i + 1) j (W.setCells bs 0 (cs i)))
    (hseq : ∀ (l : Nat) (Jg : Nat → Nat → World → Prop) (W : World), (∀ i j W, Jg i j W → J i j W) → (∀ i j W W', Jg i j W → Below W.heap.size W W' → Jg i j W') → (∀ i j W, Jg i j W → Jg (i + 1) j (W.setCells bs 0 (cs i))) →
      (∀ k W, k < N → Jg (k + 1) k W → YieldAt Fence.wide (n - 1 - 1) P l #[enc (k + 1)] W fun e W' => e = .returned (.bool true) ∧ Jg (k + 1) (k + 1) W') → Jg 0 0 W →
      CallsIn Fence.wide (n - 1) P gf (#[.func (.yield l) #[] #[]] ++ lb) W fun e W' => (∃ v, e = .returned v) ∧ Jg N N W')
    (hassign : ∀ (l k : Nat) (W : World) (K : Act → World → Prop), k < N → J (k + 1) k W → (∀ a' W', KeepsFrom w.heap.size W W' → Mid k a' W' → K a' W') →
      assign.wpIn (Fence.wide.inRound l) (n - 1 - 1) P (Exit.then K (fun _ _ _ => False)) { tmps := (ps.zip #[enc (k + 1)]).foldl (fun t (p, v) => t.setIfInBounds p v) a.tmps, defers := [] } W)
    (hbody : ∀ (l k : Nat) (a' : Act) (W : World), k < N → Mid k a' W → body.wpIn (Fence.wide.inRound l) (n - 1 - 1) P (fun e _ W' => e = .normal ∧ KeepsFrom w.heap.size W W' ∧ J (k + 1) (k + 1) W') a' W)
    (hdone : ∀ (D : Nat) (W : World), w.heap.size ≤ D → J N N W → W.heap[D]? = some (.deferred (some [])) → Q .normal { a with defers := { target := .collected D, args := #[] } :: a.defers } W) :
    (Code.rangeFunc g ps assign body).wpIn Fence.wide n P Q a w := by
  refine wpIn_rangeFunc ?_
  intro fn hfn
  rw [show Fence.wide.round = none from rfl]
  obtain ⟨rec, hrec⟩ : ∃ rec : LoopState → Option Code → Loop, rec = fun st pe => { state := st, pending := pe, fn, tmps := a.tmps, params := ps, assign, body, defers := w.heap.size } := ⟨_, rfl⟩
  obtain ⟨W1, hW1⟩ : ∃ W1, (w.alloc (.deferred (some []))).alloc (.loop (rec .ready none)) = W1 := ⟨_, rfl⟩
  have hL1 : W1.heap[w.heap.size + 1]? = some (.loop (rec .ready none)) := by
    rw [← hW1]; have := World.alloc_heap_new (w.alloc (.deferred (some []))) (.loop (rec .ready none)); rwa [World.size_alloc] at this
  have hK1 : W1.heap[w.heap.size]? = some (.deferred (some [])) := by
    rw [← hW1]; exact (Below.heap_alloc _ _ _ (by simp)).trans (World.alloc_heap_new w _)
  have hI1 : J 0 0 W1 := by rw [← hW1]; exact (hJ 0 0).alloc ((hJ 0 0).alloc h0 _) _
  refine ⟨w.heap.size + 1, [{ target := .collected w.heap.size, args := #[] }], W1, { target := .fn (.func gf) lb, args := #[.func (.yield (w.heap.size + 1)) #[] #[]] }, W1, gf,
    #[.func (.yield (w.heap.size + 1)) #[] #[]] ++ lb, W1, ?_, ?_, ?_, ?_, fun _ => h1, ?_⟩
  · rw [← hW1, hrec]; exact run_enterLoop_outer _ _ _ _ _
  · simp only [resolve, hg]
    simp [go_sem]
  · intro f' hf'; trivial
  · simp [invoke, go_sem, eg]
  · refine (hseq (w.heap.size + 1) (fun i j W => J i j W ∧ W.heap[w.heap.size + 1]? = some (.loop (rec .ready none)) ∧ W.heap[w.heap.size]? = some (.deferred (some []))) W1 (fun _ _ _ h => h.1)
      (fun i j W W' h hb => ⟨(hJ i j).below h.1 hb, (hb.block _ (Array.getElem?_eq_some_iff.1 h.2.1).1).trans h.2.1, (hb.block _ (Array.getElem?_eq_some_iff.1 h.2.2).1).trans h.2.2⟩)
      (fun i j W h => ⟨hJS i j W h.1, (setCells_other (by omega) _ _ _).trans h.2.1, (setCells_other (by omega) _ _ _).trans h.2.2⟩) ?_ ⟨hI1, hL1, hK1⟩).mono ?_
    · rintro k W hk ⟨hi, hl, hK⟩
      have hlt : w.heap.size + 1 < W.heap.size := (Array.getElem?_eq_some_iff.1 hl).1
      have hy := run_yield (P := P) (args := #[enc (k + 1)]) hl (by rw [hrec]; exact hps.symm)
      rw [hrec] at hy
      refine ⟨fn, _, assign, body, hy, roundIn_of_wpIn hfn (hassign _ k W _ hk hi ?_)⟩
      clear hy
      intro a' Wa hka hm
      replace hl := hka.same _ _ (by omega) hl rfl
      replace hK := hka.same _ _ (Nat.le_refl _) hK rfl
      replace hlt : w.heap.size + 1 < Wa.heap.size := (Array.getElem?_eq_some_iff.1 hl).1
      refine ⟨_, run_beginRound hl (by rw [hrec]), ?_⟩
      have hl2 : (Wa.putObj (w.heap.size + 1) (.loop { rec .ready none with state := .busy })).heap[w.heap.size + 1]? = some (.loop { rec .ready none with state := .busy }) := World.putObj_heap_same hlt
      have hK2 : (Wa.putObj (w.heap.size + 1) (.loop { rec .ready none with state := .busy })).heap[w.heap.size]? = some (.deferred (some [])) := (World.putObj_heap_other (by omega)).trans hK
      refine wpIn_mono (hbody _ k a' _ hk ((hM k a').put hm _ (by omega) hl rfl)) ?_
      rintro e a3 W3 ⟨rfl, hk3, hj3⟩
      have hl3 := hk3.same _ _ (by omega) hl2 rfl
      have hK3 := hk3.same _ _ (Nat.le_refl _) hK2 rfl
      have hend := run_endRound (P := P) none hl3
      rw [hrec] at hend
      refine ⟨_, _, hend, rfl, (hJ _ _).put hj3 _ (by omega) hl3 rfl, ?_, (World.putObj_heap_other (by omega)).trans hK3⟩
      rw [hrec]
      exact World.putObj_heap_same (Array.getElem?_eq_some_iff.1 hl3).1
    · rintro e W2 ⟨⟨v, rfl⟩, hj, hl, hK⟩
      exact ⟨none, _, by have := run_endLoop (P := P) hl (by rw [hrec]; simp); rw [hrec] at this; exact this, hdone _ _ (Nat.le_refl _) ((hJ _ _).put hj _ (by omega) hl rfl) ((World.putObj_heap_other (by omega)).trans hK)⟩
end Go.Proofs.Ytmoafjgogbcoeaa
