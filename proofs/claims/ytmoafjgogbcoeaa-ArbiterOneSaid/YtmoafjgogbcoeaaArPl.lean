/- The arbiter's Play, by its contract. -/
import Derived.Test.YtmoafjgogbcoeaaArP
import Derived.Test.YtmoafjgogbcoeaaArR
namespace Go.Proofs.Ytmoafjgogbcoeaa
open Go.RowKit Go.Shelf
attribute [local go_sem] Oper.semAt_some
set_option linter.unusedVariables false
set_option linter.unusedSimpArgs false
set_option maxRecDepth 100000
/-- What the call holds between two steps: i states have been told, j have been taken. -/
structure PlAt (w0 : World) (m o : Int) (LL : List (List Bool)) (B : List Bool) (A1 : Option Addr) (n1 c1 : Nat) (A2 : Option Addr) (c2 : Nat) (i j : Nat) (W : World) : Prop where
  bs : W.heap[w0.heap.size + 2]? = some (.cells #[.int .i64 m, .int .i64 (M.arO m o LL B i)] 23 (0, 0))
  box : ∃ v, W.heap[w0.heap.size + 1]? = some (.cells #[v] 37 (0, 0)) ∧ W.ownsRow w0.heap.size 3 1 v j (ints .i64 (M.arOs m o LL B j))
  ba : W.heap[w0.heap.size + 3]? = some (.cells #[.slice A1 n1 c1] 36 (0, 0))
  bm : W.heap[w0.heap.size + 4]? = some (.cells #[.slice A2 B.length c2] 24 (0, 0))
  below : Below w0.heap.size w0 W
theorem own_not_cells {W : World} {base k : Nat} {e : TypeId} {size : Nat} {v : Value} {xs : List Value} (h : W.ownsRow base e size v k xs) {j : Nat} {o : Obj} (hj : W.heap[j]? = some o) (hno : ∀ cur, o ≠ .cells cur e (0, 0)) :
    v.ownBlock = none ∨ v.ownBlock ≠ some j := by
  rcases h.2 with ⟨rfl, _⟩ | ⟨g, cap, cur, rfl, _, hgb, _⟩
  · exact .inl rfl
  · refine .inr fun e' => ?_
    have : g = j := by simpa [Value.ownBlock] using e'
    subst this; rw [hgb] at hj; cases hj; exact hno cur rfl
theorem own_ne {W : World} {base k : Nat} {e : TypeId} {size : Nat} {v : Value} {xs : List Value} (h : W.ownsRow base e size v k xs) {j : Nat} {o : Obj} (hj : W.heap[j]? = some o) (hno : ∀ cur, o ≠ .cells cur e (0, 0)) : some j ≠ v.ownBlock := by
  rcases own_not_cells h hj hno with e | e
  · rw [e]; simp
  · exact fun e' => e e'.symm
theorem not_cells {o : Obj} (h : o.isCells = false) (c : Array Value) (t : TypeId) (f : Nat × Nat) : o ≠ .cells c t f := fun e => by rw [e] at h; cases h
theorem PlAt.abides (w0 : World) (m o : Int) (LL : List (List Bool)) (B : List Bool) (A1 : Option Addr) (n1 c1 : Nat) (A2 : Option Addr) (c2 : Nat) (i j h : Nat) (hh : w0.heap.size ≤ h) : Abides h (PlAt w0 m o LL B A1 n1 c1 A2 c2 i j) := by
  intro W W' row hw hg hr
  have keep : ∀ {k : Nat} {c : Array Value} {t : TypeId}, W.heap[k]? = some (.cells c t (0, 0)) → W'.heap[k]? = some (.cells c t (0, 0)) := fun {k c t} hk =>
    (hg.block k (Array.getElem?_eq_some_iff.1 hk).1 (fun e => by obtain ⟨_, o, ho, hc⟩ := hr k e.symm; rw [hk] at ho; cases ho; cases hc)).trans hk
  obtain ⟨v, hv, hrow⟩ := hw.box
  refine ⟨keep hw.bs, ⟨v, keep hv, hrow.kept hg ?_⟩, keep hw.ba, keep hw.bm, hw.below.grown hg hw.below.size (fun k e => Nat.le_trans hh (hr k e).1)⟩
  rcases hrow.2 with ⟨rfl, _⟩ | ⟨g, cap, cur, rfl, _, hgb, _⟩
  · exact .inl rfl
  · refine .inr fun e' => ?_
    obtain ⟨_, o, ho, hc⟩ := hr g (by simpa [Value.ownBlock] using e'.symm)
    rw [hgb] at ho; cases ho; cases hc
theorem heap_setCell0 {W : World} {B : Nat} {c : Array Value} {t : TypeId} (q : Nat) (v : Value) (h : W.heap[B]? = some (.cells c t (0, 0))) : (W.setCell ⟨B, q, none⟩ v).heap[B]? = some (.cells (c.setIfInBounds q v) t (0, 0)) := by
  obtain ⟨hlt, hk⟩ := Array.getElem?_eq_some_iff.1 h
  show (W.heap.modify B _)[B]? = _
  rw [Array.getElem?_eq_getElem (by rw [Array.size_modify]; exact hlt), Array.getElem_modify_self, hk]
  rfl
theorem heap_setCells2 {W : World} {B : Nat} {x y a b : Value} {t : TypeId} (h : W.heap[B]? = some (.cells #[x, y] t (0, 0))) : (W.setCells B 0 [a, b]).heap[B]? = some (.cells #[a, b] t (0, 0)) :=
  heap_setCell0 1 b (heap_setCell0 0 a h)
theorem grown_setCell (W : World) (b q : Nat) (v : Value) : W.grownBy (W.setCell ⟨b, q, none⟩ v) (some b) :=
  ⟨rfl, rfl, rfl, by simp, fun k _ hk => Below.heap_setCell _ _ _ k (fun e => hk (by rw [e]))⟩
theorem PlAt.step {w0 : World} {m o : Int} {LL : List (List Bool)} {B : List Bool} {A1 : Option Addr} {n1 c1 : Nat} {A2 : Option Addr} {c2 : Nat} {i j : Nat} {W : World} (h : PlAt w0 m o LL B A1 n1 c1 A2 c2 i j W) :
    PlAt w0 m o LL B A1 n1 c1 A2 c2 (i + 1) j (W.setCells (w0.heap.size + 2) 0 [.int .i64 m, .int .i64 (M.arO m o LL B (i + 1))]) := by
  obtain ⟨v, hv, hrow⟩ := h.box
  have g1 := grown_setCell W (w0.heap.size + 2) 0 (.int .i64 m)
  have g2 := grown_setCell (W.setCell ⟨w0.heap.size + 2, 0, none⟩ (.int .i64 m)) (w0.heap.size + 2) 1 (.int .i64 (M.arO m o LL B (i + 1)))
  have r1 := hrow.kept g1 (own_not_cells hrow h.bs (fun cur e => by cases e))
  have r2 := r1.kept g2 (own_not_cells r1 (heap_setCell0 0 _ h.bs) (fun cur e => by cases e))
  exact ⟨heap_setCells2 h.bs, ⟨v, (setCells_other (by omega) _ _ _).trans hv, r2⟩, (setCells_other (by omega) _ _ _).trans h.ba, (setCells_other (by omega) _ _ _).trans h.bm,
    (h.below.grown g1 h.below.size (fun k e => by cases e; omega)).grown g2 (by have := h.below.size; simpa using this) (fun k e => by cases e; omega)⟩
theorem callF {f : FuncId} {fn : Func} {c : Code} (hf : Try.prog.funcs[f]? = some fn) (hname : (fn.name == "runtime.NumGoroutine") = false) (hb : fn.body = some c) (args : Array Value) (w : World) : (callFunc f args).run Try.prog w = .ok (.enter f args) w := by
  have h1 : fn.name ≠ "runtime.NumGoroutine" := by simpa using hname
  simp [callFunc, hf, h1, hb]
theorem range_of_heap {W : World} {b : Nat} {c : Array Value} {t : TypeId} (h : W.heap[b]? = some (.cells c t (0, 0))) : W.rangeAt b 0 c.toList := fun j v hv => by
  have hv' : c[j]? = some v := by simpa using hv
  simp [World.cell?, h, hv']
theorem frozen_of_heap {W : World} {b j : Nat} {c : Array Value} {t : TypeId} (h : W.heap[b]? = some (.cells c t (0, 0))) : W.frozen? ⟨b, j, none⟩ = false := by
  simp [World.frozen?, h]
theorem cell0_of_heap {W : World} {b : Nat} {v : Value} {t : TypeId} (h : W.heap[b]? = some (.cells #[v] t (0, 0))) : W.cell? ⟨b, 0, none⟩ = some v := range_of_heap h 0 v rfl
theorem own_ls {W : World} {base k : Nat} {e : TypeId} {v : Value} {xs : List Value} (h : W.ownsRow base e 1 v k xs) (hk : xs.length = k) : ∃ A c, v = .slice A k c ∧ Ls base W v xs := by
  rcases h.2 with ⟨rfl, rfl⟩ | ⟨g, cap, cur, rfl, hb, hg, h1, h2, h3, h4⟩
  · obtain rfl : xs = [] := List.eq_nil_of_length_eq_zero hk
    exact ⟨_, _, rfl, Ls.nil _ _ _ _ (Nat.zero_le _)⟩
  · refine ⟨_, _, rfl, Ls.mk' hk h1 h2 hb (Array.getElem?_eq_some_iff.1 hg).1 ?_⟩
    have := range_part (xs := []) (ys := cur.toList.take k) (zs := cur.toList.drop k) (by simpa using range_of_heap hg)
    rw [Nat.mul_one] at h4
    simpa [h4] using this
theorem infoI : (Try.prog.info? 3).map (fun i => (i.zero, i.size, i.bytes)) = some (some (.int .i64 0), 1, 8) := by kernel_rfl
set_option maxHeartbeats 4000000 in
theorem play_any (m o : Int) (hm : -9223372036854775808 ≤ m ∧ m ≤ 9223372036854775807) (LL : List (List Bool)) (B : List Bool) (A1 : Option Addr) (n1 c1 : Nat) (A2 : Option Addr) (c2 : Nat) (hB : B.length ≤ 10000) (w : World) (ra : N2 w A1 n1 c1 LL) (rm : Ls 0 w (.slice A2 B.length c2) (bls B)) :
    Calls Try.prog 25 #[stV m o, .slice A1 n1 c1, .slice A2 B.length c2] w fun e w' => ∃ A c, e = .returned (.slice A B.length c) ∧ Ls w.heap.size w' (.slice A B.length c) (ints .i64 (M.arOs m o LL B B.length)) ∧ Below w.heap.size w w' := by
  unfold stV
  refine (callsIn_wide (n := 4)).1 ?_
  refine callsIn_of_wp_marks Try.func25 rfl trivial ?_ rfl
  simp only [Try.ntmps25, List.size_toArray, List.length_cons, List.length_nil, Nat.reduceAdd, Nat.reduceSub, Array.replicate_succ, Array.replicate_zero, List.push_toArray, List.append_toArray, List.nil_append, List.cons_append]
  gi_wp2_with (refine ⟨trivial, (callsIn_wide.2 (states_any _ _ (.slice none 0 0) (.slice none 0 0) _ _ _ _ _ _ _)).mono ?_⟩; rintro e w' ⟨rfl, rfl⟩)
  obtain ⟨w5, hw5⟩ : ∃ w5, (((((w.alloc (.cells #[.int .i64 m, .int .i64 o] 23)).alloc (.cells #[.slice none 0 0] 37)).alloc (.cells #[.int .i64 m, .int .i64 o] 23)).alloc (.cells #[.slice A1 n1 c1] 36)).alloc (.cells #[.slice A2 B.length c2] 24)) = w5 := ⟨_, rfl⟩
  have hs5 : w5.heap.size = w.heap.size + 5 := by rw [← hw5]; simp
  have hb5 : Below w.heap.size w w5 := by
    rw [← hw5]
    refine Below.alloc (Below.alloc (Below.alloc (Below.alloc (Below.alloc (Below.refl _ _) ?_ _) ?_ _) ?_ _) ?_ _) ?_ _
    all_goals simp
    all_goals omega
  have new : ∀ (W : World) (ob : Obj) (k : Nat), k = W.heap.size → (W.alloc ob).heap[k]? = some ob := fun W ob k e => by rw [e]; exact World.alloc_heap_new W ob
  have old : ∀ (W : World) (ob ob' : Obj) (k : Nat), k < W.heap.size → W.heap[k]? = some ob' → (W.alloc ob).heap[k]? = some ob' := fun W ob ob' k hk h => (Below.heap_alloc W ob k hk).trans h
  have hP : PlAt w m o LL B A1 n1 c1 A2 c2 0 0 w5 := by
    refine ⟨?_, ⟨.slice none 0 0, ?_, rfl, .inl ⟨rfl, rfl⟩⟩, ?_, ?_, hb5⟩
    · rw [← hw5]
      exact old _ _ _ _ (by simp) (old _ _ _ _ (by simp) (new _ _ _ (by simp)))
    · rw [← hw5]
      exact old _ _ _ _ (by simp) (old _ _ _ _ (by simp) (old _ _ _ _ (by simp) (new _ _ _ (by simp))))
    · rw [← hw5]
      exact old _ _ _ _ (by simp) (new _ _ _ (by simp))
    · rw [← hw5]
      exact new _ _ _ (by simp)
  rw [hw5]
  clear new old hw5
  simp only [Nat.add_assoc, Nat.reduceAdd]
  have HP := Lib.hid hP
  refine range_own (n := 4) (gf := 78) (bs := w.heap.size + 2) (by omega) rfl (callF Try.func78 (by kernel_rfl) rfl) (PlAt w m o LL B A1 n1 c1 A2 c2)
    (fun k a W => PlAt w m o LL B A1 n1 c1 A2 c2 (k + 1) k W ∧ ∃ b, w.heap.size + 5 ≤ b ∧ W.heap[b]? = some (.cells #[.int .i64 m, .int .i64 (M.arO m o LL B (k + 1))] 23 (0, 0)) ∧
      a = { tmps := #[.agg #[.int .i64 m, .int .i64 o], .slice A1 n1 c1, .slice A2 B.length c2, .pointer (some ⟨w.heap.size, 0, none⟩), undef, undef, .slice none 0 0, .pointer (some ⟨w.heap.size + 1, 0, none⟩), .pointer (some ⟨b, 0, none⟩), .agg #[.int .i64 m, .int .i64 o], .slice A1 n1 c1, .slice A2 B.length c2, .func (.func 78) #[] #[.pointer (some ⟨w.heap.size + 4, 0, none⟩), .pointer (some ⟨w.heap.size + 2, 0, none⟩), .pointer (some ⟨w.heap.size + 3, 0, none⟩)], .agg #[.int .i64 m, .int .i64 (M.arO m o LL B (k + 1))], undef, undef, undef, undef, undef, undef], defers := [] })
    (fun i j => PlAt.abides w m o LL B A1 n1 c1 A2 c2 i j _ (by omega)) ?hM hP B.length (fun k => .agg #[.int .i64 m, .int .i64 (M.arO m o LL B k)]) (fun i => [.int .i64 m, .int .i64 (M.arO m o LL B (i + 1))]) rfl (by omega) (fun i j W h => h.step) ?hseq ?hassign ?hbody ?hdone
  case hM =>
    rintro k a W W' row ⟨h1, b, h2, h3, h4⟩ hg hr
    exact ⟨PlAt.abides w m o LL B A1 n1 c1 A2 c2 _ _ w5.heap.size (by omega) W W' row h1 hg hr, b, h2, (hg.block b (Array.getElem?_eq_some_iff.1 h3).1 (fun e => by obtain ⟨_, o', ho, hc⟩ := hr b e.symm; rw [h3] at ho; cases ho; cases hc)).trans h3, h4⟩
  case hseq =>
    intro l Jg W hsub hbel hst hy h0
    refine states1_in 3 l (w.heap.size + 2) (w.heap.size + 3) (w.heap.size + 4) m o (by omega) LL B A1 n1 c1 A2 c2 (by simp only [maxLen]; omega) hm Jg (fun i j W h => ?_) hbel hst hy W h0
    have h' := hsub i j W h
    have hr := range_of_heap h'.bs
    refine ⟨hr, there_of hr (fun j _ => frozen_of_heap h'.bs) (by simp), (Array.getElem?_eq_some_iff.1 h'.bs).1, cell0_of_heap h'.ba, cell0_of_heap h'.bm, ra.below h'.below, rm.below h'.below⟩
  case hassign =>
    intro l k W K hk hj hK
    clear HP hP
    simp only [List.zip_toArray, List.zip_cons_cons, List.zip_nil_right, List.foldl_toArray, List.foldl_cons, List.foldl_nil, List.setIfInBounds_toArray, List.set_cons_zero, List.set_cons_succ]
    gi_wp2
    have hlt : w.heap.size + 4 < W.heap.size := (Array.getElem?_eq_some_iff.1 hj.bm).1
    exact hK _ _ ((KeepsOthers.alloc W _).from _) ⟨(PlAt.abides w m o LL B A1 n1 c1 A2 c2 _ _ w.heap.size (Nat.le_refl _)).alloc hj _, W.heap.size, by omega, World.alloc_heap_new W _, rfl⟩
  case hbody =>
    rintro l k a' W hk ⟨hj, b, hb, hbox, rfl⟩
    clear HP hP
    obtain ⟨v, hv, hrow⟩ := hj.box
    obtain ⟨i0, hi0, hz0, hz1, hz2⟩ := info_get infoI
    have hc := cell0_of_heap hv
    have hf : W.frozen? ⟨w.heap.size + 1, 0, none⟩ = false := frozen_of_heap hv
    have hx : W.cell? ⟨b, 1, none⟩ = some (.int .i64 (M.arO m o LL B (k + 1))) := range_of_heap hbox 1 _ rfl
    have hlt : w.heap.size + 1 < W.heap.size := (Array.getElem?_eq_some_iff.1 hv).1
    have HJ := Lib.hid hj
    have HS := Lib.hid (M.arOs_succ m o LL B k)
    have HX := Lib.hid hbox
    have HR := Lib.hid hrow
    have HV := Lib.hid hv
    generalize M.arO m o LL B (k + 1) = x at hx HS
    have HNE := Lib.hid (fun (j : Nat) (o : Obj) (hj : W.heap[j]? = some o) (hno : ∀ cur, o ≠ .cells cur 3 (0, 0)) => own_ne hrow hj hno)
    clear hj hbox hrow hv
    gi_wp2_with (gi_at_builtin; refine wpListIn_append_own _ rfl _ _ 37 rfl w.heap.size 3 i0 (.int .i64 0) 1 8 Try.underlying37 hi0 hz0 hz1 hz2 rfl (by decide) _ _ _ rfl (HR.out.alloc _) ⟨W.heap.size, 0, none⟩ 1 1 [.int .i64 x] rfl rfl (cell_one_new _ _ _) (by simp [Value.oneCell']) (by simp only [maxLen]; omega) (by omega) (by simp; omega) ?_; intro v' w3 hown' hg3 hnil3
                 clear hnil3
                 replace hg3 : (W.alloc (Obj.cells #[.int .i64 x] 3)).grownBy w3 v.ownBlock := hg3
                 have hv3 := (hg3.block _ (by simp; omega) (HNE.out _ _ HV.out (fun cur e => by cases e))).trans ((Below.heap_alloc _ _ _ hlt).trans HV.out)
                 have hc3 := cell0_of_heap hv3
                 have hf3 : w3.frozen? ⟨w.heap.size + 1, 0, none⟩ = false := frozen_of_heap hv3
                 have HV3 := Lib.hid hv3
                 have HO3 := Lib.hid hown'
                 have HG3 := Lib.hid hg3
                 obtain ⟨g', cap', rfl⟩ : ∃ g' cap', v' = .slice (some ⟨g', 0, none⟩) (k + 1) cap' := by
                   rcases hown'.2 with ⟨_, h0⟩ | ⟨g, cap, _, h', _⟩
                   · exact absurd h0 (by omega)
                   · exact ⟨g, cap, h'⟩
                 clear hv3 hown' hg3)
    have hj := HJ.out
    have h3 : ∀ {q : Nat} {c : Array Value} {t : TypeId}, t ≠ 3 → q ≠ w.heap.size + 1 → W.heap[q]? = some (.cells c t (0, 0)) → (w3.setCell ⟨w.heap.size + 1, 0, none⟩ (.slice (some ⟨g', 0, none⟩) (k + 1) cap')).heap[q]? = some (.cells c t (0, 0)) := fun {q c t} ht hq h =>
      (Below.heap_setCell w3 ⟨w.heap.size + 1, 0, none⟩ _ q hq).trans ((HG3.out.block q (by simp; have := (Array.getElem?_eq_some_iff.1 h).1; omega) (HNE.out _ _ h (fun cur e => by cases e; exact ht rfl))).trans ((Below.heap_alloc _ _ _ (Array.getElem?_eq_some_iff.1 h).1).trans h))
    have hbl : Below w.heap.size w w3 := (hj.below.alloc hj.below.size _).grown HG3.out (by have := hj.below.size; simp; omega) (fun q e => (HR.out.lt q e).1)
    refine ⟨(((KeepsOthers.alloc W _).trans (KeepsOthers.of_grownBy HG3.out ?_)).trans (KeepsOthers.setCell _ _ _)).from _, ?_⟩
    · intro q o' hq ho
      rcases (HR.out.alloc (.cells #[.int .i64 x] 3)).2 with ⟨e, _⟩ | ⟨g, cap, cur, e, _, hgb, _⟩
      · rw [e] at hq; cases hq
      · rw [e] at hq
        have : g = q := by simpa [Value.ownBlock] using hq
        subst this
        rw [hgb] at ho
        cases ho
        rfl
    · refine ⟨h3 (by decide) (by omega) hj.bs, ⟨_, heap_setCell0 0 _ HV3.out, ?_⟩, h3 (by decide) (by omega) hj.ba, h3 (by decide) (by omega) hj.bm, hbl.grown (grown_setCell _ _ _ _) hbl.size (fun q e => by cases e; omega)⟩
      have := HO3.out.kept (grown_setCell w3 (w.heap.size + 1) 0 (.slice (some ⟨g', 0, none⟩) (k + 1) cap')) (own_not_cells HO3.out HV3.out (fun cur e => by cases e))
      rw [HS.out, ints_append]
      exact this
  case hdone =>
    intro D W hD hj hK
    clear HP hP
    obtain ⟨v, hv, hrow⟩ := hj.box
    have hc := cell0_of_heap hv
    have HR := Lib.hid hrow
    have HB := Lib.hid hj.below
    clear hrow hj hv
    gi_wp2
    refine ⟨by simp, .inl ⟨_, _, rfl, run_takeDeferred hK, ?_⟩⟩
    have hr := HR.out.kept (grown_put W D (.deferred none)) (own_not_cells HR.out hK (fun cur e => by cases e))
    obtain ⟨A, c, rfl, hls⟩ := own_ls hr (by simp [ints, M.arOs_len])
    exact ⟨_, results_tmp rfl _ _ _, A, c, rfl, hls, HB.out.grown (grown_put _ _ _) HB.out.size (fun q e => by cases e; omega)⟩
end Go.Proofs.Ytmoafjgogbcoeaa
