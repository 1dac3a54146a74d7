/- ctc.Tick by its contract: the four counters, one by one, through a method value each. -/
import Derived.Test.YtmoafjgogbcoeaaCtcBox
import Derived.LoopIn
import Derived.Deep.RegionHeld3
namespace Go.Proofs.Ytmoafjgogbcoeaa
open Go.RowKit
set_option linter.unusedVariables false
set_option linter.unusedSimpArgs false
set_option maxRecDepth 100000

def M.E4.set (e : M.E4) (b : Bool) : Nat → M.E4
  | 0 => { e with e0 := b }
  | 1 => { e with e1 := b }
  | 2 => { e with e2 := b }
  | _ => { e with e3 := b }
def M.stepC (c : M.Ct) (e : M.E4) : Nat → M.Ct
  | 0 => c
  | k + 1 => (M.stepC c e k).set (M.tickX ((M.stepC c e k).at k) (e.at k)) k
def M.stepE (c : M.Ct) (e : M.E4) : Nat → M.E4
  | 0 => ⟨false, false, false, false⟩
  | k + 1 => (M.stepE c e k).set (M.tickZ ((M.stepC c e k).at k) (e.at k)) k
theorem stepC_ok {c : M.Ct} {e : M.E4} (hc : c.ok) (k : Nat) : (M.stepC c e k).ok := by
  induction k with
  | zero => exact hc
  | succ k ih => exact M.set_ok ih (M.tick_ok (M.at_ok ih k)) k
theorem stepC_four (c : M.Ct) (e : M.E4) : M.stepC c e 4 = M.tickC c e := rfl
theorem stepE_four (c : M.Ct) (e : M.E4) : M.stepE c e 4 = M.tickE c e := rfl
theorem e4_cell {W : World} {B : Nat} {e : M.E4} (h : W.rangeAt B 0 e.a.toList) (k : Nat) (hk : k < 4) : W.cell? ⟨B, k, none⟩ = some (.bool (e.at k)) := by
  rcases (show k = 0 ∨ k = 1 ∨ k = 2 ∨ k = 3 by omega) with rfl | rfl | rfl | rfl
  · exact h 0 _ rfl
  · exact h 1 _ rfl
  · exact h 2 _ rfl
  · exact h 3 _ rfl
theorem e4_set {W : World} {B : Nat} {e : M.E4} (h : W.rangeAt B 0 e.a.toList) (k : Nat) (hk : k < 4) (b : Bool) : (W.setCell ⟨B, k, none⟩ (.bool b)).rangeAt B 0 (e.set b k).a.toList := by
  have hs := World.cell?_setCell_same W ⟨B, k, none⟩ (.bool b) (e4_cell h k hk)
  have ho : ∀ j, j < 4 → j ≠ k → (W.setCell ⟨B, k, none⟩ (.bool b)).cell? ⟨B, j, none⟩ = some (.bool (e.at j)) := fun j hj hn => by
    rw [World.cell?_setCell_other _ _ _ _ (fun x => hn (by injection x with _ x2 _; exact x2.symm))]
    exact e4_cell h j hj
  intro j v hv
  rw [Nat.zero_add]
  rcases j with _ | _ | _ | _ | j
  all_goals rcases (show k = 0 ∨ k = 1 ∨ k = 2 ∨ k = 3 by omega) with rfl | rfl | rfl | rfl
  all_goals simp [M.E4.a, M.E4.v, M.E4.set] at hv
  all_goals subst hv
  all_goals first | exact hs | exact ho _ (by omega) (by omega)
structure TI (w W : World) (H : Nat) (c : M.Ct) (e o : M.E4) : Prop where
  box : CtAt W H c
  edges : W.rangeAt (H + 1) 0 e.a.toList
  out : W.rangeAt (H + 1 + 1 + 1 + 1) 0 o.a.toList
  outf : W.there (H + 1 + 1 + 1 + 1) 0 4
  res1 : W.there (H + 1 + 1) 0 33
  res2 : W.there (H + 1 + 1 + 1) 0 4
  size : H + 5 ≤ W.heap.size
  below : Below H w W
theorem TI.tick {w W W' : World} {H : Nat} {c c' : M.Ct} {e o : M.E4} (h : TI w W H c e o) (hc : CtAt W' H c') (ht : Touch H 0 33 W W') : TI w W' H c' e o :=
  ⟨hc, ht.range (by have := h.size; omega) h.edges (.inl (by omega)), ht.range (by have := h.size; omega) h.out (.inl (by omega)), there_touch h.outf ht (by have := h.size; omega) (by omega), there_touch h.res1 ht (by have := h.size; omega) (by omega),
   there_touch h.res2 ht (by have := h.size; omega) (by omega), Nat.le_trans h.size ht.size, ht.below _ _ (Nat.le_refl _) (by have := h.size; omega) h.below⟩
theorem TI.set {w W : World} {H : Nat} {c : M.Ct} {e o : M.E4} (h : TI w W H c e o) (k : Nat) (hk : k < 4) (b : Bool) : TI w (W.setCell ⟨H + 1 + 1 + 1 + 1, k, none⟩ (.bool b)) H c e (o.set b k) :=
  ⟨⟨range_set h.box.1 _ _ (by show H + 1 + 1 + 1 + 1 ≠ H; omega), fun j hj => by rw [World.frozen?_setCell]; exact h.box.2.1 j hj, by have := h.size; simp; omega⟩, range_set h.edges _ _ (by show H + 1 + 1 + 1 + 1 ≠ H + 1; omega), e4_set h.out k hk b, there_set h.outf _ _, there_set h.res1 _ _, there_set h.res2 _ _,
   by have := h.size; simpa using this, h.below.setCell (p := ⟨H + 1 + 1 + 1 + 1, k, none⟩) (by show H ≤ H + 1 + 1 + 1 + 1; omega) _⟩
theorem TI.store {w W : World} {H b : Nat} {c : M.Ct} {e o : M.E4} (h : TI w W H c e o) (hb : b = H + 1 + 1 ∨ b = H + 1 + 1 + 1) (vs : List Value) : TI w (W.setCells b 0 vs) H c e o :=
  have hs := h.size
  have ht := touch_setCells W b 0 vs
  ⟨h.box.touch ht (by omega), ht.range (by omega) h.edges (.inl (by omega)), ht.range (by omega) h.out (.inl (by omega)), World.there_setCells h.outf _ _ _, World.there_setCells h.res1 _ _ _, World.there_setCells h.res2 _ _ _,
   Nat.le_trans hs ht.size, ht.below _ _ (by omega) (by omega) h.below⟩
theorem TI.drew {w W : World} {H : Nat} {c : M.Ct} {e o : M.E4} (h : TI w W H c e o) : TI w W.drew H c e o :=
  ⟨h.box.drew, range_drew h.edges, range_drew h.out, there_drewA h.outf, there_drewA h.res1, there_drewA h.res2, h.size, h.below.drew⟩
theorem zero58 : ∃ Z : Array Value, Z = (M.E4.mk false false false false).a ∧ ∀ w : World, (zeroValue 58).run Try.prog w = .ok (.agg Z) w := ⟨_, rfl, fun w => Try.zeroValue58 w⟩
set_option maxHeartbeats 1000000 in
theorem ctick_all (c : M.Ct) (hc : c.ok) (e : M.E4) (w : World) : Calls Try.prog 36 #[.agg c.a, .agg e.a] w fun e' w' => e' = .returned (.tuple #[.agg (M.tickC c e).a, .agg (M.tickE c e).a]) ∧ Below w.heap.size w w' := by
  obtain ⟨Z, hZs, hZ'⟩ := zero47
  obtain ⟨Y, hYs, hY'⟩ := zero58
  have hZ := Lib.hid hZ'
  have hY := Lib.hid hY'
  have hYs' := Lib.hid hYs
  clear hZ' hY' hYs
  have hs0 := ct_size c
  have hs1 := e4_size e
  have hmf : ∀ (fn : Fn) (first cap : Array Value) (w : World), (Instr.makeFunc fn first cap).run Try.prog w = .ok (.func fn first cap) w := fun _ _ _ _ => rfl
  go_enter Try.func36, Try.ntmps36
  go_wp2_with (first
    | ((with_reducible refine is_allocT 47 rfl ?_); refine wpList_alloc_row rfl _ rfl Z hZ.out ?_)
    | ((with_reducible refine is_allocT 58 rfl ?_); refine wpList_alloc_row rfl _ rfl Y hY.out ?_))
  have hstart : TI w (((((w.alloc (.cells c.a 47)).alloc (.cells e.a 58)).alloc (.cells Z 47)).alloc (.cells Y 58)).alloc (.cells Y 58)) w.heap.size c e ⟨false, false, false, false⟩ := by
    refine ⟨((((ct_new _ _ _).alloc _).alloc _).alloc _).alloc _, range_alloc (range_alloc (range_alloc (range_newB _ _ _ (by simp)) _) _) _, ?_, ?_, ?_, ?_, by simp, by go_grown⟩
    · rw [hYs'.out]; exact range_newB _ _ _ (by simp)
    · exact there_newB _ _ _ _ (by simp) (by rw [hYs'.out]; exact Nat.le_refl _)
    · exact there_allocA (there_allocA (there_newB _ _ _ _ (by simp) (by omega)) _) _
    · exact there_allocA (there_newB _ _ _ _ (by simp) (by rw [hYs'.out]; exact Nat.le_refl _)) _
  go_loopw [9] (fun i wr => ∃ k : Nat, k ≤ 4 ∧ i = .int .i64 k ∧ TI w wr w.heap.size (M.stepC c e k) e (M.stepE c e k)) (fun i _ => 4 - (intOf i).toNat)
  case atStart => exact ⟨0, Nat.zero_le _, rfl, hstart⟩
  case round =>
    clear hstart
    obtain ⟨k, hk, rfl, hI⟩ := hrel
    by_cases hlt : k < 4
    · have ce := e4_cell hI.edges k hlt
      have hlt' : (k : Int) < 4 := by omega
      have hB := hI.size
      have hkk : k * 8 = 8 * k := Nat.mul_comm _ _
      go_wp2_with fail
      refine (ctick_at _ k hlt _ _ (stepC_ok hc k) _ hI.box).mono ?_
      rintro e1 w1 ⟨rfl, hc1, ht1⟩
      have hJ := hI.tick hc1 ht1
      have ce2 := e4_cell hJ.out k hlt
      have cf2 := (hJ.outf k hlt).2
      rw [Nat.zero_add] at cf2
      have hK := hJ.set k hlt (M.tickZ ((M.stepC c e k).at k) (e.at k))
      have hK' := Lib.hid hK
      clear hI hJ ce ht1 hc1 hK
      go_wp2_with fail
      go_round
      case rel => exact ⟨k + 1, by omega, by simp, hK'.out⟩
      case measure => simp [intOf]; omega
    · have : k = 4 := by omega
      subst this
      rw [stepC_four, stepE_four] at hI
      obtain ⟨C, hC⟩ : ∃ C, C = M.tickC c e := ⟨_, rfl⟩
      obtain ⟨E, hE⟩ : ∃ E, E = M.tickE c e := ⟨_, rfl⟩
      rw [← hC, ← hE] at hI
      have hC' := Lib.hid hC
      have hE' := Lib.hid hE
      clear hC hE
      have hI' := Lib.hid hI
      have hB := hI.size
      clear hI
      go_wp2_with fail
      refine wp_region_held_drew (S := fun W => TI w W w.heap.size C e E) (by kernel_rfl) hI'.out.drew ?_
      intro hS
      refine wpAnyH_take (i := 0) rfl (by kernel_rfl) (by kernel_rfl) (by kernel_rfl) (fun _ _ _ h => h) (yieldsIf_load_mid (by rfl) _ _ rfl _ _ rfl _ _ (fun W hW => hW.box.1) Try.underlying47 rfl (info47c _)) hS ?_
      try simp only [Act.put, List.setIfInBounds_toArray, List.set_cons_zero, List.set_cons_succ, List.getElem_toArray, List.getElem_cons_succ, List.getElem_cons_zero]
      refine wpAnyH_take (i := 1) rfl (by kernel_rfl) (by kernel_rfl) (by kernel_rfl) (fun _ _ _ h => h) (yieldsIf_load_mid (by rfl) _ _ rfl _ _ rfl _ _ (fun W hW => hW.out) Try.underlying58 rfl (info58c _)) hS ?_
      try simp only [Act.put, List.setIfInBounds_toArray, List.set_cons_zero, List.set_cons_succ, List.getElem_toArray, List.getElem_cons_succ, List.getElem_cons_zero]
      refine wpAnyH_ready (rs := [2]) (by kernel_rfl) (by simp) (AllReadyH.cons rfl ?_ AllReadyH.nil)
      intro K1 hK1
      rw [if_pos (by rfl)]
      try simp only [Act.put, List.setIfInBounds_toArray, List.set_cons_zero, List.set_cons_succ, List.getElem_toArray, List.getElem_cons_succ, List.getElem_cons_zero]
      with_reducible refine wp_store_mid ?g01 ?g02 ?g03 ?g04 ?g05 ?g06 C.a ?g1 ?g2 ?g3 ?g4 ?g5 ?_
      case g04 => with_reducible rfl
      case g1 => rfl
      case g2 => rfl
      case g3 => (rw [ct_size]; exact hS.res1)
      case g4 => exact info47c _
      case g5 => exact ct_one _
      try simp only [Act.put, List.setIfInBounds_toArray, List.set_cons_zero, List.set_cons_succ, List.getElem_toArray, List.getElem_cons_succ, List.getElem_cons_zero]
      refine hK1.out _ _ (hS.store (.inl rfl) _) (fun hS1 => ?_)
      refine wpAnyH_ready (rs := [3]) (by kernel_rfl) (by simp) (AllReadyH.cons rfl ?_ AllReadyH.nil)
      intro K2 hK2
      rw [if_pos (by rfl)]
      try simp only [Act.put, List.setIfInBounds_toArray, List.set_cons_zero, List.set_cons_succ, List.getElem_toArray, List.getElem_cons_succ, List.getElem_cons_zero]
      generalize hWW : wr.drew.setCells (w.heap.size + 1 + 1) 0 C.a.toList = WW at hS1 ⊢
      with_reducible refine wp_store_mid ?e01 ?e02 ?e03 ?e04 ?e05 ?e06 E.a ?e1 ?e2 ?e3 ?e4 ?e5 ?_
      case e04 => with_reducible rfl
      case e1 => rfl
      case e2 => rfl
      case e3 => (rw [e4_size]; exact hS1.res2)
      case e4 => exact info58c _
      case e5 => exact e4_one _
      try simp only [Act.put, List.setIfInBounds_toArray, List.set_cons_zero, List.set_cons_succ, List.getElem_toArray, List.getElem_cons_succ, List.getElem_cons_zero]
      refine hK2.out _ _ (hS1.store (.inr rfl) _) (fun hS2 => ?_)
      refine wpAnyH_done (by kernel_rfl) ?_ _
      try simp only [Act.put, List.setIfInBounds_toArray, List.set_cons_zero, List.set_cons_succ, List.getElem_toArray, List.getElem_cons_succ, List.getElem_cons_zero]
      subst hWW
      have r1 := World.rangeAt_setCells_same _ _ _ C.a.toList (by rw [Array.length_toList, ct_size]; exact hS.res1)
      have r2 := World.rangeAt_setCells_apart r1 (w.heap.size + 1 + 1 + 1) 0 E.a.toList (.inl (by omega))
      have r3 := World.rangeAt_setCells_same _ _ _ E.a.toList (by rw [Array.length_toList, e4_size]; exact hS1.res2)
      have r4 := hS2.below
      clear hS hS1 hS2 r1 hK1 hK2 hI'
      generalize (wr.drew.setCells (w.heap.size + 1 + 1) 0 C.a.toList).setCells (w.heap.size + 1 + 1 + 1) 0 E.a.toList = W2 at r2 r3 r4 ⊢
      have q2 := Lib.hid r2
      have q3 := Lib.hid r3
      clear r2 r3
      go_wp2_with fail
      refine bodyPost_ret (results_row_row rfl _ _ _ _ C.a _ rfl q2.out Try.underlying47 rfl (info47c _) _ _ E.a _ rfl q3.out Try.underlying58 rfl (info58c _)) rfl ?_
      exact ⟨by rw [hC'.out, hE'.out], r4⟩
end Go.Proofs.Ytmoafjgogbcoeaa
