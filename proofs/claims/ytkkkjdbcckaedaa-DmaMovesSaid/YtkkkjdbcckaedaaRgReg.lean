/- A region whose steps come in whatever order, by an invariant; a map literal as a function from keys. Nothing of the program. -/
import Derived.Test.YtkkkjdbcckaedaaZSl
import Derived.Test.YtkkkjdbcckaedaaMaps
import Derived.Deep.RegionHeld3
namespace Go.Proofs.Ytkkkjdbcckaedaa
open Go.RowKit
set_option linter.unusedVariables false
set_option linter.unusedSimpArgs false
section
variable {P : Program} {md : Region.Mode} {ops : Array Oper} {Q : Exit → Act → World → Prop} {S : World → Prop}
theorem phase_inv {α : Type} (L : α → Array Bool) (A : α → Act) (Inv : α → World → Prop) (N : α → Nat) (n0 : Nat)
    (hnil : ∀ x, Region.ready md ops (L x) = [] → False)
    (hstep : ∀ x W i, Inv x W → i ∈ Region.ready md ops (L x) → N x ≠ 0 → wpOp P ops Q i (fun a' w' => S w' ∧ ∃ x', (L x).setIfInBounds i true = L x' ∧ a' = A x' ∧ Inv x' w' ∧ N x = N x' + 1) (A x) W)
    (hend : ∀ x W, Inv x W → N x = 0 → wpAnyH P md ops Q S n0 (L x) (A x) W) :
    ∀ n x W, N x = n → Inv x W → wpAnyH P md ops Q S (n + n0) (L x) (A x) W := by
  intro n
  induction n with
  | zero => intro x W hN hI; rw [Nat.zero_add]; exact hend x W hI hN
  | succ n ih =>
    intro x W hN hI
    rw [show n + 1 + n0 = (n + n0) + 1 by omega]
    refine ⟨fun h => (hnil x h).elim, fun i hi => wpOp_mono (fun a' w' h => ?_) (hstep x W i hI hi (by omega))⟩
    obtain ⟨hs, x', e1, rfl, hI', hN'⟩ := h
    refine ⟨hs, ?_⟩
    rw [e1]
    exact ih x' w' (by omega) hI'
theorem phase_from {α : Type} (L : α → Array Bool) (A : α → Act) (Inv : α → World → Prop) (N : α → Nat) (n0 n : Nat) (x0 : α)
    (hnil : ∀ x, Region.ready md ops (L x) = [] → False)
    (hstep : ∀ x W i, Inv x W → i ∈ Region.ready md ops (L x) → N x ≠ 0 → wpOp P ops Q i (fun a' w' => S w' ∧ ∃ x', (L x).setIfInBounds i true = L x' ∧ a' = A x' ∧ Inv x' w' ∧ N x = N x' + 1) (A x) W)
    (hend : ∀ x W, Inv x W → N x = 0 → wpAnyH P md ops Q S n0 (L x) (A x) W) {fuel : Nat} {l : Array Bool} {a : Act} {W : World} (hf : fuel = n + n0) (hl : l = L x0) (ha : a = A x0) (hn : N x0 = n) (hI : Inv x0 W) :
    wpAnyH P md ops Q S fuel l a W := by
  subst hf hl ha
  exact phase_inv L A Inv N n0 hnil hstep hend n x0 W hn hI
theorem dep_of {j : Nat} {o : Oper} {listed : Array Bool} (ho : ops[j]? = some o) (h : j ∈ Region.ready md ops listed) (e : Edge) (he : e ∈ o.after) (hb : Region.binds md e = true) : listed.getD e.on false = true := by
  obtain ⟨_, o', ho', hall⟩ := mem_ready.1 h
  rw [ho] at ho'
  obtain rfl := Option.some.inj ho'
  exact hall e he hb
/-- Where nothing is ready all is listed, if each waits for earlier ones alone. -/
theorem ready_nil {listed : Array Bool} (hb : ∀ (j : Nat) (o : Oper), ops[j]? = some o → ∀ e ∈ o.after, e.on < j) (h : Region.ready md ops listed = []) : ∀ j, j < ops.size → listed.getD j true = true := by
  intro j
  induction j using Nat.strongRecOn with
  | _ j ih =>
    intro hj
    refine Decidable.byContradiction fun hn => ?_
    have hf : listed.getD j true = false := by simpa using hn
    have hjl : j < listed.size := by
      refine Decidable.byContradiction fun hge => ?_
      rw [Array.getD, dif_neg hge] at hf
      cases hf
    have hm : j ∈ Region.ready md ops listed := mem_ready.2 ⟨hf, ops[j], Array.getElem?_eq_getElem hj, fun e he hbd => by
      have hlt := hb j _ (Array.getElem?_eq_getElem hj) e he
      have := ih e.on hlt (by omega)
      have hel : e.on < listed.size := by omega
      rw [Array.getD, dif_pos hel] at this ⊢
      exact this⟩
    rw [h] at hm
    cases hm
theorem back_of (h : (ops.toList.zipIdx.all fun x => x.1.after.toList.all fun e => decide (e.on < x.2)) = true) : ∀ (j : Nat) (o : Oper), ops[j]? = some o → ∀ e ∈ o.after, e.on < j := by
  intro j o ho e he
  rw [List.all_eq_true] at h
  have := h (o, j) (by rw [List.mem_zipIdx_iff_getElem?]; simpa using ho)
  rw [List.all_eq_true] at this
  simpa using this e (by simpa using he)
end
/-! ### a map as a function from keys -/
def FindOk (es : Array MapEntry) (M : Int → Option Value) : Prop := ∀ n, (∀ v, M n = some v → ∃ i, Instr.findNow (.int .i64) (.int .i64 n) es.toList 0 = some (some (i, v))) ∧ (M n = none → Instr.findNow (.int .i64) (.int .i64 n) es.toList 0 = some none)
theorem find_snoc (n k : Int) (v : Value) (c : Nat) : ∀ (l : List MapEntry) (i : Nat), (∀ r, Instr.findNow (.int .i64) (.int .i64 n) l i = some (some r) → Instr.findNow (.int .i64) (.int .i64 n) (l ++ [{ key := .int .i64 k, val := v, born := c }]) i = some (some r)) ∧
    (Instr.findNow (.int .i64) (.int .i64 n) l i = some none → Instr.findNow (.int .i64) (.int .i64 n) (l ++ [{ key := .int .i64 k, val := v, born := c }]) i = if n = k then some (some (i + l.length, v)) else some none)
  | [], i => by
    refine ⟨fun r h => by simp [Instr.findNow] at h, fun _ => ?_⟩
    by_cases e : n = k
    · subst e; simp [Instr.findNow, Instr.sameNow]
    · have e' : (n == k) = false := by simpa using e
      simp [Instr.findNow, Instr.sameNow, e, e']
  | x :: l, i => by
    have ih := find_snoc n k v c l (i + 1)
    simp only [List.cons_append, Instr.findNow, List.length_cons]
    cases Instr.sameNow (.int .i64) (.int .i64 n) x.key with
    | none => exact ⟨fun r h => by simp at h, fun h => by simp at h⟩
    | some t =>
      cases t with
      | true => exact ⟨fun r h => h, fun h => by simp at h⟩
      | false =>
        refine ⟨ih.1, fun h => ?_⟩
        rw [show i + (l.length + 1) = i + 1 + l.length by omega]
        exact ih.2 h
theorem FindOk.push {es : Array MapEntry} {M : Int → Option Value} (h : FindOk es M) (k : Int) (v : Value) (c : Nat) (hk : M k = none) : FindOk (es.push { key := .int .i64 k, val := v, born := c }) (fun n => if n = k then some v else M n) := by
  intro n
  have hs := find_snoc n k v c es.toList 0
  simp only [Array.toList_push]
  by_cases e : n = k
  · subst e
    simp only [if_true]
    refine ⟨fun u hu => ?_, fun hu => by simp at hu⟩
    have := hs.2 ((h n).2 hk)
    rw [if_pos rfl] at this
    cases hu
    exact ⟨_, this⟩
  · simp only [e, if_false]
    refine ⟨fun u hu => ?_, fun hu => ?_⟩
    · obtain ⟨i, hi⟩ := (h n).1 u hu
      exact ⟨i, hs.1 _ hi⟩
    · have := hs.2 ((h n).2 hu)
      rwa [if_neg e] at this
/-- Block m is a map that holds M. -/
def Mp (W : World) (m : Nat) (M : Int → Option Value) : Prop := ∃ es clock, W.heap[m]? = some (.map es clock) ∧ FindOk es M
theorem Mp.congr {W : World} {m : Nat} {M M' : Int → Option Value} (h : Mp W m M) (e : ∀ n, M n = M' n) : Mp W m M' := by
  obtain ⟨es, c, h1, h2⟩ := h
  exact ⟨es, c, h1, fun n => by rw [← e n]; exact h2 n⟩
theorem Mp.lt {W : World} {m : Nat} {M : Int → Option Value} (h : Mp W m M) : m < W.heap.size := by
  obtain ⟨es, c, h1, _⟩ := h
  exact (Array.getElem?_eq_some_iff.mp h1).1
theorem Mp.alloc {W : World} {m : Nat} {M : Int → Option Value} (h : Mp W m M) (o : Obj) : Mp (W.alloc o) m M := by
  have hl := h.lt
  obtain ⟨es, c, h1, h2⟩ := h
  exact ⟨es, c, (heap_alloc_old W o hl).trans h1, h2⟩
/-- Every cell that is there reads as before. -/
def Keep (W W' : World) : Prop := ∀ p v, W.cell? p = some v → W'.cell? p = some v
theorem keep_alloc (W : World) (o : Obj) : Keep W (W.alloc o) := fun p v h => World.cell?_of_block (heap_alloc_old W o (World.block_lt_of_cell? W p h)) |>.trans h
theorem keep_map {W W' : World} {m c : Nat} {es : Array MapEntry} (h : W.heap[m]? = some (.map es c)) (g : W.grownBy W' (some m)) : Keep W W' := fun p v hv => g.cell hv (fun e => by
  have e' : p.block = m := by simpa using e
  rw [World.cell?, e', h] at hv
  cases hv)
section
variable {P : Program} {o : Oper} {a : Act} {w : World} {K : Act → World → Prop} {Q : Exit → Act → World → Prop}
theorem wp_mkmap_op {t : TypeId} (ho : o.op = .makeMap t none) (h : K (a.put o.dst (.map (some w.heap.size))) (w.alloc (.map #[] 0))) : o.wp P a w K Q := by
  unfold Oper.wp execOp
  simp only [ho, run_makeMap, Sem.run_bind, Sem.run_pure, Result.andThen_ok]
  exact h
theorem wp_insert_op {m x v : Operand} {t : TypeId} (hop : o.op = Op.insert t m x v) (k e : TypeId) (ht : P.underlying t = some (.map k e)) (hk : P.underlying k = some (.int .i64)) {b : Nat} {M : Int → Option Value}
    (hm : a.eval m = .map (some b)) (hb : Mp w b M) (n : Int) (val : Value) (hx : a.eval x = .int .i64 n) (hv : a.eval v = val) (hn : M n = none)
    (hK : ∀ w', Mp w' b (fun j => if j = n then some val else M j) → Keep w w' → w.grownBy w' (some b) → (∃ es c es' c', w.heap[b]? = some (.map es c) ∧ w'.heap[b]? = some (.map es' c')) → K (a.put o.dst undef) w') : o.wp P a w K Q := by
  obtain ⟨es, clock, h1, h2⟩ := hb
  have hrun := run_insert w t k e .i64 b clock es n val ht hk h1 ((h2 n).2 hn)
  unfold Oper.wp
  simp only [execOp, hop, hm, hx, hv, hrun, Sem.run_bind, Result.andThen_ok, Sem.run_pure]
  have hl := lay_map (clock' := clock + 1) (es' := es.push { key := .int .i64 n, val := val, born := clock }) h1
  exact hK _ ⟨_, _, hl.1, h2.push n val clock hn⟩ (keep_map h1 hl.2) hl.2 ⟨_, _, _, _, h1, hl.1⟩
end
theorem touch_map {W W' : World} {m c c' : Nat} {es es' : Array MapEntry} (h : W.heap[m]? = some (.map es c)) (h' : W'.heap[m]? = some (.map es' c')) (g : W.grownBy W' (some m)) : Touch m 0 0 W W' := by
  have hm : m < W.heap.size := (Array.getElem?_eq_some_iff.mp h).1
  refine ⟨g.size, fun p hp _ => ?_, fun p hp => ?_, fun base A hb hs hA => hA.grown g hs (fun k hk => by cases hk; exact hb)⟩
  · by_cases e : p.block = m
    · simp [World.cell?, e, h, h']
    · exact World.cell?_of_block (g.block p.block hp (fun k => e (by simpa using k)))
  · by_cases e : p.block = m
    · simp [World.frozen?, e, h, h']
    · exact World.frozen?_of_block (g.block p.block hp (fun k => e (by simpa using k)))
section
variable {B o n : Nat} {w W W' : World} {es : List Ent}
theorem St.touch0 {m : Nat} (h : St B o n w es W) (ht : Touch m 0 0 W W') (hm : w.heap.size ≤ m) : St B o n w es W' :=
  ⟨h.touch.own ht (.inl hm), fun e he => by
    have g := h.good e he
    exact ⟨Nat.lt_of_lt_of_le g.lt ht.size, ht.range g.lt g.rng (.inr (.inr (Nat.zero_le _))), fun hf => (g.free hf).ext (fun j _ => ht.frozen _ g.lt), g.own⟩, h.sep⟩
end
theorem wp_look_op {P : Program} {o : Oper} {a : Act} {w : World} {K : Act → World → Prop} {Q : Exit → Act → World → Prop} {m x : Operand} {t : TypeId} (hop : o.op = Op.lookup t m x false) (k e : TypeId) (ht : P.underlying t = some (.map k e)) (hk : P.underlying k = some (.int .i64)) {b : Nat} {M : Int → Option Value}
    (hm : a.eval m = .map (some b)) (hb : Mp w b M) (n : Int) (z : Value) (hx : a.eval x = .int .i64 n) (hz : (zeroValue e).run P w = .ok z w)
    (hK : K (a.put o.dst ((M n).getD z)) w) : o.wp P a w K Q := by
  obtain ⟨es, clock, h1, h2⟩ := hb
  have hc : ∀ em, (Instr.checkKey em 10000 k (.int .i64 n)).run P w = .ok () w := fun em => MapKept.run_checkKey (k := .int .i64 n) hk (by simp [MapKept.IsKey]) em 9999
  unfold Oper.wp
  cases hM : M n with
  | none =>
    rw [hM] at hK
    have hf := (h2 n).2 hM
    have hrun : (Instr.lookup t (.map (some b)) (.int .i64 n) false).run P w = .ok z w := by
      simp [Instr.lookup, run_underlying ht, MapKept.run_getObj_map h1, hc, MapKept.run_findKey hk hf, hz, Result.andThen]
    simp [execOp, hop, hm, hx, hrun, Result.andThen]
    exact hK
  | some v =>
    rw [hM] at hK
    obtain ⟨i, hf⟩ := (h2 n).1 v hM
    have hrun : (Instr.lookup t (.map (some b)) (.int .i64 n) false).run P w = .ok v w := by
      simp [Instr.lookup, run_underlying ht, MapKept.run_getObj_map h1, hc, MapKept.run_findKey hk hf, Result.andThen]
    simp [execOp, hop, hm, hx, hrun, Result.andThen]
    exact hK
theorem keep_new (W : World) (p : Value) (t : TypeId) : (W.alloc (.cells #[p] t)).cell? ⟨W.heap.size, 0, none⟩ = some p := range_new W #[p] t 0 p rfl
end Go.Proofs.Ytkkkjdbcckaedaa
