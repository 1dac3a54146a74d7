/- Slices of cells of a memory (api.Cell, two cells each): made by append, read by charabancref14.Get. -/
import Derived.Test.YtkkkjdbcckaedaaDmLawM
namespace Go.Proofs.Ytkkkjdbcckaedaa
open Go.RowKit
set_option linter.unusedVariables false
set_option linter.unusedSimpArgs false
set_option maxRecDepth 100000
def M.cl (L : List (Int × Int)) : List Value := L.flatMap fun p => [.int .u16 p.1, .int .u8 p.2]
theorem M.cl_cons (p : Int × Int) (L : List (Int × Int)) : M.cl (p :: L) = .int .u16 p.1 :: .int .u8 p.2 :: M.cl L := rfl
theorem M.cl_len (L : List (Int × Int)) : (M.cl L).length = L.length * 2 := by
  induction L with
  | nil => rfl
  | cons p L ih => rw [M.cl_cons, List.length_cons, List.length_cons, ih, List.length_cons]; omega
theorem M.cl_snoc (L : List (Int × Int)) (p : Int × Int) : M.cl (L ++ [p]) = M.cl L ++ [.int .u16 p.1, .int .u8 p.2] := by simp [M.cl]
theorem M.cl_at : ∀ (L : List (Int × Int)) (j : Nat), j < L.length → (M.cl L)[j * 2]? = some (.int .u16 (L.getD j (0, 0)).1) ∧ (M.cl L)[j * 2 + 1]? = some (.int .u8 (L.getD j (0, 0)).2)
  | p :: L, 0, _ => ⟨rfl, rfl⟩
  | p :: L, j + 1, h => by
    have ih := M.cl_at L j (by simpa using h)
    rw [M.cl_cons, show (j + 1) * 2 = j * 2 + 1 + 1 by omega]
    simpa using ih
def M.get (L : List (Int × Int)) (at_ : Int) : Int := L.foldl (fun b p => if p.1 = at_ then p.2 else b) 0
theorem M.get_snoc (L : List (Int × Int)) (p : Int × Int) (at_ : Int) : M.get (L ++ [p]) at_ = if p.1 = at_ then p.2 else M.get L at_ := by simp [M.get, List.foldl_append]
theorem take_pair {L : List (Int × Int)} {j : Nat} (h : j < L.length) : L.take (j + 1) = L.take j ++ [L.getD j (0, 0)] := by
  rw [List.take_add_one, List.getD_eq_getElem?_getD, List.getElem?_eq_getElem h]
  rfl
theorem M.get_range : ∀ (L : List (Int × Int)), (∀ p ∈ L, 0 ≤ p.2 ∧ p.2 ≤ 255) → ∀ a, 0 ≤ M.get L a ∧ M.get L a ≤ 255 := by
  intro L h a
  unfold M.get
  suffices ∀ (K : List (Int × Int)) (b : Int), (∀ p ∈ K, 0 ≤ p.2 ∧ p.2 ≤ 255) → 0 ≤ b ∧ b ≤ 255 → 0 ≤ K.foldl (fun b p => if p.1 = a then p.2 else b) b ∧ K.foldl (fun b p => if p.1 = a then p.2 else b) b ≤ 255 from this L 0 h (by decide)
  intro K
  induction K with
  | nil => intro b _ hb; exact hb
  | cons p K ih =>
    intro b hk hb
    refine ih _ (fun q hq => hk q (.tail _ hq)) ?_
    by_cases e : p.1 = a
    · simp only [e, if_true]
      exact hk p (.head _)
    · simp only [e, if_false]
      exact hb
/-- A slice of cells of the call's own, that may grow. -/
def Own2 (s : Value) (L : List (Int × Int)) (E : List Ent) : Prop :=
  ∃ b c cs, s = .slice (some ⟨b, 0, none⟩) L.length c ∧ L.length ≤ c ∧ c ≤ maxLen ∧ cs.size = c * 2 ∧ E = [⟨b, 0, true, cs⟩] ∧ cs.toList.take (L.length * 2) = M.cl L
section
variable {P : Program} {B o n : Nat} {w W : World} {es E : List Ent}
theorem run_append2 {s : Value} {L : List (Int × Int)} (hS : St B o n w (es ++ E) W) (hO : Own2 s L E) (t tx ty e : TypeId) (i : TypeInfo) (z : Value) (bytes : Nat) (ht : P.underlying t = some (.slice e)) (hi : P.info? e = some i) (hz : i.zero = some z)
    (hsize : i.size = 2) (hby : i.bytes = bytes) (hzc : z.cells.size = 2) (x : Value) (p : Int × Int) (hs : Src P 2 tx x 1 [.int .u16 p.1, .int .u8 p.2] W) (hmax : L.length + 1 ≤ maxLen) (hbytes : (L.length + 1) * bytes ≤ 140737488355328) :
    ∃ s' E' W', (Builtin.append_ #[t, tx] ty #[s, x]).run P W = .ok s' W' ∧ Own2 s' (L ++ [p]) E' ∧ St B o n w (es ++ E') W' := by
  have h63 : ((L.length + 1 : Nat) : Int) ≤ 9223372036854775807 := by simp only [maxLen] at hmax; omega
  have hbare : St B o n w es W := hS.sub (List.sublist_append_left _ _)
  have hcl := M.cl_len L
  obtain ⟨b, c, cs, rfl, h1, h2, h3, rfl, h5⟩ := hO
  have hg := hS.good ⟨b, 0, true, cs⟩ (List.mem_append_right _ (.head _))
  by_cases hroom : L.length + 1 ≤ c
  · obtain ⟨ms, hms⟩ : ∃ ms : List Value, ms = [.int .u16 p.1, .int .u8 p.2] := ⟨_, rfl⟩
    have hml : ms.length = 2 := by rw [hms]; rfl
    rw [← hms] at hs
    obtain ⟨k, hk⟩ : ∃ k, k = L.length * 2 := ⟨_, rfl⟩
    have hkc : k + 2 ≤ cs.size := by omega
    have hup : Upd (es ++ [⟨b, 0, true, cs⟩]) b 0 cs (cs.toList.take k ++ ms ++ cs.toList.drop (k + ms.length)).toArray (es ++ [⟨b, 0, true, (cs.toList.take k ++ ms ++ cs.toList.drop (k + ms.length)).toArray⟩]) := Upd.after (.head _ _ _ _ _)
    have hcz : (cs.toList.take k ++ ms ++ cs.toList.drop (k + ms.length)).toArray.size = cs.size := by simp; omega
    have hth := hS.there hup.mem rfl
    have hth2 : W.there b k ms.length := fun j hj => by
      have := hth (k + j) (show k + j < cs.size by omega)
      simpa using this
    have hr := run_append_room_src W t tx ty e i ht hi b 0 L.length c x 1 ms (by rw [hsize]; exact hs) hroom (fun j hj => by
      have := hg.rng (k + j) (cs.toList[k + j]'(by simp; omega)) (List.getElem?_eq_getElem _)
      simp only [hsize, Nat.zero_add, ← hk] at this ⊢
      rw [this]; rfl) (fun j hj => by
      have := hg.free rfl (k + j) (show k + j < cs.size by omega)
      simpa [hsize, ← hk] using this)
    have hlen : (cs.toList.take k).length = k := by simp; omega
    refine ⟨_, _, _, hr, ⟨b, c, _, by simp, by simp; omega, h2, by rw [hcz]; exact h3, rfl, ?_⟩, ?_⟩
    · rw [M.cl_snoc, ← h5, ← hk, ← hms]
      have e1 : (L ++ [p]).length * 2 = (cs.toList.take k ++ ms).length := by simp only [List.length_append, List.length_singleton, hlen, hml]; omega
      rw [e1]
      exact List.take_left' rfl
    · rw [hsize, ← hk, Nat.zero_add]
      refine hS.put hup hcz ((touch_setCells W b k ms).wide (Nat.zero_le _) (by omega)) ?_
      have hr0 : W.rangeAt b 0 cs.toList := hg.rng
      have hs2 := World.rangeAt_setCells_same W b k ms hth2
      have r1 : (W.setCells b k ms).rangeAt b 0 (cs.toList.take k) := fun i v hv => by
        have hi : i < k := by have := (List.getElem?_eq_some_iff.1 hv).1; simp at this; omega
        rw [World.cell?_setCells_out b _ k W _ (fun _ _ => .inl (by show 0 + i < k; omega))]
        exact hr0 i v (by rwa [List.getElem?_take_of_lt hi] at hv)
      have r3 : (W.setCells b k ms).rangeAt b (k + ms.length) (cs.toList.drop (k + ms.length)) := fun i v hv => by
        rw [World.cell?_setCells_out b _ k W _ (fun _ _ => .inr (by show k + ms.length ≤ k + ms.length + i; omega))]
        rw [List.getElem?_drop] at hv
        have := hr0 _ _ hv
        rwa [Nat.zero_add] at this
      show (W.setCells b k ms).rangeAt b 0 (cs.toList.take k ++ ms ++ cs.toList.drop (k + ms.length))
      rw [List.append_assoc]
      refine range_join r1 ?_
      rw [hlen, Nat.zero_add]
      exact range_join hs2 r3
  · have hf : (Builtin.firstCells i.size L.length (.slice (some ⟨b, 0, none⟩) L.length c)).run P W.drew = .ok (M.cl L).toArray W.drew := by
      rw [hsize]
      exact run_firstCells_some (P := P) W.drew 2 L.length ⟨b, 0, none⟩ L.length c (M.cl L) (by rw [hcl]) (fun j v hv => by
        rw [Addr.add_lit]
        have hj : j < L.length * 2 := by have := (List.getElem?_eq_some_iff.1 hv).1; omega
        have := hg.rng j v (by rw [← h5, List.getElem?_take_of_lt hj] at hv; exact hv)
        simpa using this)
    have hge := grownCap_ge W (L.length + 1) c e
    have hle := grownCap_le_maxLen W (L.length + 1) c e hmax
    have hr := run_append_grow_src W t tx ty e i z ht hi hz (some ⟨b, 0, none⟩) L.length c (M.cl L) hf x 1 _ (by rw [hsize]; exact hs) (by omega) h63 (by rw [hby]; exact growslice_fits (by omega) hbytes)
    generalize grownCap W (L.length + 1) c e = g at hr hge hle
    have hst := hbare.drew.new ((M.cl L ++ [Value.int .u16 p.1, Value.int .u8 p.2]).toArray ++ Builtin.zeroCells z.cells (g - (L.length + 1))) e
    have hsz : ((M.cl L ++ [Value.int .u16 p.1, Value.int .u8 p.2]).toArray ++ Builtin.zeroCells z.cells (g - (L.length + 1))).size = g * 2 := by
      rw [Array.size_append, size_zeroCells, hzc]
      simp [hcl]
      omega
    refine ⟨_, [⟨W.heap.size, 0, true, _⟩], _, hr, ⟨W.heap.size, g, _, by simp, by simp; omega, hle, hsz, rfl, ?_⟩, ?_⟩
    · rw [Array.toList_append, M.cl_snoc]
      have e1 : (L ++ [p]).length * 2 = (M.cl L ++ [Value.int .u16 p.1, Value.int .u8 p.2]).length := by simp [hcl]; omega
      rw [e1]
      exact List.take_left' rfl
    · have h2 := hst
      refine ⟨h2.touch, fun y hy => h2.good y ?_, List.pairwise_append.2 ⟨hbare.sep, List.pairwise_singleton _ _, fun y hy u hu hf => ?_⟩⟩
      · rcases List.mem_append.1 hy with hy | hy
        · exact .tail _ hy
        · rcases List.mem_singleton.1 hy with rfl; exact .head _
      · rcases List.mem_singleton.1 hu with rfl
        exact .inl (Nat.ne_of_lt (hbare.good y hy).lt)
end
section
variable {P : Program} {ops : Array Oper} {rest : List Oper} {a : Act} {Q : Exit → Act → World → Prop} {B o n : Nat} {w W : World} {es E : List Ent} {dst : Option Tmp} {ty t tx : TypeId} {s x : Operand} {pos : String} {aft : Array Edge}
theorem Wl_app2 {v : Value} {L : List (Int × Int)} (hS : St B o n w (es ++ E) W) (hO : Own2 v L E) (e : TypeId) (i : TypeInfo) (z : Value) (bytes : Nat) (ht : P.underlying t = some (.slice e)) (hi : P.info? e = some i) (hz : i.zero = some z)
    (hsize : i.size = 2) (hby : i.bytes = bytes) (hzc : z.cells.size = 2) (hv : a.eval s = v) (p : Int × Int) (hs : Src P 2 tx (a.eval x) 1 [.int .u16 p.1, .int .u8 p.2] W) (hmax : L.length + 1 ≤ maxLen) (hbytes : (L.length + 1) * bytes ≤ 140737488355328)
    (h : ∀ v' E' W', Own2 v' (L ++ [p]) E' → St B o n w (es ++ E') W' → wpList P ops Q rest (a.put dst v') W') :
    Wl P ops Q ({ dst := dst, op := .call { callee := .builtin .append, args := #[s, x], argTypes := #[t, tx] }, type := ty, pos := pos, after := aft, guard := none } :: rest) a W := by
  obtain ⟨v', E', W', hr, h2, h3⟩ := run_append2 (ty := ty) hS hO t tx e i z bytes ht hi hz hsize hby hzc (a.eval x) p hs hmax hbytes
  refine Wl.mk (wpList_plain rfl fun K' hK' => ?_)
  unfold Oper.wp execOp
  simp only [resolve, invoke, builtin, Sem.run_bind, Sem.run_pure, Result.andThen_ok, List.map_toArray, List.map_cons, List.map_nil, hv, hr]
  exact hK' _ _ (h v' E' W' h2 h3)
end
/-- The cells of an own slice, one by one. -/
theorem Own2.at_ {v : Value} {L : List (Int × Int)} {B o n : Nat} {w W : World} {es E : List Ent} (hO : Own2 v L E) (hS : St B o n w (es ++ E) W) : ∃ b c, v = .slice (some ⟨b, 0, none⟩) L.length c ∧ L.length ≤ c ∧ ∀ j, j < L.length → W.cell? ⟨b, j * 2, none⟩ = some (.int .u16 (L.getD j (0, 0)).1) ∧ W.cell? ⟨b, j * 2 + 1, none⟩ = some (.int .u8 (L.getD j (0, 0)).2) := by
  obtain ⟨b, c, cs, rfl, h1, h2, h3, rfl, h5⟩ := hO
  have hg := hS.good ⟨b, 0, true, cs⟩ (List.mem_append_right _ (.head _))
  refine ⟨b, c, rfl, h1, fun j hj => ?_⟩
  obtain ⟨c1, c2⟩ := M.cl_at L j hj
  rw [← h5] at c1 c2
  rw [List.getElem?_take_of_lt (by omega)] at c1 c2
  have r1 := hg.rng _ _ c1
  have r2 := hg.rng _ _ c2
  simp only [Nat.zero_add] at r1 r2
  exact ⟨r1, r2⟩
theorem ceI : (Try.prog.info? 58).map (fun i => (i.zero, i.size, i.bytes)) = some (some (.agg #[.int .u16 0, .int .u8 0]), 2, 4) := by kernel_rfl
theorem Wl_bsl1 {ops : Array Oper} {rest : List Oper} {a : Act} {Q : Exit → Act → World → Prop} {B o n : Nat} {w W : World} {es : List Ent} {dst : Option Tmp} {ty : TypeId} {ps : Array (Nat × Operand)} {pos : String} {aft : Array Edge}
    (hS : St B o n w es W) (cells : Array Value)
    (hf : Instr.fill (fun i => some (i * 2, 2)) ((Array.range (1 * 2)).map ((#[.int .u16 0, .int .u8 0] : Array Value)[· % 2]!)) (ps.map fun (i, x) => (i, a.eval x)).toList = some cells)
    (h : ∀ b W', w.heap.size ≤ b → St B o n w (⟨b, 0, true, cells⟩ :: es) W' → wpList Try.prog ops Q rest (a.put dst (.slice (some ⟨b, 0, none⟩) 1 1)) W') :
    Wl Try.prog ops Q ({ dst := dst, op := .buildSlice 56 1 ps, type := ty, pos := pos, after := aft, guard := none } :: rest) a W := by
  cases hie : Try.prog.info? 58 with
  | none => have := ceI; rw [hie] at this; cases this
  | some ie =>
    have hc := ceI
    rw [hie] at hc
    simp only [Option.map_some, Option.some.injEq, Prod.mk.injEq] at hc
    refine Wl.mk (wpList_buildSlice rfl 56 58 1 ps rfl cells ie _ Try.underlying56 hie hc.1 (by rw [hc.2.1]; omega) (by rw [hc.2.1]; omega) ?_ (h _ _ hS.size (hS.new _ _)))
    rw [hc.2.1]
    exact hf
theorem Wl_bsl0 {ops : Array Oper} {rest : List Oper} {a : Act} {Q : Exit → Act → World → Prop} {B o n : Nat} {w W : World} {es : List Ent} {dst : Option Tmp} {ty : TypeId} {pos : String} {aft : Array Edge}
    (hS : St B o n w es W) (h : ∀ v E W', Own2 v [] E → St B o n w (es ++ E) W' → wpList Try.prog ops Q rest (a.put dst v) W') :
    Wl Try.prog ops Q ({ dst := dst, op := .buildSlice 56 0 #[], type := ty, pos := pos, after := aft, guard := none } :: rest) a W := by
  cases hie : Try.prog.info? 58 with
  | none => have := ceI; rw [hie] at this; cases this
  | some ie =>
    have hr : ∀ w : World, (Instr.buildSlice 56 0 #[]).run Try.prog w = .ok (.slice (some ⟨w.heap.size, 0, none⟩) 0 0) (w.alloc (.cells #[] 58)) := fun w => by
      simp [Instr.buildSlice, run_underlying Try.underlying56, sizeOf, typeInfo, hie, Instr.fill, newRow]
      rw [show (Array.range 0 : Array Nat) = #[] from Array.ext' (by simp), Array.map_empty]
    refine Wl.mk (wpList_plain rfl fun K' hK' => ?_)
    unfold Oper.wp execOp
    simp only [List.map_toArray, List.map_nil, Sem.run_bind, hr, Sem.run_pure, Result.andThen_ok]
    have hst := hS.new #[] 58
    refine hK' _ _ (h _ [⟨W.heap.size, 0, true, #[]⟩] _ ⟨W.heap.size, 0, #[], rfl, Nat.le_refl _, Nat.zero_le _, rfl, rfl, rfl⟩ ⟨hst.touch, fun y hy => hst.good y ?_, List.pairwise_append.2 ⟨hS.sep, List.pairwise_singleton _ _, fun y hy u hu hf => ?_⟩⟩)
    · rcases List.mem_append.1 hy with hy | hy
      · exact .tail _ hy
      · rcases List.mem_singleton.1 hy with rfl; exact .head _
    · rcases List.mem_singleton.1 hu with rfl
      exact .inl (Nat.ne_of_lt (hS.good y hy).lt)
theorem St.src2 {P : Program} {B o n : Nat} {w W : World} {es : List Ent} {tx e' : TypeId} {b : Nat} {fr : Bool} {x y : Value} (hS : St B o n w es W) (hm : (⟨b, 0, fr, #[x, y]⟩ : Ent) ∈ es) (hk : P.underlying tx = some (.slice e')) (hx : x.oneCell' = true) (hy : y.oneCell' = true) (c : Nat) : Src P 2 tx (.slice (some ⟨b, 0, none⟩) 1 c) 1 [x, y] W :=
  Src.ofSlice W hk _ _ _ _ rfl (fun j u hu => by rw [Addr.add_lit]; exact hS.range hm j u hu) (fun u hu => by
    simp only [List.mem_cons, List.not_mem_nil, or_false] at hu
    rcases hu with rfl | rfl
    · exact hx
    · exact hy)
/-- Bytes laid one behind the other from an address on. -/
def M.run (s : Int) (k : Nat) : List (Int × Int) := (List.range k).map fun i : Nat => ((s + (i : Int)) % 65536, (i : Int) + 1)
theorem M.run_len (s : Int) (k : Nat) : (M.run s k).length = k := by simp [M.run]
theorem M.run_succ (s : Int) (k : Nat) : M.run s (k + 1) = M.run s k ++ [((s + (k : Int)) % 65536, (k : Int) + 1)] := by simp [M.run, List.range_succ]
theorem M.run_bytes (s : Int) (k : Nat) (hk : k ≤ 100) : ∀ p ∈ M.run s k, 0 ≤ p.2 ∧ p.2 ≤ 255 := by
  intro p hp
  obtain ⟨i, hi, rfl⟩ := List.mem_map.1 hp
  have := List.mem_range.1 hi
  show 0 ≤ (i : Int) + 1 ∧ (i : Int) + 1 ≤ 255
  omega
theorem M.get_other (L : List (Int × Int)) (s a : Int) : ∀ k : Nat, (∀ i : Nat, i < k → (s + (i : Int)) % 65536 ≠ a) → M.get (L ++ M.run s k) a = M.get L a
  | 0, _ => by simp [M.run]
  | k + 1, h => by
    rw [M.run_succ, ← List.append_assoc, M.get_snoc, if_neg (h k (by omega))]
    exact M.get_other L s a k fun i hi => h i (by omega)
theorem M.get_mine (L : List (Int × Int)) (s : Int) : ∀ k : Nat, k ≤ 100 → ∀ i : Nat, i < k → M.get (L ++ M.run s k) ((s + (i : Int)) % 65536) = (i : Int) + 1
  | 0, _, i, h => by omega
  | k + 1, hk, i, h => by
    rw [M.run_succ, ← List.append_assoc, M.get_snoc]
    by_cases e : i = k
    · subst e
      rw [if_pos rfl]
    · rw [if_neg (by show ¬ (s + (k : Int)) % 65536 = (s + (i : Int)) % 65536; omega)]
      exact M.get_mine L s k (by omega) i (by omega)
theorem M.get_src {f t : Int} (h1 : 40 ≤ (t - f) % 65536) (h2 : 40 ≤ (f - t) % 65536) (m i : Nat) (hm : m ≤ 19) (hi : i ≤ m) : M.get (M.run f (m + 1) ++ M.run t i) ((f + (i : Int)) % 65536) = (i : Int) + 1 := by
  rw [M.get_other _ _ _ i (fun y hy => by omega)]
  have := M.get_mine [] f (m + 1) (by omega) i (by omega)
  simpa using this
theorem M.get_dst {f t : Int} (m i : Nat) (hm : m ≤ 19) (hi : i ≤ m) : M.get (M.run f (m + 1) ++ M.run t (m + 1)) ((t + (i : Int)) % 65536) = (i : Int) + 1 := M.get_mine _ t (m + 1) (by omega) i (by omega)
set_option maxHeartbeats 4000000 in
theorem get_any (L : List (Int × Int)) (hL : L.length ≤ 1000) (hb : ∀ p ∈ L, 0 ≤ p.2 ∧ p.2 ≤ 255) (at_ : Int) (b c : Nat) (hc : L.length ≤ c) (w : World) (hr : ∀ j, j < L.length → w.cell? ⟨b, j * 2, none⟩ = some (.int .u16 (L.getD j (0, 0)).1) ∧ w.cell? ⟨b, j * 2 + 1, none⟩ = some (.int .u8 (L.getD j (0, 0)).2)) :
    Calls Try.prog 29 #[.slice (some ⟨b, 0, none⟩) L.length c, .int .u16 at_] w fun e w' => e = .returned (.int .u8 (M.get L at_)) ∧ Below w.heap.size w w' := by
  have HA := Lib.hid hr
  have hS0 := St.start w.heap.size 0 0 w
  clear hr
  go_enter Try.func29, Try.ntmps29
  go_wp2_with fail
  have HS0 := Lib.hid hS0
  clear hS0
  go_loopw [5, 6] (fun v i wr => ∃ j : Nat, i = .int .i64 j ∧ j ≤ L.length ∧ v = .int .u8 (M.get (L.take j) at_) ∧ St w.heap.size 0 0 w [] wr) (fun _ i _ => L.length - (intOf i).toNat)
  case atStart => exact ⟨0, rfl, Nat.zero_le _, rfl, HS0.out⟩
  case round =>
    clear HS0
    obtain ⟨j, rfl, hj, rfl, hS⟩ := hrel
    by_cases k1 : j < L.length
    · have k1' : (j : Int) < (L.length : Int) := by omega
      have k0' : (0 : Int) ≤ (j : Int) := by omega
      have k3' : (j : Int) < 2000 := by omega
      obtain ⟨hc1, hc2⟩ := HA.out j k1
      replace hS := (hS.oneAt hc1).oneAt hc2
      clear hc1 hc2
      have e1 : M.get (L.take (j + 1)) at_ = if (L.getD j (0, 0)).1 = at_ then (L.getD j (0, 0)).2 else M.get (L.take j) at_ := by rw [take_pair k1, M.get_snoc]
      have hrel2 : ∀ g W, M.get (L.take (j + 1)) at_ = g → St w.heap.size 0 0 w [] W → ∃ j2 : Nat, (Value.int .i64 ((j : Int) + 1)) = .int .i64 j2 ∧ j2 ≤ L.length ∧ Value.int .u8 g = .int .u8 (M.get (L.take j2) at_) ∧ St w.heap.size 0 0 w [] W := fun g W hg h => ⟨j + 1, by simp, by omega, by rw [← hg], h⟩
      have HR := Lib.hid hrel2
      clear hrel2
      generalize L.getD j (0, 0) = q at hS e1
      obtain ⟨qa, qd⟩ := q
      simp only at hS e1
      have HE := Lib.hid e1
      clear e1
      cases hq : (qa == at_)
      · have hq' : decide (qa = at_) = false := by simpa using hq
        have HF := Lib.hid (fun W => HR.out _ W (HE.out.trans (if_neg (by simpa using hq))))
        clear HR HE
        go_wp2_with (((with_reducible first | refine to_load 3 rfl ?_ | refine to_load 4 rfl ?_ | refine to_load 5 rfl ?_ | refine to_load 24 rfl ?_ | refine to_load 25 rfl ?_); refine Wl_load1 hS (fun _ => by rfl) _ _ rfl (scT _ rfl) ?_; (repeat (first | refine Look.here (of_decide_eq_true rfl) rfl ?_ | refine Look.self rfl ?_ | refine Look.next ?_)); (with_reducible show wpList _ _ _ _ _ _); simp only [nA]))
        go_round
        case rel => exact HF.out _ (hS.sub (List.nil_sublist _))
        case measure => simp [intOf]; omega
      · have hq' : decide (qa = at_) = true := by simpa using hq
        have HF := Lib.hid (fun W => HR.out _ W (HE.out.trans (if_pos (by simpa using hq))))
        clear HR HE
        go_wp2_with (((with_reducible first | refine to_load 3 rfl ?_ | refine to_load 4 rfl ?_ | refine to_load 5 rfl ?_ | refine to_load 24 rfl ?_ | refine to_load 25 rfl ?_); refine Wl_load1 hS (fun _ => by rfl) _ _ rfl (scT _ rfl) ?_; (repeat (first | refine Look.here (of_decide_eq_true rfl) rfl ?_ | refine Look.self rfl ?_ | refine Look.next ?_)); (with_reducible show wpList _ _ _ _ _ _); simp only [nA]))
        go_round
        case rel => exact HF.out _ (hS.sub (List.nil_sublist _))
        case measure => simp [intOf]; omega
    · have k1' : ¬ ((j : Int) < (L.length : Int)) := by omega
      obtain rfl : j = L.length := by omega
      rw [List.take_length]
      go_wp2_with fail
      go_returns
      exact ⟨rfl, hS.below⟩
end Go.Proofs.Ytkkkjdbcckaedaa
