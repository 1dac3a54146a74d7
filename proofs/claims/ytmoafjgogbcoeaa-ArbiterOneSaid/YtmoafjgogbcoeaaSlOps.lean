/- Slices beside the known ranges: what a slice holds, as a list; the range that it lies in; one that grows by append. Nothing of the program. -/
import Derived.Test.YtmoafjgogbcoeaaHeapOps
import Derived.Deep.AppendSrc
import Derived.ArgAppend
namespace Go.Proofs.Ytmoafjgogbcoeaa
open Go.RowKit
set_option linter.unusedVariables false

/-- A slice's own shape: its length. -/
def Shp (s : Value) (n : Nat) : Prop := ∃ A c, s = .slice A n c ∧ n ≤ c ∧ c ≤ maxLen ∧ (n ≠ 0 → ∃ b q, A = some ⟨b, q, none⟩)
def ints (k : IntKind) (L : List Int) : List Value := L.map (.int k)
theorem ints_length (k : IntKind) (L : List Int) : (ints k L).length = L.length := by simp [ints]
theorem ints_append (k : IntKind) (L M : List Int) : ints k (L ++ M) = ints k L ++ ints k M := by simp [ints]
/-- The range that a slice lies in; none, if it is empty. -/
def entL (s : Value) (vs : List Value) : List Ent :=
  match s with
  | .slice (some x) _ _ => if vs.isEmpty then [] else [⟨x.block, x.off, false, vs.toArray⟩]
  | _ => []
/-- In W the slice s holds the elements vs (of one cell each), in a block from F on (an empty one lies nowhere). -/
structure Ls (F : Nat) (W : World) (s : Value) (vs : List Value) : Prop where
  shp : Shp s vs.length
  ent : ∀ e, e ∈ entL s vs → F ≤ e.b ∧ e.b < W.heap.size ∧ W.rangeAt e.b e.q e.cs.toList
theorem entL_nil (s : Value) : entL s [] = [] := by
  cases s with
  | slice A n c => cases A <;> rfl
  | _ => rfl
theorem entL_cons (x : Addr) (n c : Nat) (vs : List Value) (h : vs ≠ []) : entL (.slice (some x) n c) vs = [⟨x.block, x.off, false, vs.toArray⟩] := by
  cases vs with
  | nil => exact absurd rfl h
  | cons => rfl
theorem entL_fr {s : Value} {vs : List Value} {e : Ent} (h : e ∈ entL s vs) : e.fr = false := by
  by_cases hv : vs = []
  · subst hv; rw [entL_nil] at h; cases h
  · cases s with
    | slice A n c =>
      cases A with
      | none => cases h
      | some x => rw [entL_cons _ _ _ _ hv] at h; rcases List.mem_singleton.1 h with rfl; rfl
    | _ => cases h
theorem Ls.nil (F : Nat) (W : World) (c : Nat) (A : Option Addr) (hc : c ≤ maxLen) : Ls F W (.slice A 0 c) [] := ⟨⟨A, c, rfl, Nat.zero_le _, hc, fun h => absurd rfl h⟩, fun e he => by rw [entL_nil] at he; cases he⟩
theorem Ls.mono {F F' : Nat} {W : World} {s : Value} {vs : List Value} (h : Ls F W s vs) (hF : F' ≤ F) : Ls F' W s vs := ⟨h.shp, fun e he => ⟨Nat.le_trans hF (h.ent e he).1, (h.ent e he).2⟩⟩
theorem Ls.below {F : Nat} {W W' : World} {s : Value} {vs : List Value} (h : Ls F W s vs) (hb : Below W.heap.size W W') : Ls F W' s vs :=
  ⟨h.shp, fun e he => ⟨(h.ent e he).1, Nat.lt_of_lt_of_le (h.ent e he).2.1 hb.size, range_below (h.ent e he).2.2 hb (h.ent e he).2.1⟩⟩
/-- All of it. -/
theorem Ls.all {F : Nat} {W : World} {s : Value} {vs : List Value} (h : Ls F W s vs) (hne : vs ≠ []) : ∃ b q c, s = .slice (some ⟨b, q, none⟩) vs.length c ∧ F ≤ b ∧ b < W.heap.size ∧ vs.length ≤ c ∧ c ≤ maxLen ∧ W.rangeAt b q vs := by
  obtain ⟨A, c, rfl, h1, h2, h3⟩ := h.shp
  obtain ⟨b, q, rfl⟩ := h3 (fun e => hne (List.eq_nil_of_length_eq_zero e))
  have he := h.ent ⟨b, q, false, vs.toArray⟩ (by rw [entL_cons _ _ _ _ hne]; exact .head _)
  exact ⟨b, q, c, rfl, he.1, he.2.1, h1, h2, by simpa using he.2.2⟩
/-- At an index. -/
theorem Ls.atV {F : Nat} {W : World} {s : Value} {vs : List Value} (h : Ls F W s vs) {i : Nat} {v : Value} (hi : vs[i]? = some v) : ∃ b q c, s = .slice (some ⟨b, q, none⟩) vs.length c ∧ F ≤ b ∧ vs.length ≤ c ∧ W.cell? ⟨b, q + i, none⟩ = some v := by
  obtain ⟨b, q, c, h1, h2, h3, h4, h5, h6⟩ := h.all (by intro e; subst e; simp at hi)
  exact ⟨b, q, c, h1, h2, h4, h6 i v hi⟩
theorem Ls.at_ {F : Nat} {W : World} {s : Value} {k : IntKind} {L : List Int} (h : Ls F W s (ints k L)) {i : Nat} (hi : i < L.length) : ∃ b q c, s = .slice (some ⟨b, q, none⟩) L.length c ∧ F ≤ b ∧ L.length ≤ c ∧ W.cell? ⟨b, q + i, none⟩ = some (.int k (L.getD i 0)) := by
  have := h.atV (i := i) (v := .int k (L.getD i 0)) (by simp [ints, hi, List.getD_eq_getElem?_getD])
  simpa [ints_length] using this
theorem Ls.mk' {F : Nat} {W : World} {vs : List Value} {b q c n : Nat} (hn : vs.length = n) (h1 : n ≤ c) (h2 : c ≤ maxLen) (hF : F ≤ b) (hb : b < W.heap.size) (hr : W.rangeAt b q vs) : Ls F W (.slice (some ⟨b, q, none⟩) n c) vs :=
  ⟨⟨_, _, by rw [hn], by omega, h2, fun _ => ⟨_, _, rfl⟩⟩, fun e he => by
    by_cases hne : vs = []
    · subst hne; rw [entL_nil] at he; cases he
    · rw [entL_cons _ _ _ _ hne] at he
      rcases List.mem_singleton.1 he with rfl
      exact ⟨hF, hb, by simpa using hr⟩⟩
section
variable {B o n : Nat} {w W W' : World} {es : List Ent}
theorem Ent.apart_comm {x y : Ent} (h : x.apart y) : y.apart x := by
  rcases h with h | h | h
  · exact .inl (Ne.symm h)
  · exact .inr (.inr h)
  · exact .inr (.inl h)
theorem St.snoc {e : Ent} (h : St B o n w es W) (hf : e.fr = false) (hb : e.b < W.heap.size) (hr : W.rangeAt e.b e.q e.cs.toList) (hs : ∀ y, y ∈ es → y.fr = true → y.apart e) : St B o n w (es ++ [e]) W := by
  refine ⟨h.touch, fun x hx => ?_, List.pairwise_append.2 ⟨h.sep, List.pairwise_singleton _ _, fun x hx y hy hf' => ?_⟩⟩
  · rcases List.mem_append.1 hx with hx | hx
    · exact h.good x hx
    · rcases List.mem_singleton.1 hx with rfl
      exact ⟨hb, hr, fun k => (by rw [hf] at k; cases k), fun k => (by rw [hf] at k; cases k)⟩
  · rcases List.mem_singleton.1 hy with rfl
    rcases hf' with k | k
    · exact hs x hx k
    · rw [hf] at k; cases k
theorem St.plus {s : Value} {vs : List Value} (h : St B o n w es W) (hl : ∀ e, e ∈ entL s vs → e.b < W.heap.size ∧ W.rangeAt e.b e.q e.cs.toList) (hs : ∀ e, e ∈ entL s vs → ∀ y, y ∈ es → y.fr = true → y.apart e) : St B o n w (es ++ entL s vs) W := by
  by_cases hv : vs = []
  · subst hv; rw [entL_nil, List.append_nil]; exact h
  · cases s with
    | slice A m c =>
      cases A with
      | none => simpa [entL] using h
      | some x =>
        rw [entL_cons _ _ _ _ hv] at hl hs ⊢
        exact h.snoc rfl (hl _ (.head _)).1 (hl _ (.head _)).2 (hs _ (.head _))
    | _ => simpa [entL] using h
/-- A slice that came in. -/
theorem St.came {s : Value} {vs : List Value} (h : St w.heap.size 0 0 w es W) (hl : Ls 0 w s vs) : St w.heap.size 0 0 w (es ++ entL s vs) W := by
  refine h.plus (fun e he => ?_) (fun e he y hy hf => .inl ?_)
  · have g := hl.ent e he
    exact ⟨Nat.lt_of_lt_of_le g.2.1 h.size, h.touch.range g.2.1 g.2.2 (.inl (Nat.ne_of_lt g.2.1))⟩
  · have g := hl.ent e he
    rcases (h.good y hy).own hf with k | ⟨k1, k2, k3⟩
    · omega
    · omega
/-- A call that gives a new slice. -/
theorem St.callN {s : Value} {vs : List Value} (h : St B o n w es W) (hb : Below W.heap.size W W') (hl : Ls W.heap.size W' s vs) : St B o n w (es ++ entL s vs) W' := by
  refine (h.call hb).plus (fun e he => (hl.ent e he).2) (fun e he y hy hf => .inl ?_)
  have := (h.good y hy).lt
  have := (hl.ent e he).1
  omega
theorem St.ls {s : Value} {vs : List Value} (h : St B o n w es W) (hs : Shp s vs.length) (hm : ∀ e, e ∈ entL s vs → e ∈ es) : Ls 0 W s vs :=
  ⟨hs, fun e he => ⟨Nat.zero_le _, (h.good e (hm e he)).lt, (h.good e (hm e he)).rng⟩⟩
end
/-- A slice of the call's own, that may grow. -/
def Own (s : Value) (vs : List Value) (E : List Ent) : Prop :=
  (s = .slice none 0 0 ∧ vs = [] ∧ E = []) ∨
  ∃ b c cs, s = .slice (some ⟨b, 0, none⟩) vs.length c ∧ vs.length ≤ c ∧ c ≤ maxLen ∧ cs.size = c ∧ E = [⟨b, 0, true, cs⟩] ∧ cs.toList.take vs.length = vs
theorem Own.none : Own (.slice none 0 0) [] [] := .inl ⟨rfl, rfl, rfl⟩
theorem Own.len {s : Value} {vs : List Value} {E : List Ent} (h : Own s vs E) : ∃ A c, s = .slice A vs.length c := by
  rcases h with ⟨rfl, rfl, _⟩ | ⟨b, c, cs, rfl, _⟩ <;> exact ⟨_, _, rfl⟩
section
variable {B o n : Nat} {w W : World} {es E : List Ent}
theorem Upd.after {l l' es : List Ent} {b q : Nat} {cs cs' : Array Value} (h : Upd l b q cs cs' l') : Upd (es ++ l) b q cs cs' (es ++ l') := by
  induction es with
  | nil => exact h
  | cons x es ih => exact .tail x ih
/-- What an own slice holds, as a result. -/
theorem Own.res {s : Value} {vs : List Value} (h : Own s vs E) (hS : St w.heap.size 0 0 w (es ++ E) W) : Ls w.heap.size W s vs := by
  rcases h with ⟨rfl, rfl, rfl⟩ | ⟨b, c, cs, rfl, h1, h2, h3, rfl, h5⟩
  · exact Ls.nil _ _ _ _ (Nat.zero_le _)
  · by_cases hv : vs = []
    · subst hv
      exact Ls.nil _ _ _ _ h2
    · have hg := hS.good ⟨b, 0, true, cs⟩ (List.mem_append_right _ (.head _))
      have hb : w.heap.size ≤ b := by
        rcases hg.own rfl with k | ⟨k1, k2, k3⟩
        · exact k
        · have : vs.length ≠ 0 := fun e => hv (List.eq_nil_of_length_eq_zero e)
          simp at k3
          subst k3
          simp at h3
          omega
      refine Ls.mk' rfl h1 h2 hb hg.lt ?_
      have := range_part (xs := []) (ys := cs.toList.take vs.length) (zs := cs.toList.drop vs.length) (by simpa using hg.rng)
      simpa [h5] using this
theorem run_append_st {P : Program} {s : Value} {vs : List Value} (hS : St B o n w (es ++ E) W) (hO : Own s vs E) (t tx ty e : TypeId) (i : TypeInfo) (z : Value) (bytes : Nat) (ht : P.underlying t = some (.slice e)) (hi : P.info? e = some i) (hz : i.zero = some z)
    (hsize : i.size = 1) (hby : i.bytes = bytes) (hzc : z.cells = #[z]) (x : Value) (m : Nat) (ms : List Value) (hs : Src P 1 tx x m ms W) (hmax : vs.length + m ≤ maxLen) (hbytes : (vs.length + m) * bytes ≤ 140737488355328) :
    ∃ s' E' W', (Builtin.append_ #[t, tx] ty #[s, x]).run P W = .ok s' W' ∧ Own s' (vs ++ ms) E' ∧ St B o n w (es ++ E') W' := by
  have hm : ms.length = m := by simpa using hs.newsLen
  have h63 : ((vs.length + m : Nat) : Int) ≤ 9223372036854775807 := by simp only [maxLen] at hmax; omega
  have hbare : St B o n w es W := hS.sub (List.sublist_append_left _ _)
  have grow : ∀ (A : Option Addr) (c : Nat), c < vs.length + m → c ≤ maxLen → (Builtin.firstCells i.size vs.length (.slice A vs.length c)).run P W.drew = .ok vs.toArray W.drew →
      ∃ s' E' W', (Builtin.append_ #[t, tx] ty #[.slice A vs.length c, x]).run P W = .ok s' W' ∧ Own s' (vs ++ ms) E' ∧ St B o n w (es ++ E') W' := by
    intro A c hc hcm hf
    have hge := grownCap_ge W (vs.length + m) c e
    have hle := grownCap_le_maxLen W (vs.length + m) c e hmax
    have hr := run_append_grow_src W t tx ty e i z ht hi hz A vs.length c vs hf x m ms (by rw [hsize]; exact hs) hc h63 (by rw [hby]; exact growslice_fits hc hbytes)
    generalize grownCap W (vs.length + m) c e = g at hr hge hle
    have hst := hbare.drew.new ((vs ++ ms).toArray ++ Builtin.zeroCells z.cells (g - (vs.length + m))) e
    have hsz : ((vs ++ ms).toArray ++ Builtin.zeroCells z.cells (g - (vs.length + m))).size = g := by
      rw [Array.size_append, size_zeroCells, hzc]
      simp [hm]
      omega
    refine ⟨_, [⟨W.heap.size, 0, true, _⟩], _, hr, .inr ⟨W.heap.size, g, _, by simp [hm], by simp [hm]; omega, hle, hsz, rfl, ?_⟩, ?_⟩
    · rw [Array.toList_append]
      exact List.take_left' rfl
    · have h2 := hst
      refine ⟨h2.touch, fun y hy => h2.good y ?_, List.pairwise_append.2 ⟨hbare.sep, List.pairwise_singleton _ _, fun y hy u hu hf => ?_⟩⟩
      · rcases List.mem_append.1 hy with hy | hy
        · exact .tail _ hy
        · rcases List.mem_singleton.1 hy with rfl; exact .head _
      · rcases List.mem_singleton.1 hu with rfl
        exact .inl (Nat.ne_of_lt (hbare.good y hy).lt)
  rcases hO with ⟨rfl, rfl, rfl⟩ | ⟨b, c, cs, rfl, h1, h2, h3, rfl, h5⟩
  · by_cases hm0 : m = 0
    · subst hm0
      obtain rfl : ms = [] := List.eq_nil_of_length_eq_zero hm
      refine ⟨.slice none 0 0, [], W, ?_, Own.none, hS⟩
      have hc2 : (Builtin.firstCells 1 0 x).run P W = .ok #[] W := by simpa using hs.cells
      rcases hs.kind with ⟨e', hk⟩ | hk <;> simp [Builtin.append_, run_underlying ht, run_underlying hk, sizeOf, typeInfo, hi, hs.len, hsize, hc2]
    · exact grow none 0 (by simp; omega) (Nat.zero_le _) (by simp [Builtin.firstCells])
  · have hg := hS.good ⟨b, 0, true, cs⟩ (List.mem_append_right _ (.head _))
    by_cases hroom : vs.length + m ≤ c
    · have hup : Upd (es ++ [⟨b, 0, true, cs⟩]) b 0 cs (cs.toList.take vs.length ++ ms ++ cs.toList.drop (vs.length + ms.length)).toArray (es ++ [⟨b, 0, true, (cs.toList.take vs.length ++ ms ++ cs.toList.drop (vs.length + ms.length)).toArray⟩]) := Upd.after (.head _ _ _ _ _)
      have hcl : (cs.toList.take vs.length ++ ms ++ cs.toList.drop (vs.length + ms.length)).toArray.size = cs.size := by simp; omega
      have hth := hS.there hup.mem rfl
      have hth2 : W.there b vs.length ms.length := fun j hj => by
        have := hth (vs.length + j) (show vs.length + j < cs.size by omega)
        simpa using this
      have hr := run_append_room_src W t tx ty e i ht hi b 0 vs.length c x m ms (by rw [hsize]; exact hs) hroom (fun j hj => by
        have := hg.rng (vs.length + j) (cs.toList[vs.length + j]'(by simp; omega)) (List.getElem?_eq_getElem _)
        simp only [hsize, Nat.mul_one, Nat.zero_add] at this ⊢
        rw [this]; rfl) (fun j hj => by
        have := hg.free rfl (vs.length + j) (show vs.length + j < cs.size by omega)
        simpa [hsize] using this)
      refine ⟨_, _, _, hr, .inr ⟨b, c, _, by simp [hm], by simp [hm]; omega, h2, by rw [hcl]; exact h3, rfl, ?_⟩, ?_⟩
      · simp only [h5]
        rw [List.take_left']
        rfl
      · rw [hsize, Nat.mul_one, Nat.zero_add]
        refine hS.put hup hcl ((touch_setCells W b vs.length ms).wide (Nat.zero_le _) (by omega)) ?_
        have hr0 : W.rangeAt b 0 cs.toList := hg.rng
        have hs2 := World.rangeAt_setCells_same W b vs.length ms hth2
        have r1 : (W.setCells b vs.length ms).rangeAt b 0 (cs.toList.take vs.length) := fun i v hv => by
          have hi : i < vs.length := by have := (List.getElem?_eq_some_iff.1 hv).1; simp at this; omega
          rw [World.cell?_setCells_out b _ vs.length W _ (fun _ _ => .inl (by show 0 + i < vs.length; omega))]
          exact hr0 i v (by rwa [List.getElem?_take_of_lt hi] at hv)
        have r3 : (W.setCells b vs.length ms).rangeAt b (vs.length + ms.length) (cs.toList.drop (vs.length + ms.length)) := fun i v hv => by
          rw [World.cell?_setCells_out b _ vs.length W _ (fun _ _ => .inr (by show vs.length + ms.length ≤ vs.length + ms.length + i; omega))]
          rw [List.getElem?_drop] at hv
          have := hr0 _ _ hv
          rwa [Nat.zero_add] at this
        have hlen : (cs.toList.take vs.length).length = vs.length := by simp; omega
        show (W.setCells b vs.length ms).rangeAt b 0 (cs.toList.take vs.length ++ ms ++ cs.toList.drop (vs.length + ms.length))
        rw [List.append_assoc]
        refine range_join r1 ?_
        rw [hlen, Nat.zero_add]
        exact range_join hs2 r3
    · exact grow (some ⟨b, 0, none⟩) c (by omega) h2 (by
        rw [hsize]
        have := run_firstCells_some (P := P) W.drew 1 vs.length ⟨b, 0, none⟩ vs.length c vs (by simp) (fun j v hv => by
          rw [Addr.add_lit]
          have hj : j < vs.length := (List.getElem?_eq_some_iff.1 hv).1
          have := hg.rng j v (by rw [← h5, List.getElem?_take_of_lt hj] at hv; exact hv)
          simpa using this)
        exact this)
end
end Go.Proofs.Ytmoafjgogbcoeaa
