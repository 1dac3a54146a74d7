/- What a call has of its own in memory, block by block, as a list of known ranges: what every operation makes of it. Nothing of the program. -/
import Derived.Test.YtmoafjgogbcoeaaRowOpsG
import Derived.Deep.RegionHeld3
namespace Go.Proofs.Ytmoafjgogbcoeaa
open Go.RowKit
set_option linter.unusedVariables false

/-- A range of cells that is known: its block, where it begins, whether it may be written, its cells. -/
structure Ent where
  b : Nat
  q : Nat
  fr : Bool
  cs : Array Value
def Ent.apart (x y : Ent) : Prop := x.b ≠ y.b ∨ x.q + x.cs.size ≤ y.q ∨ y.q + y.cs.size ≤ x.q
structure Ent.Good (B o n H : Nat) (W : World) (e : Ent) : Prop where
  lt : e.b < W.heap.size
  rng : W.rangeAt e.b e.q e.cs.toList
  free : e.fr = true → Free W e.b e.q e.cs.size
  own : e.fr = true → H ≤ e.b ∨ (e.b = B ∧ o ≤ e.q ∧ e.q + e.cs.size ≤ o + n)
/-- Of what lay in w only n cells of block B from o on may have turned; W holds the ranges. -/
structure St (B o n : Nat) (w : World) (es : List Ent) (W : World) : Prop where
  touch : Touch B o n w W
  good : ∀ e, e ∈ es → e.Good B o n w.heap.size W
  sep : es.Pairwise fun x y => (x.fr = true ∨ y.fr = true) → x.apart y
theorem Touch.own {B o n b q m : Nat} {w W W' : World} (h : Touch B o n w W) (k : Touch b q m W W') (hown : w.heap.size ≤ b ∨ (b = B ∧ o ≤ q ∧ q + m ≤ o + n)) : Touch B o n w W' :=
  ⟨Nat.le_trans h.size k.size,
   fun p hp hq => (k.cell p (Nat.lt_of_lt_of_le hp h.size) (by
     rcases hown with e | ⟨e, h1, h2⟩
     · exact .inl (by omega)
     · rcases hq with hq | hq | hq
       · exact .inl (by rw [e]; exact hq)
       · exact .inr (.inl (by omega))
       · exact .inr (.inr (by omega)))).trans (h.cell p hp hq),
   fun p hp => (k.frozen p (Nat.lt_of_lt_of_le hp h.size)).trans (h.frozen p hp),
   fun base A hb hs hA => k.below base A (by rcases hown with e | ⟨e, _⟩ <;> omega) (Nat.le_trans hs h.size) (h.below base A hb hs hA)⟩
theorem Touch.of_below {W W' : World} (h : Below W.heap.size W W') : Touch W.heap.size 0 0 W W' :=
  ⟨h.size, fun p hp _ => h.cell hp, fun p hp => h.frozen hp, fun base A hb _ hA => hA.trans (h.mono hb)⟩
theorem Touch.to_below {w W : World} {q m : Nat} (h : Touch w.heap.size q m w W) : Below w.heap.size w W := h.below _ _ (Nat.le_refl _) (Nat.le_refl _) (Below.refl _ _)
theorem Free.ext {W W' : World} {b q m : Nat} (h : Free W b q m) (k : ∀ j, j < m → W'.frozen? ⟨b, q + j, none⟩ = W.frozen? ⟨b, q + j, none⟩) : Free W' b q m := fun j hj => (k j hj).trans (h j hj)
/-- One entry turned. -/
inductive Upd : List Ent → Nat → Nat → Array Value → Array Value → List Ent → Prop
  | head (b q : Nat) (cs cs' : Array Value) (l : List Ent) : Upd (⟨b, q, true, cs⟩ :: l) b q cs cs' (⟨b, q, true, cs'⟩ :: l)
  | tail {l l' : List Ent} {b q : Nat} {cs cs' : Array Value} (x : Ent) (h : Upd l b q cs cs' l') : Upd (x :: l) b q cs cs' (x :: l')
theorem Upd.mem {es es' : List Ent} {b q : Nat} {cs cs' : Array Value} (h : Upd es b q cs cs' es') : (⟨b, q, true, cs⟩ : Ent) ∈ es := by
  induction h with
  | head => exact .head _
  | tail x _ ih => exact .tail _ ih
section
variable {B o n : Nat} {w W W' : World} {es es' : List Ent}
theorem St.start (B o n : Nat) (w : World) : St B o n w [] w := ⟨Touch.refl _ _ _ _, fun e h => (by cases h), List.Pairwise.nil⟩
theorem St.size (h : St B o n w es W) : w.heap.size ≤ W.heap.size := h.touch.size
theorem St.put {b q : Nat} {cs cs' : Array Value} (h : St B o n w es W) (hu : Upd es b q cs cs' es') (hl : cs'.size = cs.size) (ht : Touch b q cs.size W W') (hr : W'.rangeAt b q cs'.toList) : St B o n w es' W' := by
  have hg := h.good _ hu.mem
  refine ⟨h.touch.own ht (hg.own rfl), ?_, ?_⟩
  · have hsep := h.sep
    have hgood := h.good
    clear h hg
    induction hu with
    | head b q cs cs' l =>
      have hs := (List.pairwise_cons.1 hsep).1
      have g0 := hgood _ (List.Mem.head _)
      intro e he
      rcases List.mem_cons.1 he with rfl | he'
      · exact ⟨Nat.lt_of_lt_of_le g0.lt ht.size, hr, fun _ => (hl ▸ g0.free rfl).ext (fun j _ => ht.frozen _ g0.lt), fun _ => by have := g0.own rfl; simpa [hl] using this⟩
      · have g := hgood e (List.Mem.tail _ he')
        have ha := hs _ he' (.inl rfl)
        refine ⟨Nat.lt_of_lt_of_le g.lt ht.size, ht.range g.lt g.rng ?_, fun hf => (g.free hf).ext (fun j _ => ht.frozen _ g.lt), g.own⟩
        rcases ha with ha | ha | ha
        · exact .inl (fun e => ha e.symm)
        · exact .inr (.inr ha)
        · exact .inr (.inl (by simpa using ha))
    | @tail l l' b q cs cs' x hu ih =>
      have hs := (List.pairwise_cons.1 hsep).1
      intro e he
      rcases List.mem_cons.1 he with rfl | he'
      · have g := hgood e (List.Mem.head _)
        have ha := hs _ hu.mem (.inr rfl)
        refine ⟨Nat.lt_of_lt_of_le g.lt ht.size, ht.range g.lt g.rng ?_, fun hf => (g.free hf).ext (fun j _ => ht.frozen _ g.lt), g.own⟩
        rcases ha with ha | ha | ha
        · exact .inl ha
        · exact .inr (.inl (by simpa using ha))
        · exact .inr (.inr ha)
      · exact ih hl ht hr (List.Pairwise.of_cons hsep) (fun e he => hgood e (List.Mem.tail _ he)) e he'
  · have hsep := h.sep
    clear h hg ht hr
    induction hu with
    | head b q cs cs' l =>
      refine List.pairwise_cons.2 ⟨fun y hy hf => ?_, List.Pairwise.of_cons hsep⟩
      have := (List.pairwise_cons.1 hsep).1 _ hy (.inl rfl)
      simpa [Ent.apart, hl] using this
    | @tail l l' b q cs cs' x hu ih =>
      refine List.pairwise_cons.2 ⟨fun y hy hf => ?_, ih hl (List.Pairwise.of_cons hsep)⟩
      have hs := fun y hy => (List.pairwise_cons.1 hsep).1 y hy
      clear ih hsep
      revert y
      induction hu with
      | head b q cs cs' l =>
        intro y hy hf
        rcases List.mem_cons.1 hy with rfl | hy'
        · have := hs _ (List.Mem.head _) (.inr rfl)
          simpa [Ent.apart, hl] using this
        · exact hs _ (List.Mem.tail _ hy') hf
      | tail x' hu ih =>
        intro y hy hf
        rcases List.mem_cons.1 hy with rfl | hy'
        · exact hs _ (List.Mem.head _) hf
        · exact ih hl (fun y h => hs y (List.Mem.tail _ h)) y hy' hf
theorem St.call (h : St B o n w es W) (hb : Below W.heap.size W W') : St B o n w es W' :=
  ⟨h.touch.own (Touch.of_below hb) (.inl h.touch.size), fun e he => by
    have g := h.good e he
    exact ⟨Nat.lt_of_lt_of_le g.lt hb.size, range_below g.rng hb g.lt, fun hf => (g.free hf).ext (fun j _ => hb.frozen (p := ⟨e.b, e.q + j, none⟩) g.lt), g.own⟩, h.sep⟩
theorem St.new (h : St B o n w es W) (c : Array Value) (t : TypeId) : St B o n w (⟨W.heap.size, 0, true, c⟩ :: es) (W.alloc (.cells c t)) := by
  have h1 : St B o n w es (W.alloc (.cells c t)) := h.call ((Below.refl _ _).alloc (Nat.le_refl _) _)
  refine ⟨h1.touch, fun e he => ?_, List.pairwise_cons.2 ⟨fun y hy _ => .inl ?_, h.sep⟩⟩
  · rcases List.mem_cons.1 he with rfl | he'
    · exact ⟨by simp, range_new W c t, fun _ => free_new W c t c.size, fun _ => .inl h.size⟩
    · exact h1.good e he'
  · have := (h.good y hy).lt
    show W.heap.size ≠ y.b
    omega
theorem St.drew (h : St B o n w es W) : St B o n w es W.drew := h.call (Below.refl _ _).drew
theorem St.drewN (h : St B o n w es W) (k : Nat) : St B o n w es (W.drewN k) := h.call ⟨rfl, rfl, rfl, Nat.le_refl _, fun _ _ => rfl⟩
theorem St.sub (h : St B o n w es W) (hs : es'.Sublist es) : St B o n w es' W := ⟨h.touch, fun e he => h.good e (hs.subset he), h.sep.sublist hs⟩
theorem St.rest {e : Ent} (h : St B o n w (e :: es) W) : St B o n w es W := h.sub (List.sublist_cons_self _ _)
/-- What is there to be read, and nobody here writes it. -/
theorem St.given {b q : Nat} {cs : Array Value} (h : St w.heap.size 0 0 w es W) (hr : w.rangeAt b q cs.toList) (hb : b < w.heap.size) : St w.heap.size 0 0 w (⟨b, q, false, cs⟩ :: es) W := by
  refine ⟨h.touch, fun e he => ?_, List.pairwise_cons.2 ⟨fun y hy hf => .inl ?_, h.sep⟩⟩
  · rcases List.mem_cons.1 he with rfl | he'
    · exact ⟨Nat.lt_of_lt_of_le hb h.size, h.touch.range hb hr (.inl (Nat.ne_of_lt hb)), fun hf => (by cases hf), fun hf => (by cases hf)⟩
    · exact h.good e he'
  · have hy' : y.fr = true := by rcases hf with hf | hf; cases hf; exact hf
    show b ≠ y.b
    rcases (h.good y hy).own hy' with g | ⟨_, _, g⟩
    · omega
    · intro e
      rcases (h.good y hy).own hy' with g | ⟨g, _⟩ <;> omega
/-- What a method is handed: a range that it may write. -/
theorem St.handed {B o : Nat} {w : World} {c : Array Value} (hr : w.rangeAt B o c.toList) (hf : Free w B o c.size) (hB : B < w.heap.size) : St B o c.size w [⟨B, o, true, c⟩] w := by
  refine ⟨Touch.refl _ _ _ _, fun e he => ?_, List.pairwise_cons.2 ⟨fun y hy => (by cases hy), List.Pairwise.nil⟩⟩
  rcases List.mem_cons.1 he with rfl | he'
  · exact ⟨hB, hr, fun _ => hf, fun _ => .inr ⟨rfl, Nat.le_refl _, Nat.le_refl _⟩⟩
  · cases he'
theorem St.below (h : St w.heap.size o n w es W) : Below w.heap.size w W := h.touch.to_below
theorem St.range {e : Ent} (h : St B o n w es W) (hm : e ∈ es) : W.rangeAt e.b e.q e.cs.toList := (h.good e hm).rng
theorem St.there {e : Ent} (h : St B o n w es W) (hm : e ∈ es) (hf : e.fr = true) : W.there e.b e.q e.cs.size := there_of (h.good e hm).rng ((h.good e hm).free hf) (by simp)
theorem St.cell {b q j : Nat} {fr : Bool} {cs : Array Value} {v : Value} (h : St B o n w es W) (hm : (⟨b, q, fr, cs⟩ : Ent) ∈ es) (hv : cs[j]? = some v) : W.cell? ⟨b, q + j, none⟩ = some v :=
  (h.good _ hm).rng j v (by simpa using hv)
theorem St.frozen {b q j : Nat} {cs : Array Value} (h : St B o n w es W) (hm : (⟨b, q, true, cs⟩ : Ent) ∈ es) (hj : j < cs.size) : W.frozen? ⟨b, q + j, none⟩ = false := (h.good _ hm).free rfl j hj
/-- A range in two, and two in one. -/
theorem St.split {b q : Nat} {fr : Bool} {c1 c2 c : Array Value} (h : St B o n w (⟨b, q, fr, c⟩ :: es) W) (hc : c = c1 ++ c2) : St B o n w (⟨b, q, fr, c1⟩ :: ⟨b, q + c1.size, fr, c2⟩ :: es) W := by
  subst hc
  have g := h.good _ (List.Mem.head _)
  have gr : W.rangeAt b q (c1.toList ++ c2.toList) := by have := g.rng; simpa using this
  have hs := (List.pairwise_cons.1 h.sep).1
  refine ⟨h.touch, fun e he => ?_, List.pairwise_cons.2 ⟨fun y hy hf => ?_, List.pairwise_cons.2 ⟨fun y hy hf => ?_, h.sep.of_cons⟩⟩⟩
  · rcases List.mem_cons.1 he with rfl | he
    · refine ⟨g.lt, range_part (xs := []) (ys := c1.toList) (zs := c2.toList) gr, fun hf j hj => g.free hf j (by simp at hj ⊢; omega), fun hf => ?_⟩
      rcases g.own hf with k | ⟨k1, k2, k3⟩
      · exact .inl k
      · simp at k3
        exact .inr ⟨k1, k2, by show q + c1.size ≤ _; omega⟩
    rcases List.mem_cons.1 he with rfl | he
    · refine ⟨g.lt, ?_, fun hf j hj => ?_, fun hf => ?_⟩
      · have := range_part (xs := c1.toList) (ys := c2.toList) (zs := []) (by simpa using gr)
        simpa using this
      · have := g.free hf (c1.size + j) (by simp; omega)
        rwa [← Nat.add_assoc] at this
      · rcases g.own hf with k | ⟨k1, k2, k3⟩
        · exact .inl k
        · simp at k3
          exact .inr ⟨k1, by show o ≤ q + c1.size; simp at k2; omega, by show q + c1.size + c2.size ≤ _; omega⟩
    · exact h.good e (List.Mem.tail _ he)
  · rcases List.mem_cons.1 hy with rfl | hy
    · exact .inr (.inl (Nat.le_refl _))
    · have := hs _ hy hf
      simp only [Ent.apart, Array.size_append] at this ⊢
      omega
  · have := hs _ hy hf
    simp only [Ent.apart, Array.size_append] at this ⊢
    omega
theorem St.join {b q q' : Nat} {fr : Bool} {c1 c2 c : Array Value} (h : St B o n w (⟨b, q, fr, c1⟩ :: ⟨b, q', fr, c2⟩ :: es) W) (hq : q' = q + c1.size) (hc : c1 ++ c2 = c) (hne : ∀ y, y ∈ es → y.cs.size ≠ 0) : St B o n w (⟨b, q, fr, c⟩ :: es) W := by
  subst hc hq
  have g1 := h.good _ (List.Mem.head _)
  have g2 := h.good _ (List.Mem.tail _ (List.Mem.head _))
  have s1 := (List.pairwise_cons.1 h.sep).1
  have s2 := (List.pairwise_cons.1 h.sep.of_cons).1
  refine ⟨h.touch, fun e he => ?_, List.pairwise_cons.2 ⟨fun y hy hf => ?_, h.sep.of_cons.of_cons⟩⟩
  · rcases List.mem_cons.1 he with rfl | he
    · refine ⟨g1.lt, ?_, fun hf j hj => ?_, fun hf => ?_⟩
      · have := range_join g1.rng (by simpa using g2.rng)
        simpa using this
      · by_cases hj1 : j < c1.size
        · exact g1.free hf j hj1
        · have := g2.free hf (j - c1.size) (by simp at hj ⊢; omega)
          rwa [show q + c1.size + (j - c1.size) = q + j by omega] at this
      · rcases g1.own hf with k | ⟨k1, k2, k3⟩
        · exact .inl k
        · rcases g2.own hf with m | ⟨m1, m2, m3⟩
          · exact .inl m
          · exact .inr ⟨k1, k2, by simp; simp at m3; omega⟩
    · exact h.good e (List.Mem.tail _ (List.Mem.tail _ he))
  · have a1 := s1 _ (List.Mem.tail _ hy) hf
    have a2 := s2 _ hy hf
    simp only [Ent.apart, Array.size_append] at a1 a2 ⊢
    have := hne y hy
    omega
end
end Go.Proofs.Ytmoafjgogbcoeaa
