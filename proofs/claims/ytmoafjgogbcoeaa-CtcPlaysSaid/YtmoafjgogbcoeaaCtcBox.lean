/- Four counters in one box, and a call that turns one of them. The reading of the types of four counters. -/
import Derived.Test.YtmoafjgogbcoeaaCtcTick
import Derived.Test.YtmoafjgogbcoeaaRowOps
namespace Go.Proofs.Ytmoafjgogbcoeaa
open Go.RowKit
set_option linter.unusedVariables false

/-- The cells as an array. -/
def M.Ct.a (c : M.Ct) : Array Value := c.v.toArray
theorem ct_size (c : M.Ct) : c.a.size = 33 := rfl
theorem ct_one (c : M.Ct) : c.a.all (·.oneCell') = true := by simp [M.Ct.a, M.Ct.v, M.Ch.v, Value.oneCell']
def M.E4.a (c : M.E4) : Array Value := c.v.toArray
theorem e4_size (c : M.E4) : c.a.size = 4 := rfl
theorem e4_one (c : M.E4) : c.a.all (·.oneCell') = true := by simp [M.E4.a, M.E4.v, Value.oneCell']
def M.Ch.a (c : M.Ch) : Array Value := c.v.toArray
theorem ch_size (c : M.Ch) : c.a.size = 8 := rfl
theorem ch_one (c : M.Ch) : c.a.all (·.oneCell') = true := by simp [M.Ch.a, M.Ch.v, Value.oneCell']
/-- Four counters lie in block B. -/
def CtAt (w : World) (B : Nat) (c : M.Ct) : Prop := w.rangeAt B 0 c.a.toList ∧ Free w B 0 33 ∧ B < w.heap.size
theorem Free.part {w : World} {b o n : Nat} (h : Free w b o n) (p m : Nat) (h1 : o ≤ p) (h2 : p + m ≤ o + n) : Free w b p m := fun j hj => by
  have := h (p - o + j) (by omega)
  rwa [show o + (p - o + j) = p + j by omega] at this
theorem ct_ranges {W : World} {B : Nat} {c : M.Ct} (h : W.rangeAt B 0 c.a.toList) : W.rangeAt B 0 c.c0.v ∧ W.rangeAt B 8 c.c1.v ∧ W.rangeAt B 16 c.c2.v ∧ W.rangeAt B 24 c.c3.v ∧ W.rangeAt B 32 [.int .u8 c.vec] := by
  refine ⟨?_, ?_, ?_, ?_, ?_⟩
  · exact range_part (xs := []) (ys := c.c0.v) (zs := c.c1.v ++ c.c2.v ++ c.c3.v ++ [Value.int .u8 c.vec]) (by simpa [M.Ct.a, M.Ct.v, List.append_assoc] using h)
  · exact range_part (xs := c.c0.v) (ys := c.c1.v) (zs := c.c2.v ++ c.c3.v ++ [Value.int .u8 c.vec]) (by simpa [M.Ct.a, M.Ct.v, List.append_assoc] using h)
  · exact range_part (xs := c.c0.v ++ c.c1.v) (ys := c.c2.v) (zs := c.c3.v ++ [Value.int .u8 c.vec]) (by simpa [M.Ct.a, M.Ct.v, List.append_assoc] using h)
  · exact range_part (xs := c.c0.v ++ c.c1.v ++ c.c2.v) (ys := c.c3.v) (zs := [.int .u8 c.vec]) h
  · exact range_part (xs := c.c0.v ++ c.c1.v ++ c.c2.v ++ c.c3.v) (ys := [.int .u8 c.vec]) (zs := []) (by rw [List.append_nil]; exact h)
theorem ct_of {W : World} {B : Nat} {c : M.Ct} (h0 : W.rangeAt B 0 c.c0.v) (h1 : W.rangeAt B 8 c.c1.v) (h2 : W.rangeAt B 16 c.c2.v) (h3 : W.rangeAt B 24 c.c3.v) (h4 : W.rangeAt B 32 [.int .u8 c.vec]) : W.rangeAt B 0 c.a.toList :=
  range_join (range_join (range_join (range_join h0 h1) h2) h3) h4
theorem ct_at {W : World} {B : Nat} {c : M.Ct} (h : W.rangeAt B 0 c.a.toList) (k : Nat) (hk : k < 4) : W.rangeAt B (8 * k) (c.at k).v := by
  obtain ⟨h0, h1, h2, h3, h4⟩ := ct_ranges h
  rcases (show k = 0 ∨ k = 1 ∨ k = 2 ∨ k = 3 by omega) with rfl | rfl | rfl | rfl <;> assumption
theorem ct_turn {W W' : World} {B : Nat} {c : M.Ct} {x : M.Ch} (h : CtAt W B c) (k : Nat) (hk : k < 4) (hr : W'.rangeAt B (8 * k) x.v) (ht : Touch B (8 * k) 8 W W') : CtAt W' B (c.set x k) ∧ Touch B 0 33 W W' := by
  obtain ⟨hr0, hf, hB⟩ := h
  have hT : Touch B 0 33 W W' := ht.wide (by omega) (by omega)
  refine ⟨⟨?_, hf.touch hT hB, Nat.lt_of_lt_of_le hB hT.size⟩, hT⟩
  obtain ⟨h0, h1, h2, h3, h4⟩ := ct_ranges hr0
  have k0 := fun hd => ht.range hB h0 (.inr hd)
  have k1 := fun hd => ht.range hB h1 (.inr hd)
  have k2 := fun hd => ht.range hB h2 (.inr hd)
  have k3 := fun hd => ht.range hB h3 (.inr hd)
  have k4 := fun hd => ht.range hB h4 (.inr hd)
  simp only [M.Ch.v, List.length_cons, List.length_nil] at k0 k1 k2 k3 k4
  rcases (show k = 0 ∨ k = 1 ∨ k = 2 ∨ k = 3 by omega) with rfl | rfl | rfl | rfl
  · exact ct_of (c := c.set x 0) hr (k1 (by omega)) (k2 (by omega)) (k3 (by omega)) (k4 (by omega))
  · exact ct_of (c := c.set x 1) (k0 (by omega)) hr (k2 (by omega)) (k3 (by omega)) (k4 (by omega))
  · exact ct_of (c := c.set x 2) (k0 (by omega)) (k1 (by omega)) hr (k3 (by omega)) (k4 (by omega))
  · exact ct_of (c := c.set x 3) (k0 (by omega)) (k1 (by omega)) (k2 (by omega)) hr (k4 (by omega))
theorem ct_new (w : World) (c : M.Ct) (t : TypeId) : CtAt (w.alloc (.cells c.a t)) w.heap.size c := ⟨range_new w c.a t, free_new w c.a t 33, by simp⟩
theorem CtAt.alloc {w : World} {B : Nat} {c : M.Ct} (h : CtAt w B c) (ob : Obj) : CtAt (w.alloc ob) B c := ⟨range_alloc h.1 ob, h.2.1.alloc h.2.2 ob, by have := h.2.2; simp; omega⟩
theorem CtAt.drew {w : World} {B : Nat} {c : M.Ct} (h : CtAt w B c) : CtAt w.drew B c := ⟨range_drew h.1, fun j hj => by rw [World.frozen?_drew]; exact h.2.1 j hj, h.2.2⟩
theorem CtAt.touch {w w' : World} {B b o n : Nat} {c : M.Ct} (h : CtAt w B c) (ht : Touch b o n w w') (hd : B ≠ b) : CtAt w' B c :=
  ⟨ht.range h.2.2 h.1 (.inl hd), h.2.1.touch ht h.2.2, Nat.lt_of_lt_of_le h.2.2 ht.size⟩
theorem CtAt.pend {w : World} {B : Nat} {c : M.Ct} (h : CtAt w B c) : w.cell? ⟨B, 7, none⟩ = some (.bool c.c0.pend) ∧ w.cell? ⟨B, 15, none⟩ = some (.bool c.c1.pend) ∧ w.cell? ⟨B, 23, none⟩ = some (.bool c.c2.pend) ∧ w.cell? ⟨B, 31, none⟩ = some (.bool c.c3.pend) ∧ w.cell? ⟨B, 32, none⟩ = some (.int .u8 c.vec) := by
  obtain ⟨h0, h1, h2, h3, h4⟩ := ct_ranges h.1
  exact ⟨h0 7 _ rfl, h1 7 _ rfl, h2 7 _ rfl, h3 7 _ rfl, h4 0 _ rfl⟩
theorem ct_vec {W : World} {B : Nat} {c : M.Ct} (h : CtAt W B c) (v : Int) : (W.setCell ⟨B, 32, none⟩ (.int .u8 v)).rangeAt B 0 ({ c with vec := v } : M.Ct).a.toList := by
  obtain ⟨hr, hf, hB⟩ := h
  obtain ⟨h0, h1, h2, h3, h4⟩ := ct_ranges hr
  have ht := (Touch.refl B 32 1 W).setCell 32 (by omega) (by omega) (.int .u8 v)
  refine ct_of (c := { c with vec := v }) (ht.range hB h0 (.inr (.inl (by simp [M.Ch.v])))) (ht.range hB h1 (.inr (.inl (by simp [M.Ch.v])))) (ht.range hB h2 (.inr (.inl (by simp [M.Ch.v])))) (ht.range hB h3 (.inr (.inl (by simp [M.Ch.v])))) ?_
  intro j u hu
  rcases j with _ | j
  · simp at hu
    subst hu
    exact World.cell?_setCell_same _ _ _ (h4 0 _ rfl)
  · simp at hu
theorem ctold_at (B k : Nat) (hk : k < 4) (c : M.Ct) (b : Int) (hc : c.ok) (h0 : 0 ≤ b) (h1 : b ≤ 255) (w : World) (h : CtAt w B c) : Calls Try.prog 64 #[.pointer (some ⟨B, 8 * k, none⟩), .int .u8 b] w fun e' w' =>
    e' = .returned (.tuple #[]) ∧ CtAt w' B (c.set (M.told (c.at k) b) k) ∧ Touch B 0 33 w w' :=
  (ctold_any B (8 * k) (c.at k) b (M.at_ok hc k) h0 h1 w (ct_at h.1 k hk) (h.2.1.part _ _ (by omega) (by omega)) h.2.2).mono fun e w' ⟨he, hr, ht⟩ => ⟨he, ct_turn h k hk hr ht⟩
theorem ctick_at (B k : Nat) (hk : k < 4) (c : M.Ct) (e : Bool) (hc : c.ok) (w : World) (h : CtAt w B c) : Calls Try.prog 68 #[.pointer (some ⟨B, 8 * k, none⟩), .bool e] w fun e' w' =>
    e' = .returned (.bool (M.tickZ (c.at k) e)) ∧ CtAt w' B (c.set (M.tickX (c.at k) e) k) ∧ Touch B 0 33 w w' :=
  (ctick_any B (8 * k) (c.at k) e (M.at_ok hc k) w (ct_at h.1 k hk) (h.2.1.part _ _ (by omega) (by omega)) h.2.2).mono fun e w' ⟨he, hr, ht⟩ => ⟨he, ct_turn h k hk hr ht⟩

theorem info47 : (Try.prog.info? 47).map (·.size) = some 33 := by kernel_rfl
theorem info44 : (Try.prog.info? 44).map (·.size) = some 8 := by kernel_rfl
theorem info51 : (Try.prog.info? 51).map (·.size) = some 33 := by kernel_rfl
theorem info48 : (Try.prog.info? 48).map (·.size) = some 8 := by kernel_rfl
theorem info58 : (Try.prog.info? 58).map (·.size) = some 4 := by kernel_rfl
theorem info47c (c : M.Ct) : (Try.prog.info? 47).map (·.size) = some c.a.size := by rw [ct_size]; exact info47
theorem info51c (c : M.Ct) : (Try.prog.info? 51).map (·.size) = some c.a.size := by rw [ct_size]; exact info51
theorem info44c (c : M.Ch) : (Try.prog.info? 44).map (·.size) = some c.a.size := by rw [ch_size]; exact info44
theorem info48c (c : M.Ch) : (Try.prog.info? 48).map (·.size) = some c.a.size := by rw [ch_size]; exact info48
theorem info58c (c : M.E4) : (Try.prog.info? 58).map (·.size) = some c.a.size := by rw [e4_size]; exact info58
theorem zero47 : ∃ Z : Array Value, Z.size = 33 ∧ ∀ w : World, (zeroValue 47).run Try.prog w = .ok (.agg Z) w := ⟨_, by rfl, fun w => Try.zeroValue47 w⟩
theorem zero44 : ∃ Z : Array Value, Z.size = 8 ∧ ∀ w : World, (zeroValue 44).run Try.prog w = .ok (.agg Z) w := ⟨_, by rfl, fun w => Try.zeroValue44 w⟩
theorem zero51 : ∃ Z : Array Value, Z.size = 33 ∧ ∀ w : World, (zeroValue 51).run Try.prog w = .ok (.agg Z) w := ⟨_, by rfl, fun w => Try.zeroValue51 w⟩
theorem zero48 : ∃ Z : Array Value, Z.size = 8 ∧ ∀ w : World, (zeroValue 48).run Try.prog w = .ok (.agg Z) w := ⟨_, by rfl, fun w => Try.zeroValue48 w⟩
end Go.Proofs.Ytmoafjgogbcoeaa
