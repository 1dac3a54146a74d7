/- Two ports in one box, and a call that turns one of them; the types' sizes. -/
import Derived.Test.YtmoafjgogbcoeaaPioCtl
import Derived.Test.YtmoafjgogbcoeaaRowOps
import Derived.Test.YtmoafjgogbcoeaaRowOpsG
namespace Go.Proofs.Ytmoafjgogbcoeaa
open Go.RowKit
set_option linter.unusedVariables false
set_option maxRecDepth 100000

theorem pi_size (p : M.Pi2) : p.a.size = 22 := rfl
theorem pi_one (p : M.Pi2) : p.a.all (·.oneCell') = true := by simp [M.Pi2.a, M.Pi2.v, M.Po.v, Value.oneCell']
theorem po_size (x : M.Po) : x.a.size = 11 := rfl
theorem po_one (x : M.Po) : x.a.all (·.oneCell') = true := by simp [M.Po.a, M.Po.v, Value.oneCell']
def PiAt (w : World) (B : Nat) (p : M.Pi2) : Prop := w.rangeAt B 0 p.a.toList ∧ Free w B 0 22 ∧ B < w.heap.size
theorem free_part {w : World} {b o n : Nat} (h : Free w b o n) (p m : Nat) (h1 : o ≤ p) (h2 : p + m ≤ o + n) : Free w b p m := fun j hj => by
  have := h (p - o + j) (by omega)
  rwa [show o + (p - o + j) = p + j by omega] at this
theorem pi_ranges {W : World} {B : Nat} {p : M.Pi2} (h : W.rangeAt B 0 p.a.toList) : W.rangeAt B 0 p.p0.v ∧ W.rangeAt B 11 p.p1.v := by
  refine ⟨range_part (xs := []) (ys := p.p0.v) (zs := p.p1.v) h, range_part (xs := p.p0.v) (ys := p.p1.v) (zs := []) (by rw [List.append_nil]; exact h)⟩
theorem pi_at {W : World} {B : Nat} {p : M.Pi2} (h : W.rangeAt B 0 p.a.toList) (k : Nat) (hk : k < 2) : W.rangeAt B (11 * k) (p.at k).v := by
  obtain ⟨h0, h1⟩ := pi_ranges h
  rcases (show k = 0 ∨ k = 1 by omega) with rfl | rfl <;> assumption
theorem pi_turn {W W' : World} {B : Nat} {p : M.Pi2} {x : M.Po} (h : PiAt W B p) (k : Nat) (hk : k < 2) (hr : W'.rangeAt B (11 * k) x.v) (ht : Touch B (11 * k) 11 W W') : PiAt W' B (p.set x k) ∧ Touch B 0 22 W W' := by
  obtain ⟨hr0, hf, hB⟩ := h
  have hT : Touch B 0 22 W W' := ht.wide (by omega) (by omega)
  refine ⟨⟨?_, hf.touch hT hB, Nat.lt_of_lt_of_le hB hT.size⟩, hT⟩
  obtain ⟨h0, h1⟩ := pi_ranges hr0
  have k0 := fun hd => ht.range hB h0 (.inr hd)
  have k1 := fun hd => ht.range hB h1 (.inr hd)
  simp only [M.Po.v, List.length_cons, List.length_nil] at k0 k1
  rcases (show k = 0 ∨ k = 1 by omega) with rfl | rfl
  · exact range_join hr (k1 (by omega))
  · exact range_join (k0 (by omega)) hr
theorem pi_new (w : World) (p : M.Pi2) (t : TypeId) : PiAt (w.alloc (.cells p.a t)) w.heap.size p := ⟨range_new w p.a t, free_new w p.a t 22, by simp⟩
theorem PiAt.alloc {w : World} {B : Nat} {p : M.Pi2} (h : PiAt w B p) (ob : Obj) : PiAt (w.alloc ob) B p := ⟨range_alloc h.1 ob, h.2.1.alloc h.2.2 ob, by have := h.2.2; simp; omega⟩
theorem PiAt.belowX {X W : World} {B : Nat} {p : M.Pi2} (h : PiAt X B p) (hb : Below X.heap.size X W) : PiAt W B p :=
  ⟨range_below h.1 hb h.2.2, fun j hj => by rw [hb.frozen (p := ⟨B, 0 + j, none⟩) h.2.2]; exact h.2.1 j hj, Nat.lt_of_lt_of_le h.2.2 hb.size⟩
theorem PiAt.drew {w : World} {B : Nat} {p : M.Pi2} (h : PiAt w B p) : PiAt w.drew B p := h.belowX (Below.refl _ _).drew
theorem pi_at_ok {p : M.Pi2} (hp : p.ok) (k : Nat) : (p.at k).ok := by
  unfold M.Pi2.at
  split
  · exact hp.1
  · exact hp.2
theorem pdata_at (B k : Nat) (hk : k < 2) (p : M.Pi2) (b : Int) (hp : p.ok) (h0 : 0 ≤ b) (h1 : b ≤ 255) (w : World) (h : PiAt w B p) : Calls Try.prog 72 #[.pointer (some ⟨B, 11 * k, none⟩), .int .u8 b] w fun e' w' =>
    e' = .returned (.tuple #[]) ∧ PiAt w' B (p.set (M.pData (p.at k) b) k) ∧ Touch B 0 22 w w' :=
  (pdata_any B (11 * k) (p.at k) b (pi_at_ok hp k) h0 h1 w (pi_at h.1 k hk) (free_part h.2.1 _ _ (by omega) (by omega)) h.2.2).mono fun e w' ⟨he, hr, ht⟩ => ⟨he, pi_turn h k hk hr ht⟩
theorem pcontrol_at (B k : Nat) (hk : k < 2) (p : M.Pi2) (b : Int) (hp : p.ok) (h0 : 0 ≤ b) (h1 : b ≤ 255) (w : World) (h : PiAt w B p) : Calls Try.prog 73 #[.pointer (some ⟨B, 11 * k, none⟩), .int .u8 b] w fun e' w' =>
    e' = .returned (.tuple #[]) ∧ PiAt w' B (p.set (M.pControl (p.at k) b) k) ∧ Touch B 0 22 w w' :=
  (pcontrol_any B (11 * k) (p.at k) b (pi_at_ok hp k) h0 h1 w (pi_at h.1 k hk) (free_part h.2.1 _ _ (by omega) (by omega)) h.2.2).mono fun e w' ⟨he, hr, ht⟩ => ⟨he, pi_turn h k hk hr ht⟩
theorem info80c (p : M.Pi2) : (Try.prog.info? 80).map (·.size) = some p.a.size := by rw [pi_size]; kernel_rfl
theorem info77c (x : M.Po) : (Try.prog.info? 77).map (·.size) = some x.a.size := by rw [po_size]; kernel_rfl
theorem zero80 : ∃ Z : Array Value, Z.size = 22 ∧ ∀ w : World, (zeroValue 80).run Try.prog w = .ok (.agg Z) w := ⟨_, by rfl, fun w => Try.zeroValue80 w⟩
theorem zero77 : ∃ Z : Array Value, Z.size = 11 ∧ ∀ w : World, (zeroValue 77).run Try.prog w = .ok (.agg Z) w := ⟨_, by rfl, fun w => Try.zeroValue77 w⟩
end Go.Proofs.Ytmoafjgogbcoeaa
