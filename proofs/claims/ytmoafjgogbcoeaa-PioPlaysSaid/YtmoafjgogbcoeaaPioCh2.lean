/- A port's methods behind a pointer ((*pio.Port).look, signal, data, follow), each by its contract. -/
import Derived.Test.YtmoafjgogbcoeaaPioCh
namespace Go.Proofs.Ytmoafjgogbcoeaa
open Go.RowKit
set_option linter.unusedVariables false
set_option maxRecDepth 100000

set_option maxHeartbeats 1000000 in
theorem plook_any (B o : Nat) (x : M.Po) (hx : x.ok) (w : World) (hc : w.rangeAt B o x.v) (hf : Free w B o 11) (hB : B < w.heap.size) : Calls Try.prog 76 #[.pointer (some ⟨B, o, none⟩)] w fun e w' =>
    e = .returned (.tuple #[]) ∧ w'.rangeAt B o (M.pLook x).v ∧ Touch B o 11 w w' := by
  have hso := pso_any B o x hx w hc
  unfold M.pLook
  generalize M.soB x = s at hso ⊢
  have Hso := Lib.hid hso
  clear hso
  obtain ⟨mode, out, inn, dir, vec, mask, con, next, ready, was, pend⟩ := x
  obtain ⟨⟨a1, a2⟩, ⟨a3, a4⟩, ⟨a5, a6⟩, ⟨a7, a8⟩, ⟨a9, a10⟩, ⟨a11, a12⟩, ⟨a13, a14⟩, ⟨a15, a16⟩⟩ := hx
  obtain ⟨c0, c1, c2, c3, c4, c5, c6, c7, c8, c9, c10⟩ := po_cells hc
  simp only at a1 a2 a3 a4 a5 a6 a7 a8 a9 a10 a11 a12 a13 a14 a15 a16 c0 c1 c2 c3 c4 c5 c6 c7 c8 c9 c10
  obtain ⟨f0, f1, f2, f3, f4, f5, f6, f7, f8, f9, f10⟩ := po_free hf
  clear hc hf
  go_enter Try.func76, Try.ntmps76
  go_wp2_with fail
  refine Hso.out.mono ?_
  rintro e w1 ⟨rfl, rfl⟩
  go_wp2_with fail
  go_returns
  exact ⟨rfl, (po_range (by go_cell) (by go_cell) (by go_cell) (by go_cell) (by go_cell) (by go_cell) (by go_cell) (by go_cell) (by go_cell) (by go_cell) (by go_cell)), (by repeat' (first | (with_reducible exact Touch.refl _ _ _ _) | (with_reducible assumption) | (with_reducible refine Touch.drewN ?_ _) | (with_reducible refine Touch.setCell ?_ _ (by omega) (by omega) _)))⟩
set_option maxHeartbeats 1000000 in
theorem psignal_any (B o : Nat) (x : M.Po) (hx : x.ok) (w : World) (hc : w.rangeAt B o x.v) (hf : Free w B o 11) (hB : B < w.heap.size) : Calls Try.prog 75 #[.pointer (some ⟨B, o, none⟩)] w fun e w' =>
    e = .returned (.tuple #[]) ∧ w'.rangeAt B o (M.pSignal x).v ∧ Touch B o 11 w w' := by
  obtain ⟨mode, out, inn, dir, vec, mask, con, next, ready, was, pend⟩ := x
  obtain ⟨⟨a1, a2⟩, ⟨a3, a4⟩, ⟨a5, a6⟩, ⟨a7, a8⟩, ⟨a9, a10⟩, ⟨a11, a12⟩, ⟨a13, a14⟩, ⟨a15, a16⟩⟩ := hx
  obtain ⟨c0, c1, c2, c3, c4, c5, c6, c7, c8, c9, c10⟩ := po_cells hc
  simp only at a1 a2 a3 a4 a5 a6 a7 a8 a9 a10 a11 a12 a13 a14 a15 a16 c0 c1 c2 c3 c4 c5 c6 c7 c8 c9 c10
  obtain ⟨f0, f1, f2, f3, f4, f5, f6, f7, f8, f9, f10⟩ := po_free hf
  clear hc hf
  have h7 := fun W => is_any con 7 a13 a14 W
  unfold M.pSignal
  simp only
  generalize M.is con 7 = s at h7 ⊢
  have H7 := Lib.hid h7
  clear h7
  cases pend
  all_goals
    go_enter Try.func75, Try.ntmps75
    go_wp2_with (refine (H7.out _).mono ?_; rintro e w1 ⟨rfl, rfl⟩)
    go_returns
    exact ⟨rfl, (po_range (by go_cell) (by go_cell) (by go_cell) (by go_cell) (by go_cell) (by go_cell) (by go_cell) (by go_cell) (by go_cell) (by go_cell) (by go_cell)), (by repeat' (first | (with_reducible exact Touch.refl _ _ _ _) | (with_reducible assumption) | (with_reducible refine Touch.drewN ?_ _) | (with_reducible refine Touch.setCell ?_ _ (by omega) (by omega) _)))⟩
set_option maxHeartbeats 2000000 in
theorem pdata_any (B o : Nat) (x : M.Po) (b : Int) (hx : x.ok) (h0 : 0 ≤ b) (h1 : b ≤ 255) (w : World) (hc : w.rangeAt B o x.v) (hf : Free w B o 11) (hB : B < w.heap.size) : Calls Try.prog 72 #[.pointer (some ⟨B, o, none⟩), .int .u8 b] w fun e w' =>
    e = .returned (.tuple #[]) ∧ w'.rangeAt B o (M.pData x b).v ∧ Touch B o 11 w w' := by
  obtain ⟨mode, out, inn, dir, vec, mask, con, next, ready, was, pend⟩ := x
  obtain ⟨⟨a1, a2⟩, ⟨a3, a4⟩, ⟨a5, a6⟩, ⟨a7, a8⟩, ⟨a9, a10⟩, ⟨a11, a12⟩, ⟨a13, a14⟩, ⟨a15, a16⟩⟩ := hx
  obtain ⟨c0, c1, c2, c3, c4, c5, c6, c7, c8, c9, c10⟩ := po_cells hc
  simp only at a1 a2 a3 a4 a5 a6 a7 a8 a9 a10 a11 a12 a13 a14 a15 a16 c0 c1 c2 c3 c4 c5 c6 c7 c8 c9 c10
  obtain ⟨f0, f1, f2, f3, f4, f5, f6, f7, f8, f9, f10⟩ := po_free hf
  clear hc hf
  by_cases m0 : mode = 0
  · subst m0
    cases ready
    all_goals
      go_enter Try.func72, Try.ntmps72
      go_wp2_with fail
      go_returns
      exact ⟨rfl, (po_range (by go_cell) (by go_cell) (by go_cell) (by go_cell) (by go_cell) (by go_cell) (by go_cell) (by go_cell) (by go_cell) (by go_cell) (by go_cell)), (by repeat' (first | (with_reducible exact Touch.refl _ _ _ _) | (with_reducible assumption) | (with_reducible refine Touch.drewN ?_ _) | (with_reducible refine Touch.setCell ?_ _ (by omega) (by omega) _)))⟩
  · by_cases m2 : mode = 2
    · subst m2
      cases ready
      all_goals
        go_enter Try.func72, Try.ntmps72
        go_wp2_with fail
        go_returns
        exact ⟨rfl, (po_range (by go_cell) (by go_cell) (by go_cell) (by go_cell) (by go_cell) (by go_cell) (by go_cell) (by go_cell) (by go_cell) (by go_cell) (by go_cell)), (by repeat' (first | (with_reducible exact Touch.refl _ _ _ _) | (with_reducible assumption) | (with_reducible refine Touch.drewN ?_ _) | (with_reducible refine Touch.setCell ?_ _ (by omega) (by omega) _)))⟩
    · have hX : M.pData ⟨mode, out, inn, dir, vec, mask, con, next, ready, was, pend⟩ b = ⟨mode, b, inn, dir, vec, mask, con, next, ready, was, pend⟩ := by
        simp [M.pData, show (mode == 0) = false by simpa using m0, show (mode == 2) = false by simpa using m2]
      rw [hX]
      clear hX
      cases ready
      all_goals
        go_enter Try.func72, Try.ntmps72
        go_wp2_with fail
        go_returns
        exact ⟨rfl, (po_range (by go_cell) (by go_cell) (by go_cell) (by go_cell) (by go_cell) (by go_cell) (by go_cell) (by go_cell) (by go_cell) (by go_cell) (by go_cell)), (by repeat' (first | (with_reducible exact Touch.refl _ _ _ _) | (with_reducible assumption) | (with_reducible refine Touch.drewN ?_ _) | (with_reducible refine Touch.setCell ?_ _ (by omega) (by omega) _)))⟩
set_option maxHeartbeats 2000000 in
theorem pfollow_any (B o : Nat) (x : M.Po) (b : Int) (hx : x.ok) (h0 : 0 ≤ b) (h1 : b ≤ 255) (w : World) (hc : w.rangeAt B o x.v) (hf : Free w B o 11) (hB : B < w.heap.size) : Calls Try.prog 87 #[.pointer (some ⟨B, o, none⟩), .int .u8 b] w fun e w' =>
    e = .returned (.tuple #[]) ∧ w'.rangeAt B o (M.pFollow x b).v ∧ Touch B o 11 w w' := by
  have hx1 : M.Po.ok { x with dir := b, next := 0 } := ⟨hx.1, hx.2.1, hx.2.2.1, ⟨h0, h1⟩, hx.2.2.2.2.1, hx.2.2.2.2.2.1, hx.2.2.2.2.2.2.1, by simp⟩
  have hx2 : M.Po.ok { x with mask := b, next := 0 } := ⟨hx.1, hx.2.1, hx.2.2.1, hx.2.2.2.1, hx.2.2.2.2.1, ⟨h0, h1⟩, hx.2.2.2.2.2.2.1, by simp⟩
  have k1 := Lib.hid (plook_any B o { x with dir := b, next := 0 } hx1)
  have k2 := Lib.hid (plook_any B o { x with mask := b, next := 0 } hx2)
  have hff := Lib.hid hf
  obtain ⟨mode, out, inn, dir, vec, mask, con, next, ready, was, pend⟩ := x
  obtain ⟨⟨a1, a2⟩, ⟨a3, a4⟩, ⟨a5, a6⟩, ⟨a7, a8⟩, ⟨a9, a10⟩, ⟨a11, a12⟩, ⟨a13, a14⟩, ⟨a15, a16⟩⟩ := hx
  obtain ⟨c0, c1, c2, c3, c4, c5, c6, c7, c8, c9, c10⟩ := po_cells hc
  simp only at a1 a2 a3 a4 a5 a6 a7 a8 a9 a10 a11 a12 a13 a14 a15 a16 c0 c1 c2 c3 c4 c5 c6 c7 c8 c9 c10
  obtain ⟨f0, f1, f2, f3, f4, f5, f6, f7, f8, f9, f10⟩ := po_free hf
  clear hc hf
  by_cases n1 : next = 1
  · have hX : M.pFollow ⟨mode, out, inn, dir, vec, mask, con, next, ready, was, pend⟩ b = M.pLook ⟨mode, out, inn, b, vec, mask, con, 0, ready, was, pend⟩ := by simp [M.pFollow, n1]
    rw [hX]
    clear hX k2
    subst n1
    go_enter Try.func87, Try.ntmps87
    go_wp2_with fail
    refine (k1.out _ (po_range (by go_cell) (by go_cell) (by go_cell) (by go_cell) (by go_cell) (by go_cell) (by go_cell) (by go_cell) (by go_cell) (by go_cell) (by go_cell)) (Free.touch (B := B) (o := o) (n := 11) hff.out (by repeat' (first | (with_reducible exact Touch.refl _ _ _ _) | (with_reducible assumption) | (with_reducible refine Touch.drewN ?_ _) | (with_reducible refine Touch.setCell ?_ _ (by omega) (by omega) _))) hB) (Nat.lt_of_lt_of_le hB (Touch.size (B := B) (o := o) (n := 11) (by repeat' (first | (with_reducible exact Touch.refl _ _ _ _) | (with_reducible assumption) | (with_reducible refine Touch.drewN ?_ _) | (with_reducible refine Touch.setCell ?_ _ (by omega) (by omega) _)))))).mono ?_
    rintro e w1 ⟨rfl, hr1, ht1⟩
    replace ht1 := Touch.trans (w := w) (by repeat' (first | (with_reducible exact Touch.refl _ _ _ _) | (with_reducible assumption) | (with_reducible refine Touch.drewN ?_ _) | (with_reducible refine Touch.setCell ?_ _ (by omega) (by omega) _))) ht1
    go_wp2_with fail
    go_returns
    exact ⟨rfl, hr1, ht1⟩
  · have hX : M.pFollow ⟨mode, out, inn, dir, vec, mask, con, next, ready, was, pend⟩ b = M.pLook ⟨mode, out, inn, dir, vec, b, con, 0, ready, was, pend⟩ := by simp [M.pFollow, n1]
    rw [hX]
    clear hX k1
    go_enter Try.func87, Try.ntmps87
    go_wp2_with fail
    refine (k2.out _ (po_range (by go_cell) (by go_cell) (by go_cell) (by go_cell) (by go_cell) (by go_cell) (by go_cell) (by go_cell) (by go_cell) (by go_cell) (by go_cell)) (Free.touch (B := B) (o := o) (n := 11) hff.out (by repeat' (first | (with_reducible exact Touch.refl _ _ _ _) | (with_reducible assumption) | (with_reducible refine Touch.drewN ?_ _) | (with_reducible refine Touch.setCell ?_ _ (by omega) (by omega) _))) hB) (Nat.lt_of_lt_of_le hB (Touch.size (B := B) (o := o) (n := 11) (by repeat' (first | (with_reducible exact Touch.refl _ _ _ _) | (with_reducible assumption) | (with_reducible refine Touch.drewN ?_ _) | (with_reducible refine Touch.setCell ?_ _ (by omega) (by omega) _)))))).mono ?_
    rintro e w1 ⟨rfl, hr1, ht1⟩
    replace ht1 := Touch.trans (w := w) (by repeat' (first | (with_reducible exact Touch.refl _ _ _ _) | (with_reducible assumption) | (with_reducible refine Touch.drewN ?_ _) | (with_reducible refine Touch.setCell ?_ _ (by omega) (by omega) _))) ht1
    go_wp2_with fail
    go_returns
    exact ⟨rfl, hr1, ht1⟩
end Go.Proofs.Ytmoafjgogbcoeaa
