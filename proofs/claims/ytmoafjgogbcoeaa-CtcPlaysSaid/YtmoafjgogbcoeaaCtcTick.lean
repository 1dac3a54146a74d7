/- A counter's step ((*ctc.Channel).tick) and what it is told ((*ctc.Channel).told), each by its contract. -/
import Derived.Test.YtmoafjgogbcoeaaCtcCh
namespace Go.Proofs.Ytmoafjgogbcoeaa
open Go.RowKit
set_option linter.unusedVariables false

theorem scale_s {x : M.Ch} {b : Bool} (h : M.is x.con 5 = b) : M.scale x = bif b then 256 else 16 := by unfold M.scale; rw [h]; cases b <;> rfl
set_option maxHeartbeats 4000000 in
theorem ctick_any (B o : Nat) (x : M.Ch) (e : Bool) (hx : x.ok) (w : World) (hc : w.rangeAt B o x.v) (hf : Free w B o 8) (hB : B < w.heap.size) : Calls Try.prog 68 #[.pointer (some ⟨B, o, none⟩), .bool e] w fun e' w' =>
    e' = .returned (.bool (M.tickZ x e)) ∧ w'.rangeAt B o (M.tickX x e).v ∧ Touch B o 8 w w' := by
  have hsc := fun W hW => cscale_any B o x hx.1.1 hx.1.2 W hW
  obtain ⟨con, cst, cnt, pre, runs, waits, wants, pend⟩ := x
  have hx0 : M.Ch.ok ⟨con, cst, cnt, 0, runs, waits, wants, pend⟩ := ⟨hx.1, hx.2.1, hx.2.2.1, by simp⟩
  have hx1 := hx
  obtain ⟨⟨a1, a2⟩, ⟨a3, a4⟩, ⟨a5, a6⟩, ⟨a7, a8⟩⟩ := hx
  obtain ⟨c0, c1, c2, c3, c4, c5, c6, c7⟩ := ch_cells hc
  obtain ⟨f0, f1, f2, f3, f4, f5, f6, f7⟩ := ch_free hf
  simp only at a1 a2 a3 a4 a5 a6 a7 a8 c0 c1 c2 c3 c4 c5 c6 c7
  have hc' := Lib.hid hc
  have hf' := Lib.hid hf
  clear hc hf
  have hH := fun W hW => chas_any B o con 6 a1 a2 W hW
  have quick1 : ∀ (h : (waits && e) = true), Calls Try.prog 68 #[.pointer (some ⟨B, o, none⟩), .bool e] w fun e' w' =>
      e' = .returned (.bool false) ∧ w'.rangeAt B o [.int .u8 con, .int .u8 cst, .int .i64 cnt, .int .i64 pre, .bool true, .bool false, .bool wants, .bool pend] ∧ Touch B o 8 w w' := by
    intro h
    simp only [Bool.and_eq_true] at h
    obtain ⟨rfl, rfl⟩ := h
    clear hsc hH
    go_enter Try.func68, Try.ntmps68
    go_wp2_with fail
    go_returns
    exact ⟨rfl, ch_range (by go_cell) (by go_cell) (by go_cell) (by go_cell) (by go_cell) (by go_cell) (by go_cell) (by go_cell), (by repeat' (first | (with_reducible exact Touch.refl _ _ _ _) | (with_reducible refine Touch.drewN ?_ _) | (with_reducible refine Touch.setCell ?_ _ (by omega) (by omega) _)))⟩
  cases hwe : (waits && e) with
  | true =>
    have h1 : M.tickX ⟨con, cst, cnt, pre, runs, waits, wants, pend⟩ e = ⟨con, cst, cnt, pre, true, false, wants, pend⟩ := by simp only [M.tickX, hwe, if_true]
    have h2 : M.tickZ ⟨con, cst, cnt, pre, runs, waits, wants, pend⟩ e = false := by simp only [M.tickZ, hwe, if_true]
    rw [h1, h2]
    exact quick1 hwe
  | false =>
    clear quick1
    have hwe3 : (waits = false ∧ e = false) ∨ (waits = false ∧ e = true) ∨ (waits = true ∧ e = false) := by revert hwe; cases waits <;> cases e <;> simp
    clear hwe
    cases runs with
    | false =>
      clear hsc hH
      rcases hwe3 with ⟨rfl, rfl⟩ | ⟨rfl, rfl⟩ | ⟨rfl, rfl⟩
      all_goals
        have h1 : ∀ e, (true && e) = e := fun e => rfl
        show Calls _ _ _ _ fun e' w' => e' = .returned (.bool false) ∧ w'.rangeAt B o [.int .u8 con, .int .u8 cst, .int .i64 cnt, .int .i64 pre, .bool _, .bool _, .bool wants, .bool pend] ∧ Touch B o 8 w w'
        go_enter Try.func68, Try.ntmps68
        go_wp2_with fail
        go_returns
        exact ⟨rfl, hc'.out, Touch.refl B o 8 w⟩
    | true =>
      cases h6 : M.is con 6 with
      | true =>
        rw [h6] at hH
        have HH := Lib.hid hH
        have hD := Lib.hid (cdown_any B o ⟨con, cst, cnt, pre, true, waits, wants, pend⟩ hx1)
        have hX : M.tickX ⟨con, cst, cnt, pre, true, waits, wants, pend⟩ e = bif e then M.downX ⟨con, cst, cnt, pre, true, waits, wants, pend⟩ else ⟨con, cst, cnt, pre, true, waits, wants, pend⟩ := by
          rcases hwe3 with ⟨rfl, rfl⟩ | ⟨rfl, rfl⟩ | ⟨rfl, rfl⟩ <;> simp [M.tickX, h6]
        have hZ : M.tickZ ⟨con, cst, cnt, pre, true, waits, wants, pend⟩ e = bif e then M.downZ ⟨con, cst, cnt, pre, true, waits, wants, pend⟩ else false := by
          rcases hwe3 with ⟨rfl, rfl⟩ | ⟨rfl, rfl⟩ | ⟨rfl, rfl⟩ <;> simp [M.tickZ, h6]
        rw [hX, hZ]
        clear hX hZ hsc hH h6
        rcases hwe3 with ⟨rfl, rfl⟩ | ⟨rfl, rfl⟩ | ⟨rfl, rfl⟩
        all_goals simp only [cond_true, cond_false]
        · go_enter Try.func68, Try.ntmps68
          go_wp2_with fail
          refine (HH.out _ (by go_cell)).mono ?_
          rintro e w1 ⟨rfl, rfl⟩
          go_wp2_with fail
          go_returns
          exact ⟨rfl, hc'.out, Touch.refl B o 8 w⟩
        · go_enter Try.func68, Try.ntmps68
          go_wp2_with fail
          refine (HH.out _ (by go_cell)).mono ?_
          rintro e w1 ⟨rfl, rfl⟩
          go_wp2_with fail
          refine (hD.out _ hc'.out hf'.out hB).mono ?_
          rintro e w1 ⟨rfl, hr1, ht1⟩
          go_wp2_with fail
          go_returns
          exact ⟨rfl, hr1, ht1⟩
        · go_enter Try.func68, Try.ntmps68
          go_wp2_with fail
          refine (HH.out _ (by go_cell)).mono ?_
          rintro e w1 ⟨rfl, rfl⟩
          go_wp2_with fail
          go_returns
          exact ⟨rfl, hc'.out, Touch.refl B o 8 w⟩
      | false =>
        rw [h6] at hH
        have HH := Lib.hid hH
        obtain ⟨s, hs⟩ : ∃ s, s = M.scale ⟨con, cst, cnt, pre, true, waits, wants, pend⟩ := ⟨_, rfl⟩
        rw [← hs] at hsc
        have HS := Lib.hid hsc
        have hD := Lib.hid (cdown_any B o ⟨con, cst, cnt, 0, true, waits, wants, pend⟩ hx0)
        by_cases hlt : wrap64 (pre + 1) < s
        · have hX : M.tickX ⟨con, cst, cnt, pre, true, waits, wants, pend⟩ e = ⟨con, cst, cnt, wrap64 (pre + 1), true, waits, wants, pend⟩ := by
            rcases hwe3 with ⟨rfl, rfl⟩ | ⟨rfl, rfl⟩ | ⟨rfl, rfl⟩ <;> simp [M.tickX, h6, ← hs, hlt]
          have hZ : M.tickZ ⟨con, cst, cnt, pre, true, waits, wants, pend⟩ e = false := by
            rcases hwe3 with ⟨rfl, rfl⟩ | ⟨rfl, rfl⟩ | ⟨rfl, rfl⟩ <;> simp [M.tickZ, h6, ← hs, hlt]
          rw [hX, hZ]
          clear hX hZ hsc hH h6 hs
          rcases hwe3 with ⟨rfl, rfl⟩ | ⟨rfl, rfl⟩ | ⟨rfl, rfl⟩
          all_goals
            go_enter Try.func68, Try.ntmps68
            go_wp2_with fail
            refine (HH.out _ (by go_cell)).mono ?_
            rintro e w1 ⟨rfl, rfl⟩
            go_wp2_with fail
            go_quiet ((go_at_call 84; refine Calls.quiet_of_same ((HS.out _ ?_).mono (fun e w1 h => ⟨h.1, h.2.symm⟩)); go_cell))
            go_wp2_with fail
            go_returns
            exact ⟨rfl, ch_range (by go_cell) (by go_cell) (by go_cell) (by go_cell) (by go_cell) (by go_cell) (by go_cell) (by go_cell), (by repeat' (first | (with_reducible exact Touch.refl _ _ _ _) | (with_reducible refine Touch.drewN ?_ _) | (with_reducible refine Touch.setCell ?_ _ (by omega) (by omega) _)))⟩
        · have hX : M.tickX ⟨con, cst, cnt, pre, true, waits, wants, pend⟩ e = M.downX ⟨con, cst, cnt, 0, true, waits, wants, pend⟩ := by
            rcases hwe3 with ⟨rfl, rfl⟩ | ⟨rfl, rfl⟩ | ⟨rfl, rfl⟩ <;> simp [M.tickX, h6, ← hs, hlt]
          have hZ : M.tickZ ⟨con, cst, cnt, pre, true, waits, wants, pend⟩ e = M.downZ ⟨con, cst, cnt, 0, true, waits, wants, pend⟩ := by
            rcases hwe3 with ⟨rfl, rfl⟩ | ⟨rfl, rfl⟩ | ⟨rfl, rfl⟩ <;> simp [M.tickZ, h6, ← hs, hlt]
          rw [hX, hZ]
          clear hX hZ hsc hH h6 hs
          rcases hwe3 with ⟨rfl, rfl⟩ | ⟨rfl, rfl⟩ | ⟨rfl, rfl⟩
          all_goals
            go_enter Try.func68, Try.ntmps68
            go_wp2_with fail
            refine (HH.out _ (by go_cell)).mono ?_
            rintro e w1 ⟨rfl, rfl⟩
            go_wp2_with fail
            go_quiet ((go_at_call 84; refine Calls.quiet_of_same ((HS.out _ ?_).mono (fun e w1 h => ⟨h.1, h.2.symm⟩)); go_cell))
            go_wp2_with fail
            refine (hD.out _ (ch_range (by go_cell) (by go_cell) (by go_cell) (by go_cell) (by go_cell) (by go_cell) (by go_cell) (by go_cell)) (Free.touch (B := B) (o := o) (n := 8) hf'.out (by repeat' (first | (with_reducible exact Touch.refl _ _ _ _) | (with_reducible refine Touch.drewN ?_ _) | (with_reducible refine Touch.setCell ?_ _ (by omega) (by omega) _))) hB) (Nat.lt_of_lt_of_le hB (Touch.size (B := B) (o := o) (n := 8) (by repeat' (first | (with_reducible exact Touch.refl _ _ _ _) | (with_reducible refine Touch.drewN ?_ _) | (with_reducible refine Touch.setCell ?_ _ (by omega) (by omega) _)))))).mono ?_
            rintro e w1 ⟨rfl, hr1, ht1⟩
            replace ht1 := Touch.trans (w := w) (by repeat' (first | (with_reducible exact Touch.refl _ _ _ _) | (with_reducible refine Touch.drewN ?_ _) | (with_reducible refine Touch.setCell ?_ _ (by omega) (by omega) _))) ht1
            go_wp2_with fail
            go_returns
            exact ⟨rfl, hr1, ht1⟩
set_option maxHeartbeats 4000000 in
theorem ctold_any (B o : Nat) (x : M.Ch) (b : Int) (hx : x.ok) (h0 : 0 ≤ b) (h1 : b ≤ 255) (w : World) (hc : w.rangeAt B o x.v) (hf : Free w B o 8) (hB : B < w.heap.size) : Calls Try.prog 64 #[.pointer (some ⟨B, o, none⟩), .int .u8 b] w fun e' w' =>
    e' = .returned (.tuple #[]) ∧ w'.rangeAt B o (M.told x b).v ∧ Touch B o 8 w w' := by
  obtain ⟨con, cst, cnt, pre, runs, waits, wants, pend⟩ := x
  obtain ⟨⟨a1, a2⟩, ⟨a3, a4⟩, ⟨a5, a6⟩, ⟨a7, a8⟩⟩ := hx
  obtain ⟨c0, c1, c2, c3, c4, c5, c6, c7⟩ := ch_cells hc
  obtain ⟨f0, f1, f2, f3, f4, f5, f6, f7⟩ := ch_free hf
  simp only at a1 a2 a3 a4 a5 a6 a7 a8 c0 c1 c2 c3 c4 c5 c6 c7
  clear hc hf
  cases wants with
  | true =>
    have h3 := fun W hW => chas_any B o con 3 a1 a2 W hW
    have h6 := fun W hW => chas_any B o con 6 a1 a2 W hW
    have hX : M.told ⟨con, cst, cnt, pre, runs, waits, true, pend⟩ b = ⟨con, b, M.whole b, 0, !(!M.is con 6 && M.is con 3), (!M.is con 6 && M.is con 3), false, pend⟩ := rfl
    rw [hX]
    clear hX
    revert h3 h6
    cases M.is con 3 <;> cases M.is con 6
    all_goals
      intro h3 h6
      have H3 := Lib.hid h3
      have H6 := Lib.hid h6
      clear h3 h6
      go_enter Try.func64, Try.ntmps64
      go_wp2_with fail
      refine (cwhole_any B o b h0 h1 _ (by go_cell)).mono ?_
      rintro e w1 ⟨rfl, rfl⟩
      go_wp2_with fail
      refine (H3.out _ (by go_cell)).mono ?_
      rintro e w1 ⟨rfl, rfl⟩
      go_wp2_with (refine (H6.out _ (by go_cell)).mono ?_; rintro e w1 ⟨rfl, rfl⟩)
      go_returns
      exact ⟨rfl, ch_range (by go_cell) (by go_cell) (by go_cell) (by go_cell) (by go_cell) (by go_cell) (by go_cell) (by go_cell), (by repeat' (first | (with_reducible exact Touch.refl _ _ _ _) | (with_reducible refine Touch.drewN ?_ _) | (with_reducible refine Touch.setCell ?_ _ (by omega) (by omega) _)))⟩
  | false =>
    have h2 := fun W => is_any b 2 h0 h1 W
    have h3 := fun W => is_any b 1 h0 h1 W
    obtain ⟨q, hq⟩ : ∃ q, q = M.is b 2 := ⟨_, rfl⟩
    cases hs : M.is b 1 with
    | true =>
      have hX : M.told ⟨con, cst, cnt, pre, runs, waits, false, pend⟩ b = ⟨b, cst, cnt, pre, false, false, q, pend⟩ := by rw [hq]; simp [M.told, hs]
      rw [hX]
      rw [hs] at h3
      rw [← hq] at h2
      have H2 := Lib.hid h2
      have H3 := Lib.hid h3
      clear h2 h3 hX hq hs
      go_enter Try.func64, Try.ntmps64
      go_wp2_with fail
      refine (H2.out _).mono ?_
      rintro e w1 ⟨rfl, rfl⟩
      go_wp2_with fail
      refine (H3.out _).mono ?_
      rintro e w1 ⟨rfl, rfl⟩
      go_wp2_with fail
      go_returns
      exact ⟨rfl, ch_range (by go_cell) (by go_cell) (by go_cell) (by go_cell) (by go_cell) (by go_cell) (by go_cell) (by go_cell), (by repeat' (first | (with_reducible exact Touch.refl _ _ _ _) | (with_reducible refine Touch.drewN ?_ _) | (with_reducible refine Touch.setCell ?_ _ (by omega) (by omega) _)))⟩
    | false =>
      have hX : M.told ⟨con, cst, cnt, pre, runs, waits, false, pend⟩ b = ⟨b, cst, cnt, pre, runs, waits, q, pend⟩ := by rw [hq]; simp [M.told, hs]
      rw [hX]
      rw [hs] at h3
      rw [← hq] at h2
      have H2 := Lib.hid h2
      have H3 := Lib.hid h3
      clear h2 h3 hX hq hs
      go_enter Try.func64, Try.ntmps64
      go_wp2_with fail
      refine (H2.out _).mono ?_
      rintro e w1 ⟨rfl, rfl⟩
      go_wp2_with fail
      refine (H3.out _).mono ?_
      rintro e w1 ⟨rfl, rfl⟩
      go_wp2_with fail
      go_returns
      exact ⟨rfl, ch_range (by go_cell) (by go_cell) (by go_cell) (by go_cell) (by go_cell) (by go_cell) (by go_cell) (by go_cell), (by repeat' (first | (with_reducible exact Touch.refl _ _ _ _) | (with_reducible refine Touch.drewN ?_ _) | (with_reducible refine Touch.setCell ?_ _ (by omega) (by omega) _)))⟩
end Go.Proofs.Ytmoafjgogbcoeaa
