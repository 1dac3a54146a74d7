/- (*pio.Port).control by its contract. -/
import Derived.Test.YtmoafjgogbcoeaaPioCh2
import Derived.Deep.RegionHeld3
namespace Go.Proofs.Ytmoafjgogbcoeaa
open Go.RowKit
set_option linter.unusedVariables false
set_option linter.unusedSimpArgs false
set_option maxRecDepth 100000

theorem with7_tab : ∀ n : Fin 256, bits .or .u8 (n.val : Int) 128 = M.withB (n.val : Int) 7 true ∧ bits .andNot .u8 (n.val : Int) 128 = M.withB (n.val : Int) 7 false ∧ bits .and .u8 (n.val : Int) 15 = (n.val : Int) % 16 ∧ bits .and .u8 (n.val : Int) 1 = (n.val : Int) % 2 := by decide +kernel
theorem and15 (b : Int) (h0 : 0 ≤ b) (h1 : b ≤ 255) : bits .and .u8 b 15 = b % 16 := by
  obtain ⟨x, rfl⟩ := M.fin_of h0 h1
  exact (with7_tab x).2.2.1
theorem and1m (b : Int) (h0 : 0 ≤ b) (h1 : b ≤ 255) : bits .and .u8 b 1 = b % 2 := by
  obtain ⟨x, rfl⟩ := M.fin_of h0 h1
  exact (with7_tab x).2.2.2
theorem with7_any (b : Int) (on : Bool) (h0 : 0 ≤ b) (h1 : b ≤ 255) (w : World) : Calls Try.prog 88 #[.int .u8 b, .int .i64 7, .bool on] w fun e w' => e = .returned (.int .u8 (M.withB b 7 on)) ∧ w = w' := by
  obtain ⟨x, hx⟩ := M.fin_of h0 h1
  obtain ⟨t1, t2, _, _⟩ := with7_tab x
  rw [← hx] at t1 t2
  have T1 := Lib.hid t1
  have T2 := Lib.hid t2
  clear t1 t2 hx
  cases on
  · go_enter Try.func88, Try.ntmps88
    go_wp2
    go_ret
    exact ⟨ret_int T2.out, rfl⟩
  · go_enter Try.func88, Try.ntmps88
    go_wp2
    go_ret
    exact ⟨ret_int T1.out, rfl⟩
set_option maxHeartbeats 8000000 in
theorem pcontrol_any (B o : Nat) (x : M.Po) (b : Int) (hx : x.ok) (h0 : 0 ≤ b) (h1 : b ≤ 255) (w : World) (hc : w.rangeAt B o x.v) (hf : Free w B o 11) (hB : B < w.heap.size) : Calls Try.prog 73 #[.pointer (some ⟨B, o, none⟩), .int .u8 b] w fun e w' =>
    e = .returned (.tuple #[]) ∧ w'.rangeAt B o (M.pControl x b).v ∧ Touch B o 11 w w' := by
  have kf := pfollow_any B o x b hx h0 h1 w hc hf hB
  have hL1 := Lib.hid (plook_any B o { x with con := b, next := 2, pend := false } ⟨hx.1, hx.2.1, hx.2.2.1, hx.2.2.2.1, hx.2.2.2.2.1, hx.2.2.2.2.2.1, ⟨h0, h1⟩, by simp⟩)
  have hL2 := Lib.hid (plook_any B o { x with con := b } ⟨hx.1, hx.2.1, hx.2.2.1, hx.2.2.2.1, hx.2.2.2.2.1, hx.2.2.2.2.2.1, ⟨h0, h1⟩, hx.2.2.2.2.2.2.2⟩)
  by_cases n12 : x.next = 1 ∨ x.next = 2
  · have hX : M.pControl x b = M.pFollow x b := by simp [M.pControl, n12]
    rw [hX]
    have Kf := Lib.hid kf
    clear kf hX hL1 hL2
    obtain ⟨mode, out, inn, dir, vec, mask, con, next, ready, was, pend⟩ := x
    obtain ⟨⟨a1, a2⟩, ⟨a3, a4⟩, ⟨a5, a6⟩, ⟨a7, a8⟩, ⟨a9, a10⟩, ⟨a11, a12⟩, ⟨a13, a14⟩, ⟨a15, a16⟩⟩ := hx
    obtain ⟨c0, c1, c2, c3, c4, c5, c6, c7, c8, c9, c10⟩ := po_cells hc
    simp only at a1 a2 a3 a4 a5 a6 a7 a8 a9 a10 a11 a12 a13 a14 a15 a16 c0 c1 c2 c3 c4 c5 c6 c7 c8 c9 c10
    obtain ⟨f0, f1, f2, f3, f4, f5, f6, f7, f8, f9, f10⟩ := po_free hf
    clear hc hf
    simp only at n12
    rcases n12 with rfl | rfl
    all_goals
      go_enter Try.func73, Try.ntmps73
      go_wp2_with fail
      refine Kf.out.mono ?_
      rintro e w1 ⟨rfl, hr1, ht1⟩
      go_wp2_with fail
      go_returns
      exact ⟨rfl, hr1, ht1⟩
  · clear kf
    have e15 := and15 b h0 h1
    have e1 := and1m b h0 h1
    have hff := Lib.hid hf
    have h4 := fun W => is_any b 4 h0 h1 W
    have h7 := fun W => is_any b 7 h0 h1 W
    unfold M.pControl
    rw [if_neg n12]
    obtain ⟨mode, out, inn, dir, vec, mask, con, next, ready, was, pend⟩ := x
    obtain ⟨⟨a1, a2⟩, ⟨a3, a4⟩, ⟨a5, a6⟩, ⟨a7, a8⟩, ⟨a9, a10⟩, ⟨a11, a12⟩, ⟨a13, a14⟩, ⟨a15, a16⟩⟩ := hx
    obtain ⟨c0, c1, c2, c3, c4, c5, c6, c7, c8, c9, c10⟩ := po_cells hc
    simp only at a1 a2 a3 a4 a5 a6 a7 a8 a9 a10 a11 a12 a13 a14 a15 a16 c0 c1 c2 c3 c4 c5 c6 c7 c8 c9 c10
    obtain ⟨f0, f1, f2, f3, f4, f5, f6, f7, f8, f9, f10⟩ := po_free hf
    clear hc hf
    simp only at n12 ⊢
    have m1 : ¬ next = 1 := fun e => n12 (.inl e)
    have m2 : ¬ next = 2 := fun e => n12 (.inr e)
    clear n12
    have nb1 : (next == 1) = false := by simpa using m1
    have nb2 : (next == 2) = false := by simpa using m2
    have hw7 := fun on W => with7_any con on a13 a14 W
    by_cases b15 : b % 16 = 15
    · have q15 : (b % 16 == 15) = true := by simpa using b15
      rw [if_pos b15]
      clear hL1 hL2 h4 h7 hw7
      by_cases b3 : b / 64 = 3
      · have q3 : (b / 64 == 3) = true := by simpa using b3
        rw [if_pos b3]
        go_enter Try.func73, Try.ntmps73
        go_wp2_with fail
        go_returns
        exact ⟨rfl, (po_range (by go_cell) (by go_cell) (by go_cell) (by go_cell) (by go_cell) (by go_cell) (by go_cell) (by go_cell) (by go_cell) (by go_cell) (by go_cell)), (by repeat' (first | (with_reducible exact Touch.refl _ _ _ _) | (with_reducible assumption) | (with_reducible refine Touch.drew ?_) | (with_reducible refine Touch.drewN ?_ _) | (with_reducible refine Touch.setCell ?_ _ (by omega) (by omega) _)))⟩
      · have q3 : (b / 64 == 3) = false := by simpa using b3
        rw [if_neg b3]
        go_enter Try.func73, Try.ntmps73
        go_wp2_with fail
        go_returns
        exact ⟨rfl, (po_range (by go_cell) (by go_cell) (by go_cell) (by go_cell) (by go_cell) (by go_cell) (by go_cell) (by go_cell) (by go_cell) (by go_cell) (by go_cell)), (by repeat' (first | (with_reducible exact Touch.refl _ _ _ _) | (with_reducible assumption) | (with_reducible refine Touch.drew ?_) | (with_reducible refine Touch.drewN ?_ _) | (with_reducible refine Touch.setCell ?_ _ (by omega) (by omega) _)))⟩
    · have q15 : (b % 16 == 15) = false := by simpa using b15
      rw [if_neg b15]
      by_cases b7 : b % 16 = 7
      · have q7 : (b % 16 == 7) = true := by simpa using b7
        rw [if_pos b7]
        cases b4 : M.is b 4 with
        | true =>
          rw [b4] at h4
          have H4 := Lib.hid h4
          clear h4 h7 hw7 b4 hL2
          rw [if_pos rfl]
          go_enter Try.func73, Try.ntmps73
          go_wp2_with fail
          refine (H4.out _).mono ?_
          rintro e w1 ⟨rfl, rfl⟩
          go_wp2_with fail
          refine (hL1.out _ (po_range (by go_cell) (by go_cell) (by go_cell) (by go_cell) (by go_cell) (by go_cell) (by go_cell) (by go_cell) (by go_cell) (by go_cell) (by go_cell)) (Free.touch (B := B) (o := o) (n := 11) hff.out (by repeat' (first | (with_reducible exact Touch.refl _ _ _ _) | (with_reducible assumption) | (with_reducible refine Touch.drew ?_) | (with_reducible refine Touch.drewN ?_ _) | (with_reducible refine Touch.setCell ?_ _ (by omega) (by omega) _))) hB) (Nat.lt_of_lt_of_le hB (Touch.size (B := B) (o := o) (n := 11) (by repeat' (first | (with_reducible exact Touch.refl _ _ _ _) | (with_reducible assumption) | (with_reducible refine Touch.drew ?_) | (with_reducible refine Touch.drewN ?_ _) | (with_reducible refine Touch.setCell ?_ _ (by omega) (by omega) _)))))).mono ?_
          rintro e w1 ⟨rfl, hr1, ht1⟩
          replace ht1 := Touch.trans (w := w) (by repeat' (first | (with_reducible exact Touch.refl _ _ _ _) | (with_reducible assumption) | (with_reducible refine Touch.drew ?_) | (with_reducible refine Touch.drewN ?_ _) | (with_reducible refine Touch.setCell ?_ _ (by omega) (by omega) _))) ht1
          go_wp2_with fail
          go_returns
          exact ⟨rfl, hr1, ht1⟩
        | false =>
          rw [b4] at h4
          have H4 := Lib.hid h4
          clear h4 h7 hw7 b4 hL1
          rw [if_neg (by simp)]
          go_enter Try.func73, Try.ntmps73
          go_wp2_with fail
          refine (H4.out _).mono ?_
          rintro e w1 ⟨rfl, rfl⟩
          go_wp2_with fail
          refine (hL2.out _ (po_range (by go_cell) (by go_cell) (by go_cell) (by go_cell) (by go_cell) (by go_cell) (by go_cell) (by go_cell) (by go_cell) (by go_cell) (by go_cell)) (Free.touch (B := B) (o := o) (n := 11) hff.out (by repeat' (first | (with_reducible exact Touch.refl _ _ _ _) | (with_reducible assumption) | (with_reducible refine Touch.drew ?_) | (with_reducible refine Touch.drewN ?_ _) | (with_reducible refine Touch.setCell ?_ _ (by omega) (by omega) _))) hB) (Nat.lt_of_lt_of_le hB (Touch.size (B := B) (o := o) (n := 11) (by repeat' (first | (with_reducible exact Touch.refl _ _ _ _) | (with_reducible assumption) | (with_reducible refine Touch.drew ?_) | (with_reducible refine Touch.drewN ?_ _) | (with_reducible refine Touch.setCell ?_ _ (by omega) (by omega) _)))))).mono ?_
          rintro e w1 ⟨rfl, hr1, ht1⟩
          replace ht1 := Touch.trans (w := w) (by repeat' (first | (with_reducible exact Touch.refl _ _ _ _) | (with_reducible assumption) | (with_reducible refine Touch.drew ?_) | (with_reducible refine Touch.drewN ?_ _) | (with_reducible refine Touch.setCell ?_ _ (by omega) (by omega) _))) ht1
          go_wp2_with fail
          go_returns
          exact ⟨rfl, hr1, ht1⟩
      · have q7 : (b % 16 == 7) = false := by simpa using b7
        rw [if_neg b7]
        by_cases b3 : b % 16 = 3
        · have q3 : (b % 16 == 3) = true := by simpa using b3
          rw [if_pos b3]
          clear hL1 hL2 h4
          generalize M.is b 7 = on at h7 ⊢
          have hW7 := hw7 on
          generalize M.withB con 7 on = c7v at hW7 ⊢
          have H7 := Lib.hid h7
          have HW := Lib.hid hW7
          clear h7 hW7 hw7
          go_enter Try.func73, Try.ntmps73
          go_wp2_with fail
          refine wp_region_held_drew (S := fun W => True) (by kernel_rfl) trivial ?_
          intro _
          refine wpAnyH_take (i := 0) (v := ?_) rfl (by kernel_rfl) (by kernel_rfl) (by kernel_rfl) (fun _ _ _ h => h) (Or.inl ⟨by rfl, ?_⟩) trivial ?_
          rotate_left 1
          · intro W hW
            clear hW
            go_simp
            all_goals with_reducible rfl
          try simp only [Act.put, List.setIfInBounds_toArray, List.set_cons_zero, List.set_cons_succ, List.getElem_toArray, List.getElem_cons_succ, List.getElem_cons_zero]
          refine wpAnyH_take (i := 1) (v := ?_) rfl (by kernel_rfl) (by kernel_rfl) (by kernel_rfl) (fun _ _ _ h => h) (Or.inl ⟨by rfl, ?_⟩) trivial ?_
          rotate_left 1
          · intro W hW
            clear hW
            go_simp
            all_goals with_reducible rfl
          try simp only [Act.put, List.setIfInBounds_toArray, List.set_cons_zero, List.set_cons_succ, List.getElem_toArray, List.getElem_cons_succ, List.getElem_cons_zero]
          refine wpAnyH_take (i := 2) (v := ?_) rfl (by kernel_rfl) (by kernel_rfl) (by kernel_rfl) (fun _ _ _ h => h) (Or.inl ⟨by rfl, ?_⟩) trivial ?_
          rotate_left 1
          · intro W hW
            clear hW
            go_simp
            all_goals with_reducible rfl
          try simp only [Act.put, List.setIfInBounds_toArray, List.set_cons_zero, List.set_cons_succ, List.getElem_toArray, List.getElem_cons_succ, List.getElem_cons_zero]
          refine wpAnyH_take (i := 3) (v := ?_) rfl (by kernel_rfl) (by kernel_rfl) (by kernel_rfl) (fun _ _ _ h => h) (Or.inl ⟨by rfl, ?_⟩) trivial ?_
          rotate_left 1
          · intro W hW
            clear hW
            go_simp
            all_goals with_reducible rfl
          try simp only [Act.put, List.setIfInBounds_toArray, List.set_cons_zero, List.set_cons_succ, List.getElem_toArray, List.getElem_cons_succ, List.getElem_cons_zero]
          refine wpAnyH_take (i := 5) (v := ?_) rfl (by kernel_rfl) (by kernel_rfl) (by kernel_rfl) (fun _ _ _ h => h) (Or.inl ⟨by rfl, ?_⟩) trivial ?_
          rotate_left 1
          · intro W hW
            clear hW
            go_simp
            all_goals with_reducible rfl
          try simp only [Act.put, List.setIfInBounds_toArray, List.set_cons_zero, List.set_cons_succ, List.getElem_toArray, List.getElem_cons_succ, List.getElem_cons_zero]
          refine wpAnyH_ready (rs := [4, 6]) (by kernel_rfl) (by simp) (AllReadyH.cons rfl ?_ (AllReadyH.cons rfl ?_ AllReadyH.nil))
          · intro K1 hK1
            rw [if_pos (by rfl)]
            try simp only [Act.put, List.setIfInBounds_toArray, List.set_cons_zero, List.set_cons_succ, List.getElem_toArray, List.getElem_cons_succ, List.getElem_cons_zero]
            go_simp
            refine hK1.out _ _ trivial (fun _ => ?_)
            clear hK1
            try simp only [Act.put, List.setIfInBounds_toArray, List.set_cons_zero, List.set_cons_succ, List.getElem_toArray, List.getElem_cons_succ, List.getElem_cons_zero]
            refine wpAnyH_ready (rs := [6]) (by kernel_rfl) (by simp) (AllReadyH.cons rfl ?_ AllReadyH.nil)
            intro K1 hK1
            rw [if_pos (by rfl)]
            try simp only [Act.put, List.setIfInBounds_toArray, List.set_cons_zero, List.set_cons_succ, List.getElem_toArray, List.getElem_cons_succ, List.getElem_cons_zero]
            go_simp
            refine (H7.out _).mono ?_
            rintro e w1 ⟨rfl, rfl⟩
            refine hK1.out _ _ trivial (fun _ => ?_)
            clear hK1
            try simp only [Act.put, List.setIfInBounds_toArray, List.set_cons_zero, List.set_cons_succ, List.getElem_toArray, List.getElem_cons_succ, List.getElem_cons_zero]
            refine wpAnyH_ready (rs := [7]) (by kernel_rfl) (by simp) (AllReadyH.cons rfl ?_ AllReadyH.nil)
            intro K1 hK1
            rw [if_pos (by rfl)]
            try simp only [Act.put, List.setIfInBounds_toArray, List.set_cons_zero, List.set_cons_succ, List.getElem_toArray, List.getElem_cons_succ, List.getElem_cons_zero]
            go_simp
            refine (HW.out _).mono ?_
            rintro e w1 ⟨rfl, rfl⟩
            refine hK1.out _ _ trivial (fun _ => ?_)
            clear hK1
            try simp only [Act.put, List.setIfInBounds_toArray, List.set_cons_zero, List.set_cons_succ, List.getElem_toArray, List.getElem_cons_succ, List.getElem_cons_zero]
            refine wpAnyH_take (i := 8) (v := ?_) rfl (by kernel_rfl) (by kernel_rfl) (by kernel_rfl) (fun _ _ _ h => h) (Or.inl ⟨by rfl, ?_⟩) trivial ?_
            rotate_left 1
            · intro W hW
              clear hW
              go_simp
              all_goals with_reducible rfl
            try simp only [Act.put, List.setIfInBounds_toArray, List.set_cons_zero, List.set_cons_succ, List.getElem_toArray, List.getElem_cons_succ, List.getElem_cons_zero]
            refine wpAnyH_take (i := 9) (v := ?_) rfl (by kernel_rfl) (by kernel_rfl) (by kernel_rfl) (fun _ _ _ h => h) (Or.inl ⟨by rfl, ?_⟩) trivial ?_
            rotate_left 1
            · intro W hW
              clear hW
              go_simp
              all_goals with_reducible rfl
            try simp only [Act.put, List.setIfInBounds_toArray, List.set_cons_zero, List.set_cons_succ, List.getElem_toArray, List.getElem_cons_succ, List.getElem_cons_zero]
            refine wpAnyH_ready (rs := [10]) (by kernel_rfl) (by simp) (AllReadyH.cons rfl ?_ AllReadyH.nil)
            intro K1 hK1
            rw [if_pos (by rfl)]
            try simp only [Act.put, List.setIfInBounds_toArray, List.set_cons_zero, List.set_cons_succ, List.getElem_toArray, List.getElem_cons_succ, List.getElem_cons_zero]
            go_simp
            refine hK1.out _ _ trivial (fun _ => ?_)
            clear hK1
            try simp only [Act.put, List.setIfInBounds_toArray, List.set_cons_zero, List.set_cons_succ, List.getElem_toArray, List.getElem_cons_succ, List.getElem_cons_zero]
            refine wpAnyH_done (by kernel_rfl) ?_ _
            go_wp2_with fail
            go_returns
            exact ⟨rfl, (po_range (by go_cell) (by go_cell) (by go_cell) (by go_cell) (by go_cell) (by go_cell) (by go_cell) (by go_cell) (by go_cell) (by go_cell) (by go_cell)), (by repeat' (first | (with_reducible exact Touch.refl _ _ _ _) | (with_reducible assumption) | (with_reducible refine Touch.drew ?_) | (with_reducible refine Touch.drewN ?_ _) | (with_reducible refine Touch.setCell ?_ _ (by omega) (by omega) _)))⟩
          · intro K1 hK1
            rw [if_pos (by rfl)]
            try simp only [Act.put, List.setIfInBounds_toArray, List.set_cons_zero, List.set_cons_succ, List.getElem_toArray, List.getElem_cons_succ, List.getElem_cons_zero]
            go_simp
            refine (H7.out _).mono ?_
            rintro e w1 ⟨rfl, rfl⟩
            refine hK1.out _ _ trivial (fun _ => ?_)
            clear hK1
            try simp only [Act.put, List.setIfInBounds_toArray, List.set_cons_zero, List.set_cons_succ, List.getElem_toArray, List.getElem_cons_succ, List.getElem_cons_zero]
            refine wpAnyH_ready (rs := [4]) (by kernel_rfl) (by simp) (AllReadyH.cons rfl ?_ AllReadyH.nil)
            intro K1 hK1
            rw [if_pos (by rfl)]
            try simp only [Act.put, List.setIfInBounds_toArray, List.set_cons_zero, List.set_cons_succ, List.getElem_toArray, List.getElem_cons_succ, List.getElem_cons_zero]
            go_simp
            refine hK1.out _ _ trivial (fun _ => ?_)
            clear hK1
            try simp only [Act.put, List.setIfInBounds_toArray, List.set_cons_zero, List.set_cons_succ, List.getElem_toArray, List.getElem_cons_succ, List.getElem_cons_zero]
            refine wpAnyH_ready (rs := [7]) (by kernel_rfl) (by simp) (AllReadyH.cons rfl ?_ AllReadyH.nil)
            intro K1 hK1
            rw [if_pos (by rfl)]
            try simp only [Act.put, List.setIfInBounds_toArray, List.set_cons_zero, List.set_cons_succ, List.getElem_toArray, List.getElem_cons_succ, List.getElem_cons_zero]
            go_simp
            refine (HW.out _).mono ?_
            rintro e w1 ⟨rfl, rfl⟩
            refine hK1.out _ _ trivial (fun _ => ?_)
            clear hK1
            try simp only [Act.put, List.setIfInBounds_toArray, List.set_cons_zero, List.set_cons_succ, List.getElem_toArray, List.getElem_cons_succ, List.getElem_cons_zero]
            refine wpAnyH_take (i := 8) (v := ?_) rfl (by kernel_rfl) (by kernel_rfl) (by kernel_rfl) (fun _ _ _ h => h) (Or.inl ⟨by rfl, ?_⟩) trivial ?_
            rotate_left 1
            · intro W hW
              clear hW
              go_simp
              all_goals with_reducible rfl
            try simp only [Act.put, List.setIfInBounds_toArray, List.set_cons_zero, List.set_cons_succ, List.getElem_toArray, List.getElem_cons_succ, List.getElem_cons_zero]
            refine wpAnyH_take (i := 9) (v := ?_) rfl (by kernel_rfl) (by kernel_rfl) (by kernel_rfl) (fun _ _ _ h => h) (Or.inl ⟨by rfl, ?_⟩) trivial ?_
            rotate_left 1
            · intro W hW
              clear hW
              go_simp
              all_goals with_reducible rfl
            try simp only [Act.put, List.setIfInBounds_toArray, List.set_cons_zero, List.set_cons_succ, List.getElem_toArray, List.getElem_cons_succ, List.getElem_cons_zero]
            refine wpAnyH_ready (rs := [10]) (by kernel_rfl) (by simp) (AllReadyH.cons rfl ?_ AllReadyH.nil)
            intro K1 hK1
            rw [if_pos (by rfl)]
            try simp only [Act.put, List.setIfInBounds_toArray, List.set_cons_zero, List.set_cons_succ, List.getElem_toArray, List.getElem_cons_succ, List.getElem_cons_zero]
            go_simp
            refine hK1.out _ _ trivial (fun _ => ?_)
            clear hK1
            try simp only [Act.put, List.setIfInBounds_toArray, List.set_cons_zero, List.set_cons_succ, List.getElem_toArray, List.getElem_cons_succ, List.getElem_cons_zero]
            refine wpAnyH_done (by kernel_rfl) ?_ _
            go_wp2_with fail
            go_returns
            exact ⟨rfl, (po_range (by go_cell) (by go_cell) (by go_cell) (by go_cell) (by go_cell) (by go_cell) (by go_cell) (by go_cell) (by go_cell) (by go_cell) (by go_cell)), (by repeat' (first | (with_reducible exact Touch.refl _ _ _ _) | (with_reducible assumption) | (with_reducible refine Touch.drew ?_) | (with_reducible refine Touch.drewN ?_ _) | (with_reducible refine Touch.setCell ?_ _ (by omega) (by omega) _)))⟩
        · have q3 : (b % 16 == 3) = false := by simpa using b3
          rw [if_neg b3]
          clear hL1 hL2 h4 h7 hw7
          by_cases be : b % 2 = 0
          · have qe : (b % 2 == 0) = true := by simpa using be
            rw [if_pos be]
            go_enter Try.func73, Try.ntmps73
            go_wp2_with fail
            go_returns
            exact ⟨rfl, (po_range (by go_cell) (by go_cell) (by go_cell) (by go_cell) (by go_cell) (by go_cell) (by go_cell) (by go_cell) (by go_cell) (by go_cell) (by go_cell)), (by repeat' (first | (with_reducible exact Touch.refl _ _ _ _) | (with_reducible assumption) | (with_reducible refine Touch.drew ?_) | (with_reducible refine Touch.drewN ?_ _) | (with_reducible refine Touch.setCell ?_ _ (by omega) (by omega) _)))⟩
          · have qe : (b % 2 == 0) = false := by simpa using be
            rw [if_neg be]
            go_enter Try.func73, Try.ntmps73
            go_wp2_with fail
            go_returns
            exact ⟨rfl, (po_range (by go_cell) (by go_cell) (by go_cell) (by go_cell) (by go_cell) (by go_cell) (by go_cell) (by go_cell) (by go_cell) (by go_cell) (by go_cell)), (by repeat' (first | (with_reducible exact Touch.refl _ _ _ _) | (with_reducible assumption) | (with_reducible refine Touch.drew ?_) | (with_reducible refine Touch.drewN ?_ _) | (with_reducible refine Touch.setCell ?_ _ (by omega) (by omega) _)))⟩
end Go.Proofs.Ytmoafjgogbcoeaa
