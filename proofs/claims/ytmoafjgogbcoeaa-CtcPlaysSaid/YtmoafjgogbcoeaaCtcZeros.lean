/- charabanclaw23.zeros by its contract: counters state by state, one channel's edges. -/
import Derived.Test.YtmoafjgogbcoeaaCtcTickC
import Derived.Test.YtmoafjgogbcoeaaCtcAck
namespace Go.Proofs.Ytmoafjgogbcoeaa
open Go.RowKit
set_option linter.unusedVariables false
set_option linter.unusedSimpArgs false
set_option maxRecDepth 100000

def M.e0 : M.E4 := ⟨false, false, false, false⟩
def M.hot (k : Nat) (every : Int) (n : Nat) : M.E4 := M.e0.set (((n : Int) + 1) % every == 0) k
structure M.ZR where
  c : M.Ct
  first : Int
  many : Int
def M.zStep (k : Nat) (every : Int) (n : Nat) (s : M.ZR) : M.ZR :=
  bif (M.tickE s.c (M.hot k every n)).at k then ⟨M.tickC s.c (M.hot k every n), bif s.first == 0 then (n : Int) + 1 else s.first, s.many + 1⟩ else ⟨M.tickC s.c (M.hot k every n), s.first, s.many⟩
def M.zRun (c : M.Ct) (k : Nat) (every : Int) : Nat → M.ZR
  | 0 => ⟨c, 0, 0⟩
  | n + 1 => M.zStep k every n (M.zRun c k every n)
theorem zRun_ok {c : M.Ct} (hc : c.ok) (k : Nat) (every : Int) (n : Nat) : (M.zRun c k every n).c.ok ∧ 0 ≤ (M.zRun c k every n).many ∧ (M.zRun c k every n).many ≤ n ∧ 0 ≤ (M.zRun c k every n).first ∧ (M.zRun c k every n).first ≤ n := by
  induction n with
  | zero => exact ⟨hc, Int.le_refl _, Int.le_refl _, Int.le_refl _, Int.le_refl _⟩
  | succ n ih =>
    obtain ⟨h1, h2, h3, h4, h5⟩ := ih
    show (M.zStep k every n (M.zRun c k every n)).c.ok ∧ _ ≤ (M.zStep k every n (M.zRun c k every n)).many ∧ (M.zStep k every n (M.zRun c k every n)).many ≤ _ ∧ _ ≤ (M.zStep k every n (M.zRun c k every n)).first ∧ (M.zStep k every n (M.zRun c k every n)).first ≤ _
    unfold M.zStep
    have ht := M.tickC_ok (e := M.hot k every n) h1
    cases (M.tickE (M.zRun c k every n).c (M.hot k every n)).at k with
    | false => exact ⟨ht, h2, by simp; omega, h4, by simp; omega⟩
    | true =>
      refine ⟨ht, by simp; omega, by simp; omega, ?_, ?_⟩ <;> simp <;> cases ((M.zRun c k every n).first == 0) <;> simp <;> omega
theorem e4_setIf (e : M.E4) (k : Nat) (hk : k < 4) (b : Bool) : e.a.setIfInBounds k (.bool b) = (e.set b k).a := by
  rcases (show k = 0 ∨ k = 1 ∨ k = 2 ∨ k = 3 by omega) with rfl | rfl | rfl | rfl <;> rfl
set_option maxHeartbeats 4000000 in
theorem zeros_any (c : M.Ct) (hc : c.ok) (k : Nat) (hk : k < 4) (N : Nat) (hN : N ≤ 1000000) (every : Int) (he : 1 ≤ every) (he2 : every ≤ 4000000000) (w : World) : Calls Try.prog 42 #[.agg c.a, .int .i64 k, .int .i64 N, .int .i64 every] w fun e w' =>
    e = .returned (.tuple #[.int .i64 (M.zRun c k every N).first, .int .i64 (M.zRun c k every N).many]) ∧ Below w.heap.size w w' := by
  have hs := ct_size c
  obtain ⟨Z, hZs, hZ'⟩ := zero47
  obtain ⟨Y, hYs, hY'⟩ := zero58
  have hZ := Lib.hid hZ'
  have hY := Lib.hid hY'
  have hYs' : Hid (Y = M.e0.a) := Lib.hid hYs
  have hYn : Y.size = 4 := by rw [hYs]; rfl
  have hk0 : (0 : Int) ≤ (k : Int) := by omega
  have hk4 : (k : Int) < 4 := by omega
  have hkn : ¬ (every = 0) := by omega
  clear hZ' hY' hYs
  go_enter Try.func42, Try.ntmps42
  go_wp2_with fail
  have hstart : CtAt (w.alloc (.cells c.a 47)) w.heap.size c ∧ Below w.heap.size w (w.alloc (.cells c.a 47)) := ⟨ct_new _ _ _, by go_grown⟩
  go_loopw [10, 11, 12] (fun f m i wr => ∃ n : Nat, n ≤ N ∧ i = .int .i64 ((n : Int) + 1) ∧ f = .int .i64 (M.zRun c k every n).first ∧ m = .int .i64 (M.zRun c k every n).many ∧ CtAt wr w.heap.size (M.zRun c k every n).c ∧ Below w.heap.size w wr) (fun _ _ i _ => N + 1 - (intOf i).toNat)
  case atStart => exact ⟨0, Nat.zero_le _, rfl, rfl, rfl, hstart.1, hstart.2⟩
  case round =>
    clear hstart
    obtain ⟨n, hn, rfl, rfl, rfl, hbox, hbel⟩ := hrel
    obtain ⟨hok, hm0, hm1, hf0, hf1⟩ := zRun_ok hc k every n
    obtain ⟨S, hSd⟩ : ∃ S, S = M.zRun c k every n := ⟨_, rfl⟩
    rw [← hSd] at hbox hok hm0 hm1 hf0 hf1
    simp only [← hSd]
    have hSD := Lib.hid hSd
    clear hSd
    by_cases hlt : n < N
    · have hlt' : (n : Int) + 1 ≤ (N : Int) := by omega
      have hset : Hid (Y.setIfInBounds k (.bool (((n : Int) + 1) % every == 0)) = (M.hot k every n).a) := Lib.hid (by rw [hYs'.out, e4_setIf _ k hk]; rfl)
      have hC := fun W => ctick_all S.c hok (M.hot k every n) W
      have hrun : M.zRun c k every (n + 1) = M.zStep k every n S := by show M.zStep k every n (M.zRun c k every n) = _; rw [hSD.out]
      unfold M.zStep at hrun
      obtain ⟨D, hDd⟩ : ∃ D, D = M.tickC S.c (M.hot k every n) := ⟨_, rfl⟩
      obtain ⟨E, hEd⟩ : ∃ E, E = M.tickE S.c (M.hot k every n) := ⟨_, rfl⟩
      rw [← hDd, ← hEd] at hrun
      simp only [← hDd, ← hEd] at hC
      have HC := Lib.hid hC
      clear hDd hEd
      have hbz := hbox.2.2
      have HB := Lib.hid hbox
      clear hC hbox
      cases hEk : E.at k with
      | false =>
        rw [hEk] at hrun
        simp only [cond_false] at hrun
        have hRun := Lib.hid hrun
        have hEK := Lib.hid hEk
        clear hrun hEk
        go_wp2_with (first
          | ((with_reducible refine is_allocT 58 rfl ?_); refine wpList_alloc_row rfl _ rfl Y hY.out ?_)
          | ((with_reducible refine is_loadT 47 rfl ?_); refine wpList_load_row rfl _ _ rfl _ _ rfl _ Try.underlying47 rfl S.c.a (range_alloc HB.out.1 _) (info47c _) ?_)
          | ((with_reducible refine is_loadT 58 rfl ?_); refine wpList_load_row rfl _ _ rfl _ _ rfl _ Try.underlying58 rfl (M.hot k every n).a (by rw [← hset.out]; exact range_newA _ _ _) (info58c _) ?_))
        refine (HC.out _).mono ?_
        rintro e w2 ⟨rfl, hb2⟩
        have hz2 := hb2.size
        simp at hz2
        have hbox2 := Lib.hid ((HB.out.alloc _).belowX hb2)
        have hbel2 : Below w.heap.size w w2 := Below.trans (hbel.alloc (by omega) _) (hb2.mono (by simp; omega))
        clear hb2
        go_wp2_with (first
          | ((with_reducible refine is_allocT 47 rfl ?_); refine wpList_alloc_row rfl _ rfl Z hZ.out ?_)
          | ((with_reducible refine is_allocT 58 rfl ?_); refine wpList_alloc_row rfl _ rfl Y hY.out ?_)
          | ((with_reducible refine is_storeT 47 rfl ?_); refine wpList_store_rowT rfl _ _ _ rfl _ _ D.a rfl rfl (by rw [ct_size]; exact there_allocA (there_newA w2 Z _ 33 (by omega)) _) (info47c _) (ct_one _) ?_;
              intro W3 hW3 hT3; have hw3 := Lib.hid hW3; have hb3 := Lib.hid (((hbox2.out.alloc _).alloc _).touch hT3 (by omega)); have hth3 := Lib.hid (there_touch (there_newB (b := w2.heap.size + 1) (w2.alloc (.cells Z 47)) Y 58 4 (by simp) (by omega)) hT3 (by simp) (by omega)); have hbl3 := hT3.below w.heap.size w (by omega) (by simp; omega) (by go_grown); have hsz3 : w2.heap.size + 1 + 1 ≤ W3.heap.size := Nat.le_trans (by simp) hT3.size; clear hW3 hT3)
          | ((with_reducible refine is_storeT 58 rfl ?_); refine wpList_store_rowT rfl _ _ _ rfl _ _ E.a rfl rfl (by rw [e4_size]; simp only [World.size_alloc]; exact hth3.out) (info58c _) (e4_one _) ?_;
              intro W4 hW4 hT4; simp only [World.size_alloc] at hW4 hT4; have hw4 := Lib.hid hW4; have hb4 := Lib.hid (hb3.out.touch hT4 (by omega)); have hr47 := Lib.hid (hT4.range (by omega) hw3.out (.inl (by omega))); have hbl4 := hT4.below w.heap.size w (by omega) (by omega) hbl3; have hsz4 : w2.heap.size + 1 + 1 ≤ W4.heap.size := Nat.le_trans hsz3 hT4.size; clear hW4 hT4)
          | ((with_reducible refine is_loadT 47 rfl ?_); refine wpList_load_row rfl _ _ rfl _ _ rfl _ Try.underlying47 rfl D.a hr47.out (info47c _) ?_)
          | ((with_reducible refine is_storeT 47 rfl ?_); refine wpList_store_rowT rfl _ _ _ rfl _ _ D.a rfl rfl (by rw [ct_size]; exact there_of hb4.out.1 hb4.out.2.1 (Nat.le_refl _)) (info47c _) (ct_one _) ?_;
              intro W5 hW5 hT5; have box5 : Hid (CtAt W5 w.heap.size D) := Lib.hid ⟨hW5, hb4.out.2.1.touch hT5 hb4.out.2.2, Nat.lt_of_lt_of_le hb4.out.2.2 hT5.size⟩; have ce5 := e4_cell (hT5.range (by omega) hw4.out (.inl (by omega))) k hk; rw [hEK.out] at ce5; have hbl5 := hT5.below w.heap.size w (by omega) (by omega) hbl4; have hsz5 : w2.heap.size + 1 + 1 ≤ W5.heap.size := Nat.le_trans hsz4 hT5.size; clear hW5 hT5))
        go_round
        case rel => exact ⟨n + 1, by omega, by simp, by rw [hRun.out], by rw [hRun.out], by rw [hRun.out]; exact box5.out, hbl5⟩
        case measure => simp [intOf]; omega
      | true =>
        rw [hEk] at hrun
        simp only [cond_true] at hrun
        have hEK := Lib.hid hEk
        clear hEk
        by_cases hf : S.first = 0
        · have hrun2 : M.zRun c k every (n + 1) = ⟨D, (n : Int) + 1, S.many + 1⟩ := by rw [hrun, hf]; rfl
          have hRun := Lib.hid hrun2
          clear hrun hrun2
          go_wp2_with (first
            | ((with_reducible refine is_allocT 58 rfl ?_); refine wpList_alloc_row rfl _ rfl Y hY.out ?_)
            | ((with_reducible refine is_loadT 47 rfl ?_); refine wpList_load_row rfl _ _ rfl _ _ rfl _ Try.underlying47 rfl S.c.a (range_alloc HB.out.1 _) (info47c _) ?_)
            | ((with_reducible refine is_loadT 58 rfl ?_); refine wpList_load_row rfl _ _ rfl _ _ rfl _ Try.underlying58 rfl (M.hot k every n).a (by rw [← hset.out]; exact range_newA _ _ _) (info58c _) ?_))
          refine (HC.out _).mono ?_
          rintro e w2 ⟨rfl, hb2⟩
          have hz2 := hb2.size
          simp at hz2
          have hbox2 := Lib.hid ((HB.out.alloc _).belowX hb2)
          have hbel2 : Below w.heap.size w w2 := Below.trans (hbel.alloc (by omega) _) (hb2.mono (by simp; omega))
          clear hb2
          go_wp2_with (first
            | ((with_reducible refine is_allocT 47 rfl ?_); refine wpList_alloc_row rfl _ rfl Z hZ.out ?_)
            | ((with_reducible refine is_allocT 58 rfl ?_); refine wpList_alloc_row rfl _ rfl Y hY.out ?_)
            | ((with_reducible refine is_storeT 47 rfl ?_); refine wpList_store_rowT rfl _ _ _ rfl _ _ D.a rfl rfl (by rw [ct_size]; exact there_allocA (there_newA w2 Z _ 33 (by omega)) _) (info47c _) (ct_one _) ?_;
                intro W3 hW3 hT3; have hw3 := Lib.hid hW3; have hb3 := Lib.hid (((hbox2.out.alloc _).alloc _).touch hT3 (by omega)); have hth3 := Lib.hid (there_touch (there_newB (b := w2.heap.size + 1) (w2.alloc (.cells Z 47)) Y 58 4 (by simp) (by omega)) hT3 (by simp) (by omega)); have hbl3 := hT3.below w.heap.size w (by omega) (by simp; omega) (by go_grown); have hsz3 : w2.heap.size + 1 + 1 ≤ W3.heap.size := Nat.le_trans (by simp) hT3.size; clear hW3 hT3)
            | ((with_reducible refine is_storeT 58 rfl ?_); refine wpList_store_rowT rfl _ _ _ rfl _ _ E.a rfl rfl (by rw [e4_size]; simp only [World.size_alloc]; exact hth3.out) (info58c _) (e4_one _) ?_;
                intro W4 hW4 hT4; simp only [World.size_alloc] at hW4 hT4; have hw4 := Lib.hid hW4; have hb4 := Lib.hid (hb3.out.touch hT4 (by omega)); have hr47 := Lib.hid (hT4.range (by omega) hw3.out (.inl (by omega))); have hbl4 := hT4.below w.heap.size w (by omega) (by omega) hbl3; have hsz4 : w2.heap.size + 1 + 1 ≤ W4.heap.size := Nat.le_trans hsz3 hT4.size; clear hW4 hT4)
            | ((with_reducible refine is_loadT 47 rfl ?_); refine wpList_load_row rfl _ _ rfl _ _ rfl _ Try.underlying47 rfl D.a hr47.out (info47c _) ?_)
            | ((with_reducible refine is_storeT 47 rfl ?_); refine wpList_store_rowT rfl _ _ _ rfl _ _ D.a rfl rfl (by rw [ct_size]; exact there_of hb4.out.1 hb4.out.2.1 (Nat.le_refl _)) (info47c _) (ct_one _) ?_;
                intro W5 hW5 hT5; have box5 : Hid (CtAt W5 w.heap.size D) := Lib.hid ⟨hW5, hb4.out.2.1.touch hT5 hb4.out.2.2, Nat.lt_of_lt_of_le hb4.out.2.2 hT5.size⟩; have ce5 := e4_cell (hT5.range (by omega) hw4.out (.inl (by omega))) k hk; rw [hEK.out] at ce5; have hbl5 := hT5.below w.heap.size w (by omega) (by omega) hbl4; have hsz5 : w2.heap.size + 1 + 1 ≤ W5.heap.size := Nat.le_trans hsz4 hT5.size; clear hW5 hT5))
          go_round
          case rel => exact ⟨n + 1, by omega, by simp, by rw [hRun.out], by rw [hRun.out], by rw [hRun.out]; exact box5.out, hbl5⟩
          case measure => simp [intOf]; omega
        · have hrun2 : M.zRun c k every (n + 1) = ⟨D, S.first, S.many + 1⟩ := by
            rw [hrun, show (S.first == 0) = false by simpa using hf]; rfl
          have hRun := Lib.hid hrun2
          clear hrun hrun2
          go_wp2_with (first
            | ((with_reducible refine is_allocT 58 rfl ?_); refine wpList_alloc_row rfl _ rfl Y hY.out ?_)
            | ((with_reducible refine is_loadT 47 rfl ?_); refine wpList_load_row rfl _ _ rfl _ _ rfl _ Try.underlying47 rfl S.c.a (range_alloc HB.out.1 _) (info47c _) ?_)
            | ((with_reducible refine is_loadT 58 rfl ?_); refine wpList_load_row rfl _ _ rfl _ _ rfl _ Try.underlying58 rfl (M.hot k every n).a (by rw [← hset.out]; exact range_newA _ _ _) (info58c _) ?_))
          refine (HC.out _).mono ?_
          rintro e w2 ⟨rfl, hb2⟩
          have hz2 := hb2.size
          simp at hz2
          have hbox2 := Lib.hid ((HB.out.alloc _).belowX hb2)
          have hbel2 : Below w.heap.size w w2 := Below.trans (hbel.alloc (by omega) _) (hb2.mono (by simp; omega))
          clear hb2
          go_wp2_with (first
            | ((with_reducible refine is_allocT 47 rfl ?_); refine wpList_alloc_row rfl _ rfl Z hZ.out ?_)
            | ((with_reducible refine is_allocT 58 rfl ?_); refine wpList_alloc_row rfl _ rfl Y hY.out ?_)
            | ((with_reducible refine is_storeT 47 rfl ?_); refine wpList_store_rowT rfl _ _ _ rfl _ _ D.a rfl rfl (by rw [ct_size]; exact there_allocA (there_newA w2 Z _ 33 (by omega)) _) (info47c _) (ct_one _) ?_;
                intro W3 hW3 hT3; have hw3 := Lib.hid hW3; have hb3 := Lib.hid (((hbox2.out.alloc _).alloc _).touch hT3 (by omega)); have hth3 := Lib.hid (there_touch (there_newB (b := w2.heap.size + 1) (w2.alloc (.cells Z 47)) Y 58 4 (by simp) (by omega)) hT3 (by simp) (by omega)); have hbl3 := hT3.below w.heap.size w (by omega) (by simp; omega) (by go_grown); have hsz3 : w2.heap.size + 1 + 1 ≤ W3.heap.size := Nat.le_trans (by simp) hT3.size; clear hW3 hT3)
            | ((with_reducible refine is_storeT 58 rfl ?_); refine wpList_store_rowT rfl _ _ _ rfl _ _ E.a rfl rfl (by rw [e4_size]; simp only [World.size_alloc]; exact hth3.out) (info58c _) (e4_one _) ?_;
                intro W4 hW4 hT4; simp only [World.size_alloc] at hW4 hT4; have hw4 := Lib.hid hW4; have hb4 := Lib.hid (hb3.out.touch hT4 (by omega)); have hr47 := Lib.hid (hT4.range (by omega) hw3.out (.inl (by omega))); have hbl4 := hT4.below w.heap.size w (by omega) (by omega) hbl3; have hsz4 : w2.heap.size + 1 + 1 ≤ W4.heap.size := Nat.le_trans hsz3 hT4.size; clear hW4 hT4)
            | ((with_reducible refine is_loadT 47 rfl ?_); refine wpList_load_row rfl _ _ rfl _ _ rfl _ Try.underlying47 rfl D.a hr47.out (info47c _) ?_)
            | ((with_reducible refine is_storeT 47 rfl ?_); refine wpList_store_rowT rfl _ _ _ rfl _ _ D.a rfl rfl (by rw [ct_size]; exact there_of hb4.out.1 hb4.out.2.1 (Nat.le_refl _)) (info47c _) (ct_one _) ?_;
                intro W5 hW5 hT5; have box5 : Hid (CtAt W5 w.heap.size D) := Lib.hid ⟨hW5, hb4.out.2.1.touch hT5 hb4.out.2.2, Nat.lt_of_lt_of_le hb4.out.2.2 hT5.size⟩; have ce5 := e4_cell (hT5.range (by omega) hw4.out (.inl (by omega))) k hk; rw [hEK.out] at ce5; have hbl5 := hT5.below w.heap.size w (by omega) (by omega) hbl4; have hsz5 : w2.heap.size + 1 + 1 ≤ W5.heap.size := Nat.le_trans hsz4 hT5.size; clear hW5 hT5))
          go_round
          case rel => exact ⟨n + 1, by omega, by simp, by rw [hRun.out], by rw [hRun.out], by rw [hRun.out]; exact box5.out, hbl5⟩
          case measure => simp [intOf]; omega
    · have : n = N := by omega
      subst this
      go_wp2_with fail
      go_returns
      rw [hSD.out]
      exact ⟨rfl, hbel⟩
end Go.Proofs.Ytmoafjgogbcoeaa
