/- The reference's control (charabancref24.control) by its contract. -/
import Derived.Test.YtmoafjgogbcoeaaPioRef2
import Derived.Deep.RegionHeld3
namespace Go.Proofs.Ytmoafjgogbcoeaa
open Go.RowKit
set_option linter.unusedVariables false
set_option linter.unusedSimpArgs false
set_option maxRecDepth 100000
set_option maxHeartbeats 4000000 in
theorem rcontrol_1 (x : M.Po) (hx : x.ok) (b : Int) (h0 : 0 ≤ b) (h1 : b ≤ 255) (hn : x.next = 1) (w : World) : Calls Try.prog 74 #[.agg x.a, .int .u8 b] w fun e w' => e = .returned (.agg (M.pLook { x with dir := b, next := 0 }).a) ∧ Below w.heap.size w w' := by
  obtain ⟨mode, out, inn, dir, vec, mask, con, next, ready, was, pend⟩ := x
  have hx1 := hx
  obtain ⟨⟨a1, a2⟩, ⟨a3, a4⟩, ⟨a5, a6⟩, ⟨a7, a8⟩, ⟨a9, a10⟩, ⟨a11, a12⟩, ⟨a13, a14⟩, ⟨a15, a16⟩⟩ := hx
  simp only at a1 a2 a3 a4 a5 a6 a7 a8 a9 a10 a11 a12 a13 a14 a15 a16
  have ha : (M.Po.mk mode out inn dir vec mask con next ready was pend).a = #[.int .i64 mode, .int .u8 out, .int .u8 inn, .int .u8 dir, .int .u8 vec, .int .u8 mask, .int .u8 con, .int .i64 next, .bool ready, .bool was, .bool pend] := rfl
  obtain ⟨Z, hZs, hZ'⟩ := zero83
  have hZ := Lib.hid hZ'
  clear hZ'
  have hso := fun W => rso_any ⟨mode, out, inn, b, vec, mask, con, 0, ready, was, pend⟩ ⟨⟨a1, a2⟩, ⟨a3, a4⟩, ⟨a5, a6⟩, ⟨h0, h1⟩, ⟨a9, a10⟩, ⟨a11, a12⟩, ⟨a13, a14⟩, ⟨by simp, by simp⟩⟩ W
  unfold M.pLook
  simp only at hn ⊢
  subst hn
  revert hso
  generalize M.soB ⟨mode, out, inn, b, vec, mask, con, 0, ready, was, pend⟩ = s
  intro hso
  have HS := Lib.hid hso
  clear hso hx1
  rw [ha]
  clear ha
  go_enter Try.func74, Try.ntmps74
  go_wp2_with (first | ((with_reducible refine is_allocT 83 rfl ?_); refine wpList_alloc_row rfl _ rfl Z hZ.out ?_) | ((with_reducible refine is_loadT 83 rfl ?_); refine wpList_load_row rfl _ _ rfl _ _ rfl _ Try.underlying83 rfl _ (by repeat' first | (with_reducible assumption) | (with_reducible exact range_newA _ _ _) | (with_reducible refine range_alloc ?_ _) | (with_reducible refine range_drew ?_)) info83 ?_) | ((with_reducible refine is_storeT 83 rfl ?_); refine wpList_store_rowT rfl _ _ _ rfl _ _ _ rfl rfl (by repeat' (first | (refine there_newB _ _ _ _ ?_ ?_ <;> first | (simp; done) | (simp [hZs]; done)) | refine there_allocA ?_ _ | refine there_drewA ?_)) info83 (by simp [Value.oneCell']) ?_; intro W hW hT))
  refine (HS.out _).mono ?_
  rintro e w1 ⟨rfl, rfl⟩
  go_wp2_with (first | ((with_reducible refine is_loadT 83 rfl ?_); refine wpList_load_row rfl _ _ rfl _ _ rfl _ Try.underlying83 rfl _ (by repeat' first | (with_reducible assumption) | (with_reducible exact range_newA _ _ _) | (with_reducible refine range_alloc ?_ _) | (with_reducible refine range_drew ?_)) info83 ?_) | ((with_reducible refine is_storeT 83 rfl ?_); refine wpList_store_rowT rfl _ _ _ rfl _ _ _ rfl rfl (by repeat' (first | (refine there_newB _ _ _ _ ?_ ?_ <;> first | (simp; done) | (simp [hZs]; done)) | refine there_allocA ?_ _ | refine there_drewA ?_)) info83 (by simp [Value.oneCell']) ?_; intro W hW hT))
  refine bodyPost_ret (results_row rfl _ _ _ _ _ _ rfl hW Try.underlying83 rfl info83) rfl ?_
  exact ⟨rfl, hT.below _ _ (by omega) (by simp; omega) (by go_grown)⟩
set_option maxHeartbeats 4000000 in
theorem rcontrol_2 (x : M.Po) (hx : x.ok) (b : Int) (h0 : 0 ≤ b) (h1 : b ≤ 255) (hn : x.next = 2) (w : World) : Calls Try.prog 74 #[.agg x.a, .int .u8 b] w fun e w' => e = .returned (.agg (M.pLook { x with mask := b, next := 0 }).a) ∧ Below w.heap.size w w' := by
  obtain ⟨mode, out, inn, dir, vec, mask, con, next, ready, was, pend⟩ := x
  have hx1 := hx
  obtain ⟨⟨a1, a2⟩, ⟨a3, a4⟩, ⟨a5, a6⟩, ⟨a7, a8⟩, ⟨a9, a10⟩, ⟨a11, a12⟩, ⟨a13, a14⟩, ⟨a15, a16⟩⟩ := hx
  simp only at a1 a2 a3 a4 a5 a6 a7 a8 a9 a10 a11 a12 a13 a14 a15 a16
  have ha : (M.Po.mk mode out inn dir vec mask con next ready was pend).a = #[.int .i64 mode, .int .u8 out, .int .u8 inn, .int .u8 dir, .int .u8 vec, .int .u8 mask, .int .u8 con, .int .i64 next, .bool ready, .bool was, .bool pend] := rfl
  obtain ⟨Z, hZs, hZ'⟩ := zero83
  have hZ := Lib.hid hZ'
  clear hZ'
  have hso := fun W => rso_any ⟨mode, out, inn, dir, vec, b, con, 0, ready, was, pend⟩ ⟨⟨a1, a2⟩, ⟨a3, a4⟩, ⟨a5, a6⟩, ⟨a7, a8⟩, ⟨a9, a10⟩, ⟨h0, h1⟩, ⟨a13, a14⟩, ⟨by simp, by simp⟩⟩ W
  unfold M.pLook
  simp only at hn ⊢
  subst hn
  revert hso
  generalize M.soB ⟨mode, out, inn, dir, vec, b, con, 0, ready, was, pend⟩ = s
  intro hso
  have HS := Lib.hid hso
  clear hso hx1
  rw [ha]
  clear ha
  go_enter Try.func74, Try.ntmps74
  go_wp2_with (first | ((with_reducible refine is_allocT 83 rfl ?_); refine wpList_alloc_row rfl _ rfl Z hZ.out ?_) | ((with_reducible refine is_loadT 83 rfl ?_); refine wpList_load_row rfl _ _ rfl _ _ rfl _ Try.underlying83 rfl _ (by repeat' first | (with_reducible assumption) | (with_reducible exact range_newA _ _ _) | (with_reducible refine range_alloc ?_ _) | (with_reducible refine range_drew ?_)) info83 ?_) | ((with_reducible refine is_storeT 83 rfl ?_); refine wpList_store_rowT rfl _ _ _ rfl _ _ _ rfl rfl (by repeat' (first | (refine there_newB _ _ _ _ ?_ ?_ <;> first | (simp; done) | (simp [hZs]; done)) | refine there_allocA ?_ _ | refine there_drewA ?_)) info83 (by simp [Value.oneCell']) ?_; intro W hW hT))
  refine (HS.out _).mono ?_
  rintro e w1 ⟨rfl, rfl⟩
  go_wp2_with (first | ((with_reducible refine is_loadT 83 rfl ?_); refine wpList_load_row rfl _ _ rfl _ _ rfl _ Try.underlying83 rfl _ (by repeat' first | (with_reducible assumption) | (with_reducible exact range_newA _ _ _) | (with_reducible refine range_alloc ?_ _) | (with_reducible refine range_drew ?_)) info83 ?_) | ((with_reducible refine is_storeT 83 rfl ?_); refine wpList_store_rowT rfl _ _ _ rfl _ _ _ rfl rfl (by repeat' (first | (refine there_newB _ _ _ _ ?_ ?_ <;> first | (simp; done) | (simp [hZs]; done)) | refine there_allocA ?_ _ | refine there_drewA ?_)) info83 (by simp [Value.oneCell']) ?_; intro W hW hT))
  refine bodyPost_ret (results_row rfl _ _ _ _ _ _ rfl hW Try.underlying83 rfl info83) rfl ?_
  exact ⟨rfl, hT.below _ _ (by omega) (by simp; omega) (by go_grown)⟩
set_option maxHeartbeats 8000000 in
theorem rcontrol_any (x : M.Po) (hx : x.ok) (b : Int) (h0 : 0 ≤ b) (h1 : b ≤ 255) (w : World) : Calls Try.prog 74 #[.agg x.a, .int .u8 b] w fun e w' => e = .returned (.agg (M.pControl x b).a) ∧ Below w.heap.size w w' := by
  by_cases n12 : x.next = 1 ∨ x.next = 2
  · have hX : M.pControl x b = M.pFollow x b := by simp [M.pControl, n12]
    rw [hX]
    unfold M.pFollow
    by_cases n1 : x.next = 1
    · rw [if_pos n1]
      exact rcontrol_1 x hx b h0 h1 n1 w
    · rw [if_neg n1]
      exact rcontrol_2 x hx b h0 h1 (by omega) w
  · have h4 := fun W => refis_any b 4 h0 h1 W
    have h7 := fun W => refis_any b 7 h0 h1 W
    unfold M.pControl
    rw [if_neg n12]
    obtain ⟨mode, out, inn, dir, vec, mask, con, next, ready, was, pend⟩ := x
    have hx1 := hx
    obtain ⟨⟨a1, a2⟩, ⟨a3, a4⟩, ⟨a5, a6⟩, ⟨a7, a8⟩, ⟨a9, a10⟩, ⟨a11, a12⟩, ⟨a13, a14⟩, ⟨a15, a16⟩⟩ := hx
    simp only at a1 a2 a3 a4 a5 a6 a7 a8 a9 a10 a11 a12 a13 a14 a15 a16
    have ha : (M.Po.mk mode out inn dir vec mask con next ready was pend).a = #[.int .i64 mode, .int .u8 out, .int .u8 inn, .int .u8 dir, .int .u8 vec, .int .u8 mask, .int .u8 con, .int .i64 next, .bool ready, .bool was, .bool pend] := rfl
    obtain ⟨Z, hZs, hZ'⟩ := zero83
    have hZ := Lib.hid hZ'
    clear hZ'
    simp only at n12 ⊢
    have m1 : ¬ next = 1 := fun e => n12 (.inl e)
    have m2 : ¬ next = 2 := fun e => n12 (.inr e)
    clear n12
    have nb1 : (next == 1) = false := by simpa using m1
    have nb2 : (next == 2) = false := by simpa using m2
    by_cases b15 : b % 16 = 15
    · have q15 : (b % 16 == 15) = true := by simpa using b15
      rw [if_pos b15]
      clear h4 h7 hx1
      by_cases b3 : b / 64 = 3
      · have q3 : (b / 64 == 3) = true := by simpa using b3
        rw [if_pos b3, ha]
        clear ha
        go_enter Try.func74, Try.ntmps74
        go_wp2_with (first | ((with_reducible refine is_allocT 83 rfl ?_); refine wpList_alloc_row rfl _ rfl Z hZ.out ?_) | ((with_reducible refine is_loadT 83 rfl ?_); refine wpList_load_row rfl _ _ rfl _ _ rfl _ Try.underlying83 rfl _ (by repeat' first | (with_reducible assumption) | (with_reducible exact range_newA _ _ _) | (with_reducible refine range_alloc ?_ _) | (with_reducible refine range_drew ?_)) info83 ?_) | ((with_reducible refine is_storeT 83 rfl ?_); refine wpList_store_rowT rfl _ _ _ rfl _ _ _ rfl rfl (by repeat' (first | (refine there_newB _ _ _ _ ?_ ?_ <;> first | (simp; done) | (simp [hZs]; done)) | refine there_allocA ?_ _ | refine there_drewA ?_)) info83 (by simp [Value.oneCell']) ?_; intro W hW hT))
        refine bodyPost_ret (results_row rfl _ _ _ _ _ _ rfl hW Try.underlying83 rfl info83) rfl ?_
        exact ⟨rfl, hT.below _ _ (by omega) (by simp; omega) (by go_grown)⟩
      · have q3 : (b / 64 == 3) = false := by simpa using b3
        rw [if_neg b3, ha]
        clear ha
        go_enter Try.func74, Try.ntmps74
        go_wp2_with (first | ((with_reducible refine is_allocT 83 rfl ?_); refine wpList_alloc_row rfl _ rfl Z hZ.out ?_) | ((with_reducible refine is_loadT 83 rfl ?_); refine wpList_load_row rfl _ _ rfl _ _ rfl _ Try.underlying83 rfl _ (by repeat' first | (with_reducible assumption) | (with_reducible exact range_newA _ _ _) | (with_reducible refine range_alloc ?_ _) | (with_reducible refine range_drew ?_)) info83 ?_) | ((with_reducible refine is_storeT 83 rfl ?_); refine wpList_store_rowT rfl _ _ _ rfl _ _ _ rfl rfl (by repeat' (first | (refine there_newB _ _ _ _ ?_ ?_ <;> first | (simp; done) | (simp [hZs]; done)) | refine there_allocA ?_ _ | refine there_drewA ?_)) info83 (by simp [Value.oneCell']) ?_; intro W hW hT))
        refine bodyPost_ret (results_row rfl _ _ _ _ _ _ rfl hW Try.underlying83 rfl info83) rfl ?_
        exact ⟨rfl, hT.below _ _ (by omega) (by simp; omega) (by go_grown)⟩
    · have q15 : (b % 16 == 15) = false := by simpa using b15
      rw [if_neg b15]
      by_cases b7 : b % 16 = 7
      · have q7 : (b % 16 == 7) = true := by simpa using b7
        rw [if_pos b7]
        unfold M.pLook
        cases b4 : M.is b 4 with
        | true =>
          rw [b4] at h4
          have H4 := Lib.hid h4
          clear h4 h7 b4
          rw [if_pos rfl]
          have hso := fun W => rso_any ⟨mode, out, inn, dir, vec, mask, b, 2, ready, was, false⟩ ⟨⟨a1, a2⟩, ⟨a3, a4⟩, ⟨a5, a6⟩, ⟨a7, a8⟩, ⟨a9, a10⟩, ⟨a11, a12⟩, ⟨h0, h1⟩, ⟨by simp, by simp⟩⟩ W
          revert hso
          simp only
          generalize M.soB ⟨mode, out, inn, dir, vec, mask, b, 2, ready, was, false⟩ = s
          intro hso
          have HS := Lib.hid hso
          clear hso hx1
          rw [ha]
          clear ha
          go_enter Try.func74, Try.ntmps74
          go_wp2_with (first | ((with_reducible refine is_allocT 83 rfl ?_); refine wpList_alloc_row rfl _ rfl Z hZ.out ?_) | ((with_reducible refine is_loadT 83 rfl ?_); refine wpList_load_row rfl _ _ rfl _ _ rfl _ Try.underlying83 rfl _ (by repeat' first | (with_reducible assumption) | (with_reducible exact range_newA _ _ _) | (with_reducible refine range_alloc ?_ _) | (with_reducible refine range_drew ?_)) info83 ?_) | ((with_reducible refine is_storeT 83 rfl ?_); refine wpList_store_rowT rfl _ _ _ rfl _ _ _ rfl rfl (by repeat' (first | (refine there_newB _ _ _ _ ?_ ?_ <;> first | (simp; done) | (simp [hZs]; done)) | refine there_allocA ?_ _ | refine there_drewA ?_)) info83 (by simp [Value.oneCell']) ?_; intro W hW hT))
          refine (H4.out _).mono ?_
          rintro e w1 ⟨rfl, rfl⟩
          go_wp2_with ((with_reducible refine is_loadT 83 rfl ?_); refine wpList_load_row rfl _ _ rfl _ _ rfl _ Try.underlying83 rfl _ (by repeat' first | (with_reducible assumption) | (with_reducible exact range_newA _ _ _) | (with_reducible refine range_alloc ?_ _) | (with_reducible refine range_drew ?_)) info83 ?_)
          refine (HS.out _).mono ?_
          rintro e w1 ⟨rfl, rfl⟩
          go_wp2_with (first | ((with_reducible refine is_loadT 83 rfl ?_); refine wpList_load_row rfl _ _ rfl _ _ rfl _ Try.underlying83 rfl _ (by repeat' first | (with_reducible assumption) | (with_reducible exact range_newA _ _ _) | (with_reducible refine range_alloc ?_ _) | (with_reducible refine range_drew ?_)) info83 ?_) | ((with_reducible refine is_storeT 83 rfl ?_); refine wpList_store_rowT rfl _ _ _ rfl _ _ _ rfl rfl (by repeat' (first | (refine there_newB _ _ _ _ ?_ ?_ <;> first | (simp; done) | (simp [hZs]; done)) | refine there_allocA ?_ _ | refine there_drewA ?_)) info83 (by simp [Value.oneCell']) ?_; intro W hW hT))
          refine bodyPost_ret (results_row rfl _ _ _ _ _ _ rfl hW Try.underlying83 rfl info83) rfl ?_
          exact ⟨rfl, hT.below _ _ (by omega) (by simp; omega) (by go_grown)⟩
        | false =>
          rw [b4] at h4
          have H4 := Lib.hid h4
          clear h4 h7 b4
          rw [if_neg (by simp)]
          have hso := fun W => rso_any ⟨mode, out, inn, dir, vec, mask, b, next, ready, was, pend⟩ ⟨⟨a1, a2⟩, ⟨a3, a4⟩, ⟨a5, a6⟩, ⟨a7, a8⟩, ⟨a9, a10⟩, ⟨a11, a12⟩, ⟨h0, h1⟩, ⟨a15, a16⟩⟩ W
          revert hso
          simp only
          generalize M.soB ⟨mode, out, inn, dir, vec, mask, b, next, ready, was, pend⟩ = s
          intro hso
          have HS := Lib.hid hso
          clear hso hx1
          rw [ha]
          clear ha
          go_enter Try.func74, Try.ntmps74
          go_wp2_with (first | ((with_reducible refine is_allocT 83 rfl ?_); refine wpList_alloc_row rfl _ rfl Z hZ.out ?_) | ((with_reducible refine is_loadT 83 rfl ?_); refine wpList_load_row rfl _ _ rfl _ _ rfl _ Try.underlying83 rfl _ (by repeat' first | (with_reducible assumption) | (with_reducible exact range_newA _ _ _) | (with_reducible refine range_alloc ?_ _) | (with_reducible refine range_drew ?_)) info83 ?_) | ((with_reducible refine is_storeT 83 rfl ?_); refine wpList_store_rowT rfl _ _ _ rfl _ _ _ rfl rfl (by repeat' (first | (refine there_newB _ _ _ _ ?_ ?_ <;> first | (simp; done) | (simp [hZs]; done)) | refine there_allocA ?_ _ | refine there_drewA ?_)) info83 (by simp [Value.oneCell']) ?_; intro W hW hT))
          refine (H4.out _).mono ?_
          rintro e w1 ⟨rfl, rfl⟩
          go_wp2_with ((with_reducible refine is_loadT 83 rfl ?_); refine wpList_load_row rfl _ _ rfl _ _ rfl _ Try.underlying83 rfl _ (by repeat' first | (with_reducible assumption) | (with_reducible exact range_newA _ _ _) | (with_reducible refine range_alloc ?_ _) | (with_reducible refine range_drew ?_)) info83 ?_)
          refine (HS.out _).mono ?_
          rintro e w1 ⟨rfl, rfl⟩
          go_wp2_with (first | ((with_reducible refine is_loadT 83 rfl ?_); refine wpList_load_row rfl _ _ rfl _ _ rfl _ Try.underlying83 rfl _ (by repeat' first | (with_reducible assumption) | (with_reducible exact range_newA _ _ _) | (with_reducible refine range_alloc ?_ _) | (with_reducible refine range_drew ?_)) info83 ?_) | ((with_reducible refine is_storeT 83 rfl ?_); refine wpList_store_rowT rfl _ _ _ rfl _ _ _ rfl rfl (by repeat' (first | (refine there_newB _ _ _ _ ?_ ?_ <;> first | (simp; done) | (simp [hZs]; done)) | refine there_allocA ?_ _ | refine there_drewA ?_)) info83 (by simp [Value.oneCell']) ?_; intro W hW hT))
          refine bodyPost_ret (results_row rfl _ _ _ _ _ _ rfl hW Try.underlying83 rfl info83) rfl ?_
          exact ⟨rfl, hT.below _ _ (by omega) (by simp; omega) (by go_grown)⟩
      · have q7 : (b % 16 == 7) = false := by simpa using b7
        rw [if_neg b7]
        by_cases b3 : b % 16 = 3
        · have q3 : (b % 16 == 3) = true := by simpa using b3
          rw [if_pos b3]
          clear h4 hx1
          have hw7 := fun on W => refwith_any con 7 on a13 a14 W
          generalize M.is b 7 = on at h7 ⊢
          have hW7 := hw7 on
          generalize M.withB con 7 on = c7v at hW7 ⊢
          have H7 := Lib.hid h7
          have HW := Lib.hid hW7
          clear h7 hW7 hw7
          rw [ha]
          clear ha
          go_enter Try.func74, Try.ntmps74
          go_wp2_with (first | ((with_reducible refine is_allocT 83 rfl ?_); refine wpList_alloc_row rfl _ rfl Z hZ.out ?_) | ((with_reducible refine is_loadT 83 rfl ?_); refine wpList_load_row rfl _ _ rfl _ _ rfl _ Try.underlying83 rfl _ (by repeat' first | (with_reducible assumption) | (with_reducible exact range_newA _ _ _) | (with_reducible refine range_alloc ?_ _) | (with_reducible refine range_drew ?_)) info83 ?_) | ((with_reducible refine is_storeT 83 rfl ?_); refine wpList_store_rowT rfl _ _ _ rfl _ _ _ rfl rfl (by repeat' (first | (refine there_newB _ _ _ _ ?_ ?_ <;> first | (simp; done) | (simp [hZs]; done)) | refine there_allocA ?_ _ | refine there_drewA ?_)) info83 (by simp [Value.oneCell']) ?_; intro W hW hT))
          refine wp_region_held_drew (S := fun W => True) (by kernel_rfl) trivial ?_
          intro _
          refine wpAnyH_take (i := 0) (v := ?_) rfl (by kernel_rfl) (by kernel_rfl) (by kernel_rfl) (fun _ _ _ h => h) (Or.inl ⟨by rfl, ?_⟩) trivial ?_
          rotate_left 1
          · intro W hW
            clear hW
            go_simp
            all_goals with_reducible rfl
          try simp only [Act.put, List.setIfInBounds_toArray, List.set_cons_zero, List.set_cons_succ, List.getElem_toArray, List.getElem_cons_succ, List.getElem_cons_zero]
          refine wpAnyH_take (i := 2) (v := ?_) rfl (by kernel_rfl) (by kernel_rfl) (by kernel_rfl) (fun _ _ _ h => h) (Or.inl ⟨by rfl, ?_⟩) trivial ?_
          rotate_left 1
          · intro W hW
            clear hW
            go_simp
            all_goals with_reducible rfl
          try simp only [Act.put, List.setIfInBounds_toArray, List.set_cons_zero, List.set_cons_succ, List.getElem_toArray, List.getElem_cons_succ, List.getElem_cons_zero]
          refine wpAnyH_ready (rs := [1, 3]) (by kernel_rfl) (by simp) (AllReadyH.cons rfl ?_ (AllReadyH.cons rfl ?_ AllReadyH.nil))
          · intro K1 hK1
            rw [if_pos (by rfl)]
            try simp only [Act.put, List.setIfInBounds_toArray, List.set_cons_zero, List.set_cons_succ, List.getElem_toArray, List.getElem_cons_succ, List.getElem_cons_zero]
            go_simp
            refine hK1.out _ _ trivial (fun _ => ?_)
            clear hK1
            try simp only [Act.put, List.setIfInBounds_toArray, List.set_cons_zero, List.set_cons_succ, List.getElem_toArray, List.getElem_cons_succ, List.getElem_cons_zero]
            refine wpAnyH_ready (rs := [3]) (by kernel_rfl) (by simp) (AllReadyH.cons rfl ?_ AllReadyH.nil)
            intro K1 hK1
            rw [if_pos (by rfl)]
            try simp only [Act.put, List.setIfInBounds_toArray, List.set_cons_zero, List.set_cons_succ, List.getElem_toArray, List.getElem_cons_succ, List.getElem_cons_zero]
            go_simp
            refine (H7.out _).mono ?_
            rintro e w1 ⟨rfl, rfl⟩
            refine hK1.out _ _ trivial (fun _ => ?_)
            clear hK1
            try simp only [Act.put, List.setIfInBounds_toArray, List.set_cons_zero, List.set_cons_succ, List.getElem_toArray, List.getElem_cons_succ, List.getElem_cons_zero]
            refine wpAnyH_ready (rs := [4]) (by kernel_rfl) (by simp) (AllReadyH.cons rfl ?_ AllReadyH.nil)
            intro K1 hK1
            rw [if_pos (by rfl)]
            try simp only [Act.put, List.setIfInBounds_toArray, List.set_cons_zero, List.set_cons_succ, List.getElem_toArray, List.getElem_cons_succ, List.getElem_cons_zero]
            go_simp
            refine (HW.out _).mono ?_
            rintro e w1 ⟨rfl, rfl⟩
            refine hK1.out _ _ trivial (fun _ => ?_)
            clear hK1
            try simp only [Act.put, List.setIfInBounds_toArray, List.set_cons_zero, List.set_cons_succ, List.getElem_toArray, List.getElem_cons_succ, List.getElem_cons_zero]
            refine wpAnyH_take (i := 5) (v := ?_) rfl (by kernel_rfl) (by kernel_rfl) (by kernel_rfl) (fun _ _ _ h => h) (Or.inl ⟨by rfl, ?_⟩) trivial ?_
            rotate_left 1
            · intro W hW
              clear hW
              go_simp
              all_goals with_reducible rfl
            try simp only [Act.put, List.setIfInBounds_toArray, List.set_cons_zero, List.set_cons_succ, List.getElem_toArray, List.getElem_cons_succ, List.getElem_cons_zero]
            refine wpAnyH_ready (rs := [6]) (by kernel_rfl) (by simp) (AllReadyH.cons rfl ?_ AllReadyH.nil)
            intro K1 hK1
            rw [if_pos (by rfl)]
            try simp only [Act.put, List.setIfInBounds_toArray, List.set_cons_zero, List.set_cons_succ, List.getElem_toArray, List.getElem_cons_succ, List.getElem_cons_zero]
            go_simp
            refine hK1.out _ _ trivial (fun _ => ?_)
            clear hK1
            try simp only [Act.put, List.setIfInBounds_toArray, List.set_cons_zero, List.set_cons_succ, List.getElem_toArray, List.getElem_cons_succ, List.getElem_cons_zero]
            refine wpAnyH_done (by kernel_rfl) ?_ _
            go_wp2_with (first | ((with_reducible refine is_loadT 83 rfl ?_); refine wpList_load_row rfl _ _ rfl _ _ rfl _ Try.underlying83 rfl _ (by repeat' first | (with_reducible assumption) | (with_reducible exact range_newA _ _ _) | (with_reducible refine range_alloc ?_ _) | (with_reducible refine range_drew ?_)) info83 ?_) | ((with_reducible refine is_storeT 83 rfl ?_); refine wpList_store_rowT rfl _ _ _ rfl _ _ _ rfl rfl (by repeat' (first | (refine there_newB _ _ _ _ ?_ ?_ <;> first | (simp; done) | (simp [hZs]; done)) | refine there_allocA ?_ _ | refine there_drewA ?_)) info83 (by simp [Value.oneCell']) ?_; intro W hW hT))
            refine bodyPost_ret (results_row rfl _ _ _ _ _ _ rfl hW Try.underlying83 rfl info83) rfl ?_
            exact ⟨rfl, hT.below _ _ (by omega) (by simp; omega) (by go_grown)⟩
          · intro K1 hK1
            rw [if_pos (by rfl)]
            try simp only [Act.put, List.setIfInBounds_toArray, List.set_cons_zero, List.set_cons_succ, List.getElem_toArray, List.getElem_cons_succ, List.getElem_cons_zero]
            go_simp
            refine (H7.out _).mono ?_
            rintro e w1 ⟨rfl, rfl⟩
            refine hK1.out _ _ trivial (fun _ => ?_)
            clear hK1
            try simp only [Act.put, List.setIfInBounds_toArray, List.set_cons_zero, List.set_cons_succ, List.getElem_toArray, List.getElem_cons_succ, List.getElem_cons_zero]
            refine wpAnyH_ready (rs := [1]) (by kernel_rfl) (by simp) (AllReadyH.cons rfl ?_ AllReadyH.nil)
            intro K1 hK1
            rw [if_pos (by rfl)]
            try simp only [Act.put, List.setIfInBounds_toArray, List.set_cons_zero, List.set_cons_succ, List.getElem_toArray, List.getElem_cons_succ, List.getElem_cons_zero]
            go_simp
            refine hK1.out _ _ trivial (fun _ => ?_)
            clear hK1
            try simp only [Act.put, List.setIfInBounds_toArray, List.set_cons_zero, List.set_cons_succ, List.getElem_toArray, List.getElem_cons_succ, List.getElem_cons_zero]
            refine wpAnyH_ready (rs := [4]) (by kernel_rfl) (by simp) (AllReadyH.cons rfl ?_ AllReadyH.nil)
            intro K1 hK1
            rw [if_pos (by rfl)]
            try simp only [Act.put, List.setIfInBounds_toArray, List.set_cons_zero, List.set_cons_succ, List.getElem_toArray, List.getElem_cons_succ, List.getElem_cons_zero]
            go_simp
            refine (HW.out _).mono ?_
            rintro e w1 ⟨rfl, rfl⟩
            refine hK1.out _ _ trivial (fun _ => ?_)
            clear hK1
            try simp only [Act.put, List.setIfInBounds_toArray, List.set_cons_zero, List.set_cons_succ, List.getElem_toArray, List.getElem_cons_succ, List.getElem_cons_zero]
            refine wpAnyH_take (i := 5) (v := ?_) rfl (by kernel_rfl) (by kernel_rfl) (by kernel_rfl) (fun _ _ _ h => h) (Or.inl ⟨by rfl, ?_⟩) trivial ?_
            rotate_left 1
            · intro W hW
              clear hW
              go_simp
              all_goals with_reducible rfl
            try simp only [Act.put, List.setIfInBounds_toArray, List.set_cons_zero, List.set_cons_succ, List.getElem_toArray, List.getElem_cons_succ, List.getElem_cons_zero]
            refine wpAnyH_ready (rs := [6]) (by kernel_rfl) (by simp) (AllReadyH.cons rfl ?_ AllReadyH.nil)
            intro K1 hK1
            rw [if_pos (by rfl)]
            try simp only [Act.put, List.setIfInBounds_toArray, List.set_cons_zero, List.set_cons_succ, List.getElem_toArray, List.getElem_cons_succ, List.getElem_cons_zero]
            go_simp
            refine hK1.out _ _ trivial (fun _ => ?_)
            clear hK1
            try simp only [Act.put, List.setIfInBounds_toArray, List.set_cons_zero, List.set_cons_succ, List.getElem_toArray, List.getElem_cons_succ, List.getElem_cons_zero]
            refine wpAnyH_done (by kernel_rfl) ?_ _
            go_wp2_with (first | ((with_reducible refine is_loadT 83 rfl ?_); refine wpList_load_row rfl _ _ rfl _ _ rfl _ Try.underlying83 rfl _ (by repeat' first | (with_reducible assumption) | (with_reducible exact range_newA _ _ _) | (with_reducible refine range_alloc ?_ _) | (with_reducible refine range_drew ?_)) info83 ?_) | ((with_reducible refine is_storeT 83 rfl ?_); refine wpList_store_rowT rfl _ _ _ rfl _ _ _ rfl rfl (by repeat' (first | (refine there_newB _ _ _ _ ?_ ?_ <;> first | (simp; done) | (simp [hZs]; done)) | refine there_allocA ?_ _ | refine there_drewA ?_)) info83 (by simp [Value.oneCell']) ?_; intro W hW hT))
            refine bodyPost_ret (results_row rfl _ _ _ _ _ _ rfl hW Try.underlying83 rfl info83) rfl ?_
            exact ⟨rfl, hT.below _ _ (by omega) (by simp; omega) (by go_grown)⟩
        · have q3 : (b % 16 == 3) = false := by simpa using b3
          rw [if_neg b3]
          clear h4 h7 hx1
          by_cases b2 : b % 2 = 0
          · have q2 : (b % 2 == 0) = true := by simpa using b2
            rw [if_pos b2, ha]
            clear ha
            go_enter Try.func74, Try.ntmps74
            go_wp2_with (first | ((with_reducible refine is_allocT 83 rfl ?_); refine wpList_alloc_row rfl _ rfl Z hZ.out ?_) | ((with_reducible refine is_loadT 83 rfl ?_); refine wpList_load_row rfl _ _ rfl _ _ rfl _ Try.underlying83 rfl _ (by repeat' first | (with_reducible assumption) | (with_reducible exact range_newA _ _ _) | (with_reducible refine range_alloc ?_ _) | (with_reducible refine range_drew ?_)) info83 ?_) | ((with_reducible refine is_storeT 83 rfl ?_); refine wpList_store_rowT rfl _ _ _ rfl _ _ _ rfl rfl (by repeat' (first | (refine there_newB _ _ _ _ ?_ ?_ <;> first | (simp; done) | (simp [hZs]; done)) | refine there_allocA ?_ _ | refine there_drewA ?_)) info83 (by simp [Value.oneCell']) ?_; intro W hW hT))
            refine bodyPost_ret (results_row rfl _ _ _ _ _ _ rfl hW Try.underlying83 rfl info83) rfl ?_
            exact ⟨rfl, hT.below _ _ (by omega) (by simp; omega) (by go_grown)⟩
          · have q2 : (b % 2 == 0) = false := by simpa using b2
            rw [if_neg b2, ha]
            clear ha
            go_enter Try.func74, Try.ntmps74
            go_wp2_with (first | ((with_reducible refine is_allocT 83 rfl ?_); refine wpList_alloc_row rfl _ rfl Z hZ.out ?_) | ((with_reducible refine is_loadT 83 rfl ?_); refine wpList_load_row rfl _ _ rfl _ _ rfl _ Try.underlying83 rfl _ (by repeat' first | (with_reducible assumption) | (with_reducible exact range_newA _ _ _) | (with_reducible refine range_alloc ?_ _) | (with_reducible refine range_drew ?_)) info83 ?_) | ((with_reducible refine is_storeT 83 rfl ?_); refine wpList_store_rowT rfl _ _ _ rfl _ _ _ rfl rfl (by repeat' (first | (refine there_newB _ _ _ _ ?_ ?_ <;> first | (simp; done) | (simp [hZs]; done)) | refine there_allocA ?_ _ | refine there_drewA ?_)) info83 (by simp [Value.oneCell']) ?_; intro W hW hT))
            refine bodyPost_ret (results_row rfl _ _ _ _ _ _ rfl hW Try.underlying83 rfl info83) rfl ?_
            exact ⟨rfl, hT.below _ _ (by omega) (by simp; omega) (by go_grown)⟩
end Go.Proofs.Ytmoafjgogbcoeaa
