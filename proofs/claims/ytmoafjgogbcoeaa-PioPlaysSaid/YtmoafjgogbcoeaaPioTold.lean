/- charabanclaw24.told by its contract; ports stay as they may be. -/
import Derived.Test.YtmoafjgogbcoeaaPioRef5
import Derived.Test.YtmoafjgogbcoeaaPioWrite
namespace Go.Proofs.Ytmoafjgogbcoeaa
open Go.RowKit
set_option linter.unusedVariables false
set_option linter.unusedSimpArgs false
set_option maxRecDepth 100000
theorem M.pWrite_ok {p : M.Pi2} {reg b : Int} (hp : p.ok) (h0 : 0 ≤ b) (h1 : b ≤ 255) : (M.pWrite p reg b).ok := by
  have set_ok : ∀ (x : M.Po) (n : Nat), x.ok → (p.set x n).ok := fun x n hx => by
    unfold M.Pi2.set
    split
    · exact ⟨hx, hp.2⟩
    · exact ⟨hp.1, hx⟩
  have hat := fun n => pi_at_ok hp n
  unfold M.pWrite
  split
  · refine set_ok _ _ ?_
    have h := hat reg.toNat
    exact ⟨h.1, ⟨h0, h1⟩, h.2.2⟩
  · split
    · refine set_ok _ _ ?_
      have h := hat (reg.toNat - 2)
      generalize p.at (reg.toNat - 2) = x at h
      unfold M.pControl
      split
      · unfold M.pFollow M.pLook
        split
        · exact ⟨h.1, h.2.1, h.2.2.1, ⟨h0, h1⟩, h.2.2.2.2.1, h.2.2.2.2.2.1, h.2.2.2.2.2.2.1, by simp⟩
        · exact ⟨h.1, h.2.1, h.2.2.1, h.2.2.2.1, h.2.2.2.2.1, ⟨h0, h1⟩, h.2.2.2.2.2.2.1, by simp⟩
      · split
        · refine ⟨by simp only; omega, h.2.1, h.2.2.1, h.2.2.2.1, h.2.2.2.2.1, h.2.2.2.2.2.1, h.2.2.2.2.2.2.1, ?_⟩
          simp only
          split <;> simp
        · split
          · unfold M.pLook
            split
            · exact ⟨h.1, h.2.1, h.2.2.1, h.2.2.2.1, h.2.2.2.2.1, h.2.2.2.2.2.1, ⟨h0, h1⟩, by simp⟩
            · exact ⟨h.1, h.2.1, h.2.2.1, h.2.2.2.1, h.2.2.2.2.1, h.2.2.2.2.2.1, ⟨h0, h1⟩, h.2.2.2.2.2.2.2⟩
          · split
            · exact ⟨h.1, h.2.1, h.2.2.1, h.2.2.2.1, h.2.2.2.2.1, h.2.2.2.2.2.1, M.with_range x.con 7 (M.is b 7) h.2.2.2.2.2.2.1.1 h.2.2.2.2.2.2.1.2, h.2.2.2.2.2.2.2⟩
            · split
              · exact ⟨h.1, h.2.1, h.2.2.1, h.2.2.2.1, ⟨h0, h1⟩, h.2.2.2.2.2⟩
              · exact h
    · exact hp
def M.toldP (p : M.Pi2) (reg : Int) : List Int → M.Pi2
  | [] => p
  | b :: l => M.toldP (M.pWrite p reg b) reg l
theorem M.toldP_snoc (p : M.Pi2) (reg : Int) (l : List Int) (b : Int) : M.toldP p reg (l ++ [b]) = M.pWrite (M.toldP p reg l) reg b := by
  induction l generalizing p with
  | nil => rfl
  | cons x l ih => exact ih _
theorem M.toldP_ok {p : M.Pi2} {reg : Int} (hp : p.ok) : ∀ {l : List Int}, (∀ b, b ∈ l → 0 ≤ b ∧ b ≤ 255) → (M.toldP p reg l).ok := by
  intro l
  induction l generalizing p with
  | nil => exact fun _ => hp
  | cons x l ih => exact fun h => ih (M.pWrite_ok hp (h x (.head _)).1 (h x (.head _)).2) (fun b hb => h b (.tail _ hb))
set_option maxHeartbeats 4000000 in
theorem told_any (p : M.Pi2) (hp : p.ok) (reg : Int) (l : List Int) (hl : ∀ b, b ∈ l → 0 ≤ b ∧ b ≤ 255) (x : Addr) (cap : Nat) (hm : l.length ≤ 1000) (w : World) (hc : ∀ i, i < l.length → ∀ W, Below w.heap.size w W → W.cell? (x.add i) = some (.int .u8 (l.getD i 0))) :
    Calls Try.prog 70 #[.agg p.a, .int .i64 reg, .slice (some x) l.length cap] w fun e w' => e = .returned (.agg (M.toldP p reg l).a) ∧ Below w.heap.size w w' := by
  have hS := St.start w.heap.size 0 0 w
  have HC := Lib.hid hc
  clear hc
  go_enter Try.func70, Try.ntmps70
  go_wp2_with (first
  | ((with_reducible refine to_box ?_); (first | refine Wl_box hS (fun _ => by rfl) _ rfl ?_ | refine Wl_box1 hS (fun _ => by rfl) (.int _ _) rfl rfl ?_ | refine Wl_box1 hS (fun _ => by rfl) (.bool _) rfl rfl ?_ | refine Wl_box1 hS (fun _ => by rfl) (.slice _ _ _) rfl rfl ?_ | refine Wl_box1 hS (fun _ => by rfl) (.pointer _) rfl rfl ?_); clear hS; intro b3 wW hS; simp only [Act.put, List.setIfInBounds_toArray, List.set_cons_zero, List.set_cons_succ])
  | ((with_reducible refine to_alloc 80 rfl ?_); refine Wl_alloc hS (fun _ => by rfl) _ zero80r ?_; clear hS; intro b6 wW hS; simp only [Act.put, List.setIfInBounds_toArray, List.set_cons_zero, List.set_cons_succ])
  | ((with_reducible refine to_load 80 rfl ?_); refine Wl_load hS (fun _ => by rfl) _ _ rfl _ Try.underlying80 rfl ?_; (repeat (first | (refine Row.here ⟨info80c _, ?_⟩) | refine Row.next ?_)); (with_reducible show wpList _ _ _ _ _ _); simp only [Act.put, List.setIfInBounds_toArray, List.set_cons_zero, List.set_cons_succ])
  | ((with_reducible refine to_store 80 rfl ?_); refine Wl_store hS (fun _ => by rfl) _ _ _ rfl rfl (info80c _) (pi_one _) ?_; (repeat (first | refine Turn.here rfl ?_ | refine Turn.next ?_)); clear hS; intro wW hS; try simp only [Act.put, List.setIfInBounds_toArray, List.set_cons_zero, List.set_cons_succ]))
  have HS0 : Hid (St w.heap.size 0 0 w [⟨b6, 0, true, M.pio00.a⟩, ⟨b3, 0, true, (M.toldP p reg (l.take 0)).a⟩] wW) := Lib.hid hS
  clear hS
  go_loopw [7] (fun i wr => ∃ k : Nat, k ≤ l.length ∧ i = .int .i64 k ∧ St w.heap.size 0 0 w [⟨b6, 0, true, M.pio00.a⟩, ⟨b3, 0, true, (M.toldP p reg (l.take k)).a⟩] wr) (fun i _ => l.length - (intOf i).toNat)
  case atStart => exact ⟨0, Nat.zero_le _, rfl, HS0.out⟩
  case round =>
    clear HS0
    obtain ⟨k, hk, rfl, hS⟩ := hrel
    by_cases hlt : k < l.length
    · have hlt' : (k : Int) < (l.length : Int) := by omega
      have hlt0 : (0 : Int) ≤ (k : Int) := by omega
      have hCell := Lib.hid (HC.out k hlt)
      have hb := hl (l.getD k 0) (by rw [List.getD_eq_getElem?_getD, List.getElem?_eq_getElem hlt]; exact List.getElem_mem hlt)
      have hok : (M.toldP p reg (l.take k)).ok := M.toldP_ok hp (fun b hb => hl b (List.mem_of_mem_take hb))
      have hsn : M.toldP p reg (l.take (k + 1)) = M.pWrite (M.toldP p reg (l.take k)) reg (l.getD k 0) := by
        rw [List.take_succ_eq_append_getElem hlt, M.toldP_snoc, List.getD_eq_getElem?_getD, List.getElem?_eq_getElem hlt]
        rfl
      have hw1 := fun W => pwrite_any (M.toldP p reg (l.take k)) hok reg (l.getD k 0) hb.1 hb.2 W
      rw [← hsn] at hw1
      generalize M.toldP p reg (l.take k) = P0 at hS hw1
      generalize hP1 : M.toldP p reg (l.take (k + 1)) = P1 at hw1
      generalize l.getD k 0 = v at hCell hw1 hb
      have HW := Lib.hid hw1
      have HP1 := Lib.hid hP1
      clear hw1 hP1 hsn hok
      go_wp2_with fail
      refine wp_region_held_drew (S := fun W => St w.heap.size 0 0 w [] W) (by kernel_rfl) (hS.drew.sub (by repeat (first | exact List.Sublist.slnil | apply List.Sublist.cons₂ | apply List.Sublist.cons))) ?_
      intro _
      replace hS := hS.drew
      generalize World.drew _ = wX at hS ⊢
      refine wpAnyH_take (i := 1) (v := ?_) rfl (by kernel_rfl) (by kernel_rfl) (by kernel_rfl) (fun _ _ _ h => h) (Or.inl ⟨by rfl, ?_⟩) (hS.sub (by repeat (first | exact List.Sublist.slnil | apply List.Sublist.cons₂ | apply List.Sublist.cons))) ?_
      rotate_left 1
      · intro W hW
        clear hW
        go_simp
        all_goals with_reducible rfl
      try simp only [Act.put, List.setIfInBounds_toArray, List.set_cons_zero, List.set_cons_succ, List.getElem_toArray, List.getElem_cons_succ, List.getElem_cons_zero]
      refine wpAnyH_take (i := 2) (v := ?_) rfl (by kernel_rfl) (by kernel_rfl) (by kernel_rfl) (fun _ _ _ h => h) (Or.inl ⟨by rfl, ?_⟩) (hS.sub (by repeat (first | exact List.Sublist.slnil | apply List.Sublist.cons₂ | apply List.Sublist.cons))) ?_
      rotate_left 1
      · intro W hW
        clear hW
        go_simp
        all_goals with_reducible rfl
      try simp only [Act.put, List.setIfInBounds_toArray, List.set_cons_zero, List.set_cons_succ, List.getElem_toArray, List.getElem_cons_succ, List.getElem_cons_zero]
      refine wpAnyH_take (i := 3) (v := ?_) rfl (by kernel_rfl) (by kernel_rfl) (by kernel_rfl) (fun _ _ _ h => h) (Or.inl ⟨by rfl, ?_⟩) (hS.sub (by repeat (first | exact List.Sublist.slnil | apply List.Sublist.cons₂ | apply List.Sublist.cons))) ?_
      rotate_left 1
      · intro W hW
        clear hW
        go_simp
        all_goals with_reducible rfl
      try simp only [Act.put, List.setIfInBounds_toArray, List.set_cons_zero, List.set_cons_succ, List.getElem_toArray, List.getElem_cons_succ, List.getElem_cons_zero]
      refine wpAnyH_take (i := 4) (v := ?_) rfl (by kernel_rfl) (by kernel_rfl) (by kernel_rfl) (fun _ _ _ h => h) (Or.inl ⟨by rfl, ?_⟩) (hS.sub (by repeat (first | exact List.Sublist.slnil | apply List.Sublist.cons₂ | apply List.Sublist.cons))) ?_
      rotate_left 1
      · intro W hW
        clear hW
        go_simp
        all_goals with_reducible rfl
      try simp only [Act.put, List.setIfInBounds_toArray, List.set_cons_zero, List.set_cons_succ, List.getElem_toArray, List.getElem_cons_succ, List.getElem_cons_zero]
      refine wpAnyH_take (i := 5) (v := ?_) rfl (by kernel_rfl) (by kernel_rfl) (by kernel_rfl) (fun _ _ _ h => h) (Or.inl ⟨by rfl, ?_⟩) (hS.sub (by repeat (first | exact List.Sublist.slnil | apply List.Sublist.cons₂ | apply List.Sublist.cons))) ?_
      rotate_left 1
      · intro W hW
        have hv := hCell.out W hW.below
        clear hW
        go_simp
        all_goals with_reducible rfl
      try simp only [Act.put, List.setIfInBounds_toArray, List.set_cons_zero, List.set_cons_succ, List.getElem_toArray, List.getElem_cons_succ, List.getElem_cons_zero]
      refine wpAnyH_ready (rs := [0]) (by kernel_rfl) (by simp) (AllReadyH.cons rfl ?_ AllReadyH.nil)
      intro K1 hK1
      rw [if_pos (by rfl)]
      try simp only [Act.put, List.setIfInBounds_toArray, List.set_cons_zero, List.set_cons_succ, List.getElem_toArray, List.getElem_cons_succ, List.getElem_cons_zero]
      refine wp_load_st hS _ _ rfl _ _ rfl _ Try.underlying80 rfl ?_
      repeat (first | (refine Row.here ⟨info80c _, ?_⟩) | refine Row.next ?_)
      refine hK1.out _ _ (hS.sub (by repeat (first | exact List.Sublist.slnil | apply List.Sublist.cons₂ | apply List.Sublist.cons))) (fun _ => ?_)
      clear hK1
      try simp only [Act.put, List.setIfInBounds_toArray, List.set_cons_zero, List.set_cons_succ, List.getElem_toArray, List.getElem_cons_succ, List.getElem_cons_zero]
      refine wpAnyH_ready (rs := [6]) (by kernel_rfl) (by simp) (AllReadyH.cons rfl ?_ AllReadyH.nil)
      intro K1 hK1
      rw [if_pos (by rfl)]
      try simp only [Act.put, List.setIfInBounds_toArray, List.set_cons_zero, List.set_cons_succ, List.getElem_toArray, List.getElem_cons_succ, List.getElem_cons_zero]
      go_simp
      refine (HW.out _).mono ?_
      rintro e1 v2 ⟨rfl, hb⟩
      replace hS := hS.call hb
      clear hb
      refine hK1.out _ _ (hS.sub (by repeat (first | exact List.Sublist.slnil | apply List.Sublist.cons₂ | apply List.Sublist.cons))) (fun _ => ?_)
      clear hK1
      try simp only [Act.put, List.setIfInBounds_toArray, List.set_cons_zero, List.set_cons_succ, List.getElem_toArray, List.getElem_cons_succ, List.getElem_cons_zero]
      refine wpAnyH_ready (rs := [7]) (by kernel_rfl) (by simp) (AllReadyH.cons rfl ?_ AllReadyH.nil)
      intro K1 hK1
      rw [if_pos (by rfl)]
      try simp only [Act.put, List.setIfInBounds_toArray, List.set_cons_zero, List.set_cons_succ, List.getElem_toArray, List.getElem_cons_succ, List.getElem_cons_zero]
      refine wp_store_st hS _ _ _ rfl _ _ _ rfl rfl (info80c _) (pi_one _) ?_
      repeat (first | refine Turn.here rfl ?_ | refine Turn.next ?_)
      clear hS
      intro wW hS
      refine hK1.out _ _ (hS.sub (by repeat (first | exact List.Sublist.slnil | apply List.Sublist.cons₂ | apply List.Sublist.cons))) (fun _ => ?_)
      clear hK1
      try simp only [Act.put, List.setIfInBounds_toArray, List.set_cons_zero, List.set_cons_succ, List.getElem_toArray, List.getElem_cons_succ, List.getElem_cons_zero]
      refine wpAnyH_done (by kernel_rfl) ?_ _
      go_wp2_with fail
      go_round
      case rel => exact ⟨k + 1, by omega, by simp, by rw [HP1.out]; exact hS⟩
      case measure => simp [intOf]; omega
    · obtain rfl : k = l.length := by omega
      rw [List.take_length] at hS
      go_wp2_with (first
  | ((with_reducible refine to_box ?_); (first | refine Wl_box hS (fun _ => by rfl) _ rfl ?_ | refine Wl_box1 hS (fun _ => by rfl) (.int _ _) rfl rfl ?_ | refine Wl_box1 hS (fun _ => by rfl) (.bool _) rfl rfl ?_ | refine Wl_box1 hS (fun _ => by rfl) (.slice _ _ _) rfl rfl ?_ | refine Wl_box1 hS (fun _ => by rfl) (.pointer _) rfl rfl ?_); clear hS; intro b3 wW hS; simp only [Act.put, List.setIfInBounds_toArray, List.set_cons_zero, List.set_cons_succ])
  | ((with_reducible refine to_alloc 80 rfl ?_); refine Wl_alloc hS (fun _ => by rfl) _ zero80r ?_; clear hS; intro b6 wW hS; simp only [Act.put, List.setIfInBounds_toArray, List.set_cons_zero, List.set_cons_succ])
  | ((with_reducible refine to_load 80 rfl ?_); refine Wl_load hS (fun _ => by rfl) _ _ rfl _ Try.underlying80 rfl ?_; (repeat (first | (refine Row.here ⟨info80c _, ?_⟩) | refine Row.next ?_)); (with_reducible show wpList _ _ _ _ _ _); simp only [Act.put, List.setIfInBounds_toArray, List.set_cons_zero, List.set_cons_succ])
  | ((with_reducible refine to_store 80 rfl ?_); refine Wl_store hS (fun _ => by rfl) _ _ _ rfl rfl (info80c _) (pi_one _) ?_; (repeat (first | refine Turn.here rfl ?_ | refine Turn.next ?_)); clear hS; intro wW hS; try simp only [Act.put, List.setIfInBounds_toArray, List.set_cons_zero, List.set_cons_succ]))
      refine ret_st hS rfl _ _ rfl rfl _ Try.underlying80 rfl ?_
      repeat (first | (refine Row.here ⟨info80c _, ?_⟩) | refine Row.next ?_)
      exact ⟨rfl, hS.below⟩
end Go.Proofs.Ytmoafjgogbcoeaa
