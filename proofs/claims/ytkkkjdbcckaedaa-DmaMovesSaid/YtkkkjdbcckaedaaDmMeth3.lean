/- found of a DMA (dma): the search. -/
import Derived.Test.YtkkkjdbcckaedaaZDm
namespace Go.Proofs.Ytkkkjdbcckaedaa
open Go.RowKit
set_option linter.unusedVariables false
set_option linter.unusedSimpArgs false
set_option maxRecDepth 100000
theorem M.zero_fin : ∀ u : Fin 256, ((List.range 8).all fun k : Nat => !M.bit (u.val : Int) k) = decide ((u.val : Int) = 0) := by decide +kernel
theorem M.zero_is (x : Int) (h0 : 0 ≤ x) (h1 : x ≤ 255) : ((List.range 8).all fun k : Nat => !M.bit x k) = decide (x = 0) := by
  have h := M.zero_fin ⟨x.toNat, by omega⟩
  have e : ((⟨x.toNat, by omega⟩ : Fin 256).val : Int) = x := by show (x.toNat : Int) = x; omega
  rwa [e] at h
theorem M.alike_is (a b m : Int) : (bits .andNot .u8 (bits .xor .u8 a b) m != 0) = !M.alike a b m := by
  have r := M.bits_range .andNot (bits .xor .u8 a b) m
  have e : M.alike a b m = ((List.range 8).all fun k : Nat => !M.bit (bits .andNot .u8 (bits .xor .u8 a b) m) k) := by
    unfold M.alike
    rw [Bool.eq_iff_iff, List.all_eq_true, List.all_eq_true]
    refine forall_congr' fun k => ?_
    by_cases hk : k ∈ List.range 8
    · have hk8 : k < 8 := List.mem_range.1 hk
      rw [M.bit_andNot _ _ k hk8, M.bit_xor _ _ k hk8]
      cases M.bit a k <;> cases M.bit b k <;> cases M.bit m k <;> simp
    · simp only [hk, false_implies]
  rw [e, M.zero_is _ r.1 r.2]
  by_cases h : bits .andNot .u8 (bits .xor .u8 a b) m = 0
  · rw [h]; rfl
  · rw [decide_eq_false h]
    simp [h]
set_option maxHeartbeats 4000000 in
theorem dfound_any (B : Nat) (d : M.Dm) (hd : d.ok) (s : Value) (w : World) (h : DmAt B d s w) (b : Int) (h0 : 0 ≤ b) (h1 : b ≤ 255) : Calls Try.prog 33 #[.pointer (some ⟨B, 0, none⟩), .int .u8 b] w (DmOut B (M.dFound d b) s (.tuple #[]) w) := by
  have hx := M.alike_is b d.p.mat d.p.mask
  have hS := h.st
  clear h
  go_enter Try.func33, Try.ntmps33
  by_cases hc : d.p.cls = 1
  · have t0 : (d.p.cls == 1) = true := by rw [hc]; rfl
    have e1 : M.dFound d b = d := by unfold M.dFound; rw [if_neg (fun k => k.1 hc)]
    rw [e1]
    clear e1 hc hx
    go_wp2_with fail
    refine wp_region_held_drew (S := fun W => St B 0 35 w [⟨B, 0, true, d.c s⟩] W) (by kernel_rfl) (hS.drew.sub (by repeat (first | exact List.Sublist.slnil | apply List.Sublist.cons_cons))) ?_
    intro _
    replace hS := hS.drew
    generalize World.drew _ = wX at hS ⊢
    refine wpAnyH_take (i := 0) (v := ?_) rfl (by kernel_rfl) (by kernel_rfl) (by kernel_rfl) (fun _ _ _ h => h) (Or.inl ⟨by rfl, ?_⟩) (hS.sub (by repeat (first | exact List.Sublist.slnil | apply List.Sublist.cons_cons))) ?_
    rotate_left 1
    · intro W hW
      clear hW
      go_simp
      all_goals with_reducible rfl
    try simp only [nR]
    refine wpAnyH_take (i := 1) (v := ?_) rfl (by kernel_rfl) (by kernel_rfl) (by kernel_rfl) (fun _ _ _ h => h) (Or.inl ⟨by rfl, ?_⟩) (hS.sub (by repeat (first | exact List.Sublist.slnil | apply List.Sublist.cons_cons))) ?_
    rotate_left 1
    · intro W hW
      clear hW
      go_simp
      all_goals with_reducible rfl
    try simp only [nR]
    refine wpAnyH_take (i := 2) (v := ?_) rfl (by kernel_rfl) (by kernel_rfl) (by kernel_rfl) (fun _ _ _ h => h) (Or.inl ⟨by rfl, ?_⟩) (hS.sub (by repeat (first | exact List.Sublist.slnil | apply List.Sublist.cons_cons))) ?_
    rotate_left 1
    · intro W hW
      clear hW
      go_simp
      all_goals with_reducible rfl
    try simp only [nR]
    refine wpAnyH_take (i := 3) (v := ?_) rfl (by kernel_rfl) (by kernel_rfl) (by kernel_rfl) (fun _ _ _ h => h) (Or.inl ⟨by rfl, ?_⟩) (hS.sub (by repeat (first | exact List.Sublist.slnil | apply List.Sublist.cons_cons))) ?_
    rotate_left 1
    · intro W hW
      clear hW
      go_simp
      all_goals with_reducible rfl
    try simp only [nR]
    first
      | refine wpAnyH_take (i := 4) rfl (by kernel_rfl) (by kernel_rfl) (by kernel_rfl) (fun _ _ _ h => h) (yields_one (by rfl) _ _ rfl _ _ rfl sc3 _ (fun W hW => hW.cell0 (.head _) rfl)) (hS.sub (by repeat (first | exact List.Sublist.slnil | apply List.Sublist.cons_cons))) ?_
      
    try simp only [nR]
    refine wpAnyH_take (i := 5) (v := ?_) rfl (by kernel_rfl) (by kernel_rfl) (by kernel_rfl) (fun _ _ _ h => h) (Or.inl ⟨by rfl, ?_⟩) (hS.sub (by repeat (first | exact List.Sublist.slnil | apply List.Sublist.cons_cons))) ?_
    rotate_left 1
    · intro W hW
      have hv := t0
      clear hW
      go_simp
      all_goals with_reducible rfl
    try simp only [nR]
    refine wpAnyH_take (i := 6) (v := ?_) rfl (by kernel_rfl) (by kernel_rfl) (by kernel_rfl) (fun _ _ _ h => h) (Or.inl ⟨by rfl, ?_⟩) (hS.sub (by repeat (first | exact List.Sublist.slnil | apply List.Sublist.cons_cons))) ?_
    rotate_left 1
    · intro W hW
      clear hW
      go_simp
      all_goals with_reducible rfl
    try simp only [nR]
    refine wpAnyH_take (i := 7) (v := undef) rfl (by kernel_rfl) (by kernel_rfl) (by kernel_rfl) (fun _ _ _ h => h) (Or.inr ⟨by rfl, rfl⟩) (hS.sub (by repeat (first | exact List.Sublist.slnil | apply List.Sublist.cons_cons))) ?_
    try simp only [nR]
    refine wpAnyH_take (i := 8) (v := undef) rfl (by kernel_rfl) (by kernel_rfl) (by kernel_rfl) (fun _ _ _ h => h) (Or.inr ⟨by rfl, rfl⟩) (hS.sub (by repeat (first | exact List.Sublist.slnil | apply List.Sublist.cons_cons))) ?_
    try simp only [nR]
    refine wpAnyH_take (i := 9) (v := undef) rfl (by kernel_rfl) (by kernel_rfl) (by kernel_rfl) (fun _ _ _ h => h) (Or.inr ⟨by rfl, rfl⟩) (hS.sub (by repeat (first | exact List.Sublist.slnil | apply List.Sublist.cons_cons))) ?_
    try simp only [nR]
    refine wpAnyH_take (i := 10) (v := undef) rfl (by kernel_rfl) (by kernel_rfl) (by kernel_rfl) (fun _ _ _ h => h) (Or.inr ⟨by rfl, rfl⟩) (hS.sub (by repeat (first | exact List.Sublist.slnil | apply List.Sublist.cons_cons))) ?_
    try simp only [nR]
    refine wpAnyH_take (i := 11) (v := undef) rfl (by kernel_rfl) (by kernel_rfl) (by kernel_rfl) (fun _ _ _ h => h) (Or.inr ⟨by rfl, rfl⟩) (hS.sub (by repeat (first | exact List.Sublist.slnil | apply List.Sublist.cons_cons))) ?_
    try simp only [nR]
    refine wpAnyH_take (i := 12) (v := undef) rfl (by kernel_rfl) (by kernel_rfl) (by kernel_rfl) (fun _ _ _ h => h) (Or.inr ⟨by rfl, rfl⟩) (hS.sub (by repeat (first | exact List.Sublist.slnil | apply List.Sublist.cons_cons))) ?_
    try simp only [nR]
    refine wpAnyH_take (i := 13) (v := undef) rfl (by kernel_rfl) (by kernel_rfl) (by kernel_rfl) (fun _ _ _ h => h) (Or.inr ⟨by rfl, rfl⟩) (hS.sub (by repeat (first | exact List.Sublist.slnil | apply List.Sublist.cons_cons))) ?_
    try simp only [nR]
    refine wpAnyH_take (i := 14) (v := undef) rfl (by kernel_rfl) (by kernel_rfl) (by kernel_rfl) (fun _ _ _ h => h) (Or.inr ⟨by rfl, rfl⟩) (hS.sub (by repeat (first | exact List.Sublist.slnil | apply List.Sublist.cons_cons))) ?_
    try simp only [nR]
    refine wpAnyH_take (i := 15) (v := undef) rfl (by kernel_rfl) (by kernel_rfl) (by kernel_rfl) (fun _ _ _ h => h) (Or.inr ⟨by rfl, rfl⟩) (hS.sub (by repeat (first | exact List.Sublist.slnil | apply List.Sublist.cons_cons))) ?_
    try simp only [nR]
    refine wpAnyH_take (i := 16) (v := undef) rfl (by kernel_rfl) (by kernel_rfl) (by kernel_rfl) (fun _ _ _ h => h) (Or.inr ⟨by rfl, rfl⟩) (hS.sub (by repeat (first | exact List.Sublist.slnil | apply List.Sublist.cons_cons))) ?_
    try simp only [nR]
    refine wpAnyH_take (i := 17) (v := undef) rfl (by kernel_rfl) (by kernel_rfl) (by kernel_rfl) (fun _ _ _ h => h) (Or.inr ⟨by rfl, rfl⟩) (hS.sub (by repeat (first | exact List.Sublist.slnil | apply List.Sublist.cons_cons))) ?_
    try simp only [nR]
    refine wpAnyH_take (i := 18) (v := undef) rfl (by kernel_rfl) (by kernel_rfl) (by kernel_rfl) (fun _ _ _ h => h) (Or.inr ⟨by rfl, rfl⟩) (hS.sub (by repeat (first | exact List.Sublist.slnil | apply List.Sublist.cons_cons))) ?_
    try simp only [nR]
    refine wpAnyH_take (i := 19) (v := undef) rfl (by kernel_rfl) (by kernel_rfl) (by kernel_rfl) (fun _ _ _ h => h) (Or.inr ⟨by rfl, rfl⟩) (hS.sub (by repeat (first | exact List.Sublist.slnil | apply List.Sublist.cons_cons))) ?_
    try simp only [nR]
    refine wpAnyH_take (i := 20) (v := undef) rfl (by kernel_rfl) (by kernel_rfl) (by kernel_rfl) (fun _ _ _ h => h) (Or.inr ⟨by rfl, rfl⟩) (hS.sub (by repeat (first | exact List.Sublist.slnil | apply List.Sublist.cons_cons))) ?_
    try simp only [nR]
    refine wpAnyH_take (i := 21) (v := ?_) rfl (by kernel_rfl) (by kernel_rfl) (by kernel_rfl) (fun _ _ _ h => h) (Or.inl ⟨by rfl, ?_⟩) (hS.sub (by repeat (first | exact List.Sublist.slnil | apply List.Sublist.cons_cons))) ?_
    rotate_left 1
    · intro W hW
      clear hW
      go_simp
      all_goals with_reducible rfl
    try simp only [nR]
    refine wpAnyH_done (by kernel_rfl) ?_ _
    go_wp2_with (first
  | ((with_reducible first | refine to_load 3 rfl ?_ ); refine Wl_load1 hS (fun _ => by rfl) _ _ rfl (scT _ rfl) ?_; (repeat (first | refine Look.here (of_decide_eq_true rfl) rfl ?_)); (with_reducible show wpList _ _ _ _ _ _); simp only [nA]))
    go_returns
    exact ⟨rfl, hS.range (.head _), hS.touch⟩
  · have t0 : (d.p.cls == 1) = false := by simpa using hc
    cases ha : M.alike b d.p.mat d.p.mask
    · have e1 : M.dFound d b = d := by unfold M.dFound; rw [if_neg (fun k => by rw [ha] at k; cases k.2)]
      rw [e1]
      rw [ha] at hx
      clear e1 hc ha
      have t2 := hx
      go_wp2_with fail
      refine wp_region_held_drew (S := fun W => St B 0 35 w [⟨B, 0, true, d.c s⟩] W) (by kernel_rfl) (hS.drew.sub (by repeat (first | exact List.Sublist.slnil | apply List.Sublist.cons_cons))) ?_
      intro _
      replace hS := hS.drew
      generalize World.drew _ = wX at hS ⊢
      refine wpAnyH_take (i := 0) (v := ?_) rfl (by kernel_rfl) (by kernel_rfl) (by kernel_rfl) (fun _ _ _ h => h) (Or.inl ⟨by rfl, ?_⟩) (hS.sub (by repeat (first | exact List.Sublist.slnil | apply List.Sublist.cons_cons))) ?_
      rotate_left 1
      · intro W hW
        clear hW
        go_simp
        all_goals with_reducible rfl
      try simp only [nR]
      refine wpAnyH_take (i := 1) (v := ?_) rfl (by kernel_rfl) (by kernel_rfl) (by kernel_rfl) (fun _ _ _ h => h) (Or.inl ⟨by rfl, ?_⟩) (hS.sub (by repeat (first | exact List.Sublist.slnil | apply List.Sublist.cons_cons))) ?_
      rotate_left 1
      · intro W hW
        clear hW
        go_simp
        all_goals with_reducible rfl
      try simp only [nR]
      refine wpAnyH_take (i := 2) (v := ?_) rfl (by kernel_rfl) (by kernel_rfl) (by kernel_rfl) (fun _ _ _ h => h) (Or.inl ⟨by rfl, ?_⟩) (hS.sub (by repeat (first | exact List.Sublist.slnil | apply List.Sublist.cons_cons))) ?_
      rotate_left 1
      · intro W hW
        clear hW
        go_simp
        all_goals with_reducible rfl
      try simp only [nR]
      refine wpAnyH_take (i := 3) (v := ?_) rfl (by kernel_rfl) (by kernel_rfl) (by kernel_rfl) (fun _ _ _ h => h) (Or.inl ⟨by rfl, ?_⟩) (hS.sub (by repeat (first | exact List.Sublist.slnil | apply List.Sublist.cons_cons))) ?_
      rotate_left 1
      · intro W hW
        clear hW
        go_simp
        all_goals with_reducible rfl
      try simp only [nR]
      first
        | refine wpAnyH_take (i := 4) rfl (by kernel_rfl) (by kernel_rfl) (by kernel_rfl) (fun _ _ _ h => h) (yields_one (by rfl) _ _ rfl _ _ rfl sc3 _ (fun W hW => hW.cell0 (.head _) rfl)) (hS.sub (by repeat (first | exact List.Sublist.slnil | apply List.Sublist.cons_cons))) ?_
        
      try simp only [nR]
      refine wpAnyH_take (i := 5) (v := ?_) rfl (by kernel_rfl) (by kernel_rfl) (by kernel_rfl) (fun _ _ _ h => h) (Or.inl ⟨by rfl, ?_⟩) (hS.sub (by repeat (first | exact List.Sublist.slnil | apply List.Sublist.cons_cons))) ?_
      rotate_left 1
      · intro W hW
        have hv := t0
        clear hW
        go_simp
        all_goals with_reducible rfl
      try simp only [nR]
      refine wpAnyH_take (i := 6) (v := ?_) rfl (by kernel_rfl) (by kernel_rfl) (by kernel_rfl) (fun _ _ _ h => h) (Or.inl ⟨by rfl, ?_⟩) (hS.sub (by repeat (first | exact List.Sublist.slnil | apply List.Sublist.cons_cons))) ?_
      rotate_left 1
      · intro W hW
        clear hW
        go_simp
        all_goals with_reducible rfl
      try simp only [nR]
      refine wpAnyH_take (i := 7) (v := ?_) rfl (by kernel_rfl) (by kernel_rfl) (by kernel_rfl) (fun _ _ _ h => h) (Or.inl ⟨by rfl, ?_⟩) (hS.sub (by repeat (first | exact List.Sublist.slnil | apply List.Sublist.cons_cons))) ?_
      rotate_left 1
      · intro W hW
        clear hW
        go_simp
        all_goals with_reducible rfl
      try simp only [nR]
      refine wpAnyH_take (i := 8) (v := ?_) rfl (by kernel_rfl) (by kernel_rfl) (by kernel_rfl) (fun _ _ _ h => h) (Or.inl ⟨by rfl, ?_⟩) (hS.sub (by repeat (first | exact List.Sublist.slnil | apply List.Sublist.cons_cons))) ?_
      rotate_left 1
      · intro W hW
        clear hW
        go_simp
        all_goals with_reducible rfl
      try simp only [nR]
      refine wpAnyH_take (i := 9) (v := ?_) rfl (by kernel_rfl) (by kernel_rfl) (by kernel_rfl) (fun _ _ _ h => h) (Or.inl ⟨by rfl, ?_⟩) (hS.sub (by repeat (first | exact List.Sublist.slnil | apply List.Sublist.cons_cons))) ?_
      rotate_left 1
      · intro W hW
        clear hW
        go_simp
        all_goals with_reducible rfl
      try simp only [nR]
      refine wpAnyH_take (i := 10) (v := ?_) rfl (by kernel_rfl) (by kernel_rfl) (by kernel_rfl) (fun _ _ _ h => h) (Or.inl ⟨by rfl, ?_⟩) (hS.sub (by repeat (first | exact List.Sublist.slnil | apply List.Sublist.cons_cons))) ?_
      rotate_left 1
      · intro W hW
        clear hW
        go_simp
        all_goals with_reducible rfl
      try simp only [nR]
      refine wpAnyH_take (i := 11) (v := ?_) rfl (by kernel_rfl) (by kernel_rfl) (by kernel_rfl) (fun _ _ _ h => h) (Or.inl ⟨by rfl, ?_⟩) (hS.sub (by repeat (first | exact List.Sublist.slnil | apply List.Sublist.cons_cons))) ?_
      rotate_left 1
      · intro W hW
        clear hW
        go_simp
        all_goals with_reducible rfl
      try simp only [nR]
      first
        | refine wpAnyH_take (i := 12) rfl (by kernel_rfl) (by kernel_rfl) (by kernel_rfl) (fun _ _ _ h => h) (yields_one (by rfl) _ _ rfl _ _ rfl sc5 _ (fun W hW => hW.cell0 (.head _) rfl)) (hS.sub (by repeat (first | exact List.Sublist.slnil | apply List.Sublist.cons_cons))) ?_
        
      try simp only [nR]
      refine wpAnyH_take (i := 13) (v := ?_) rfl (by kernel_rfl) (by kernel_rfl) (by kernel_rfl) (fun _ _ _ h => h) (Or.inl ⟨by rfl, ?_⟩) (hS.sub (by repeat (first | exact List.Sublist.slnil | apply List.Sublist.cons_cons))) ?_
      rotate_left 1
      · intro W hW
        clear hW
        go_simp
        all_goals with_reducible rfl
      try simp only [nR]
      refine wpAnyH_take (i := 14) (v := ?_) rfl (by kernel_rfl) (by kernel_rfl) (by kernel_rfl) (fun _ _ _ h => h) (Or.inl ⟨by rfl, ?_⟩) (hS.sub (by repeat (first | exact List.Sublist.slnil | apply List.Sublist.cons_cons))) ?_
      rotate_left 1
      · intro W hW
        clear hW
        go_simp
        all_goals with_reducible rfl
      try simp only [nR]
      refine wpAnyH_take (i := 15) (v := ?_) rfl (by kernel_rfl) (by kernel_rfl) (by kernel_rfl) (fun _ _ _ h => h) (Or.inl ⟨by rfl, ?_⟩) (hS.sub (by repeat (first | exact List.Sublist.slnil | apply List.Sublist.cons_cons))) ?_
      rotate_left 1
      · intro W hW
        clear hW
        go_simp
        all_goals with_reducible rfl
      try simp only [nR]
      refine wpAnyH_take (i := 16) (v := ?_) rfl (by kernel_rfl) (by kernel_rfl) (by kernel_rfl) (fun _ _ _ h => h) (Or.inl ⟨by rfl, ?_⟩) (hS.sub (by repeat (first | exact List.Sublist.slnil | apply List.Sublist.cons_cons))) ?_
      rotate_left 1
      · intro W hW
        clear hW
        go_simp
        all_goals with_reducible rfl
      try simp only [nR]
      refine wpAnyH_take (i := 17) (v := ?_) rfl (by kernel_rfl) (by kernel_rfl) (by kernel_rfl) (fun _ _ _ h => h) (Or.inl ⟨by rfl, ?_⟩) (hS.sub (by repeat (first | exact List.Sublist.slnil | apply List.Sublist.cons_cons))) ?_
      rotate_left 1
      · intro W hW
        clear hW
        go_simp
        all_goals with_reducible rfl
      try simp only [nR]
      first
        | refine wpAnyH_take (i := 18) rfl (by kernel_rfl) (by kernel_rfl) (by kernel_rfl) (fun _ _ _ h => h) (yields_one (by rfl) _ _ rfl _ _ rfl sc5 _ (fun W hW => hW.cell0 (.head _) rfl)) (hS.sub (by repeat (first | exact List.Sublist.slnil | apply List.Sublist.cons_cons))) ?_
        
      try simp only [nR]
      refine wpAnyH_take (i := 19) (v := ?_) rfl (by kernel_rfl) (by kernel_rfl) (by kernel_rfl) (fun _ _ _ h => h) (Or.inl ⟨by rfl, ?_⟩) (hS.sub (by repeat (first | exact List.Sublist.slnil | apply List.Sublist.cons_cons))) ?_
      rotate_left 1
      · intro W hW
        clear hW
        go_simp
        all_goals with_reducible rfl
      try simp only [nR]
      refine wpAnyH_take (i := 20) (v := ?_) rfl (by kernel_rfl) (by kernel_rfl) (by kernel_rfl) (fun _ _ _ h => h) (Or.inl ⟨by rfl, ?_⟩) (hS.sub (by repeat (first | exact List.Sublist.slnil | apply List.Sublist.cons_cons))) ?_
      rotate_left 1
      · intro W hW
        have hv := t2
        clear hW
        go_simp
        all_goals with_reducible rfl
      try simp only [nR]
      refine wpAnyH_take (i := 21) (v := ?_) rfl (by kernel_rfl) (by kernel_rfl) (by kernel_rfl) (fun _ _ _ h => h) (Or.inl ⟨by rfl, ?_⟩) (hS.sub (by repeat (first | exact List.Sublist.slnil | apply List.Sublist.cons_cons))) ?_
      rotate_left 1
      · intro W hW
        clear hW
        go_simp
        all_goals with_reducible rfl
      try simp only [nR]
      refine wpAnyH_done (by kernel_rfl) ?_ _
      go_wp2_with (first
  | ((with_reducible first | refine to_load 3 rfl ?_ ); refine Wl_load1 hS (fun _ => by rfl) _ _ rfl (scT _ rfl) ?_; (repeat (first | refine Look.here (of_decide_eq_true rfl) rfl ?_)); (with_reducible show wpList _ _ _ _ _ _); simp only [nA]))
      go_returns
      exact ⟨rfl, hS.range (.head _), hS.touch⟩
    · obtain ⟨y, hy⟩ : ∃ y, y = (d.done || d.p.stop) := ⟨_, rfl⟩
      have e1 : M.dFound d b = M.dSignal { d with matched := true, done := y } 0 := by subst hy; unfold M.dFound; rw [if_pos ⟨hc, ha⟩]
      have hd1 : ({ d with matched := true, done := y } : M.Dm).ok := ⟨hd.p, hd.a, hd.b, hd.left, hd.hold, hd.ask⟩
      rw [e1]
      rw [ha] at hx
      clear e1 hc ha
      have t2 := hx
      go_wp2_with fail
      refine wp_region_held_drew (S := fun W => St B 0 35 w [⟨B, 0, true, d.c s⟩] W) (by kernel_rfl) (hS.drew.sub (by repeat (first | exact List.Sublist.slnil | apply List.Sublist.cons_cons))) ?_
      intro _
      replace hS := hS.drew
      generalize World.drew _ = wX at hS ⊢
      refine wpAnyH_take (i := 0) (v := ?_) rfl (by kernel_rfl) (by kernel_rfl) (by kernel_rfl) (fun _ _ _ h => h) (Or.inl ⟨by rfl, ?_⟩) (hS.sub (by repeat (first | exact List.Sublist.slnil | apply List.Sublist.cons_cons))) ?_
      rotate_left 1
      · intro W hW
        clear hW
        go_simp
        all_goals with_reducible rfl
      try simp only [nR]
      refine wpAnyH_take (i := 1) (v := ?_) rfl (by kernel_rfl) (by kernel_rfl) (by kernel_rfl) (fun _ _ _ h => h) (Or.inl ⟨by rfl, ?_⟩) (hS.sub (by repeat (first | exact List.Sublist.slnil | apply List.Sublist.cons_cons))) ?_
      rotate_left 1
      · intro W hW
        clear hW
        go_simp
        all_goals with_reducible rfl
      try simp only [nR]
      refine wpAnyH_take (i := 2) (v := ?_) rfl (by kernel_rfl) (by kernel_rfl) (by kernel_rfl) (fun _ _ _ h => h) (Or.inl ⟨by rfl, ?_⟩) (hS.sub (by repeat (first | exact List.Sublist.slnil | apply List.Sublist.cons_cons))) ?_
      rotate_left 1
      · intro W hW
        clear hW
        go_simp
        all_goals with_reducible rfl
      try simp only [nR]
      refine wpAnyH_take (i := 3) (v := ?_) rfl (by kernel_rfl) (by kernel_rfl) (by kernel_rfl) (fun _ _ _ h => h) (Or.inl ⟨by rfl, ?_⟩) (hS.sub (by repeat (first | exact List.Sublist.slnil | apply List.Sublist.cons_cons))) ?_
      rotate_left 1
      · intro W hW
        clear hW
        go_simp
        all_goals with_reducible rfl
      try simp only [nR]
      first
        | refine wpAnyH_take (i := 4) rfl (by kernel_rfl) (by kernel_rfl) (by kernel_rfl) (fun _ _ _ h => h) (yields_one (by rfl) _ _ rfl _ _ rfl sc3 _ (fun W hW => hW.cell0 (.head _) rfl)) (hS.sub (by repeat (first | exact List.Sublist.slnil | apply List.Sublist.cons_cons))) ?_
        
      try simp only [nR]
      refine wpAnyH_take (i := 5) (v := ?_) rfl (by kernel_rfl) (by kernel_rfl) (by kernel_rfl) (fun _ _ _ h => h) (Or.inl ⟨by rfl, ?_⟩) (hS.sub (by repeat (first | exact List.Sublist.slnil | apply List.Sublist.cons_cons))) ?_
      rotate_left 1
      · intro W hW
        have hv := t0
        clear hW
        go_simp
        all_goals with_reducible rfl
      try simp only [nR]
      refine wpAnyH_take (i := 6) (v := ?_) rfl (by kernel_rfl) (by kernel_rfl) (by kernel_rfl) (fun _ _ _ h => h) (Or.inl ⟨by rfl, ?_⟩) (hS.sub (by repeat (first | exact List.Sublist.slnil | apply List.Sublist.cons_cons))) ?_
      rotate_left 1
      · intro W hW
        clear hW
        go_simp
        all_goals with_reducible rfl
      try simp only [nR]
      refine wpAnyH_take (i := 7) (v := ?_) rfl (by kernel_rfl) (by kernel_rfl) (by kernel_rfl) (fun _ _ _ h => h) (Or.inl ⟨by rfl, ?_⟩) (hS.sub (by repeat (first | exact List.Sublist.slnil | apply List.Sublist.cons_cons))) ?_
      rotate_left 1
      · intro W hW
        clear hW
        go_simp
        all_goals with_reducible rfl
      try simp only [nR]
      refine wpAnyH_take (i := 8) (v := ?_) rfl (by kernel_rfl) (by kernel_rfl) (by kernel_rfl) (fun _ _ _ h => h) (Or.inl ⟨by rfl, ?_⟩) (hS.sub (by repeat (first | exact List.Sublist.slnil | apply List.Sublist.cons_cons))) ?_
      rotate_left 1
      · intro W hW
        clear hW
        go_simp
        all_goals with_reducible rfl
      try simp only [nR]
      refine wpAnyH_take (i := 9) (v := ?_) rfl (by kernel_rfl) (by kernel_rfl) (by kernel_rfl) (fun _ _ _ h => h) (Or.inl ⟨by rfl, ?_⟩) (hS.sub (by repeat (first | exact List.Sublist.slnil | apply List.Sublist.cons_cons))) ?_
      rotate_left 1
      · intro W hW
        clear hW
        go_simp
        all_goals with_reducible rfl
      try simp only [nR]
      refine wpAnyH_take (i := 10) (v := ?_) rfl (by kernel_rfl) (by kernel_rfl) (by kernel_rfl) (fun _ _ _ h => h) (Or.inl ⟨by rfl, ?_⟩) (hS.sub (by repeat (first | exact List.Sublist.slnil | apply List.Sublist.cons_cons))) ?_
      rotate_left 1
      · intro W hW
        clear hW
        go_simp
        all_goals with_reducible rfl
      try simp only [nR]
      refine wpAnyH_take (i := 11) (v := ?_) rfl (by kernel_rfl) (by kernel_rfl) (by kernel_rfl) (fun _ _ _ h => h) (Or.inl ⟨by rfl, ?_⟩) (hS.sub (by repeat (first | exact List.Sublist.slnil | apply List.Sublist.cons_cons))) ?_
      rotate_left 1
      · intro W hW
        clear hW
        go_simp
        all_goals with_reducible rfl
      try simp only [nR]
      first
        | refine wpAnyH_take (i := 12) rfl (by kernel_rfl) (by kernel_rfl) (by kernel_rfl) (fun _ _ _ h => h) (yields_one (by rfl) _ _ rfl _ _ rfl sc5 _ (fun W hW => hW.cell0 (.head _) rfl)) (hS.sub (by repeat (first | exact List.Sublist.slnil | apply List.Sublist.cons_cons))) ?_
        
      try simp only [nR]
      refine wpAnyH_take (i := 13) (v := ?_) rfl (by kernel_rfl) (by kernel_rfl) (by kernel_rfl) (fun _ _ _ h => h) (Or.inl ⟨by rfl, ?_⟩) (hS.sub (by repeat (first | exact List.Sublist.slnil | apply List.Sublist.cons_cons))) ?_
      rotate_left 1
      · intro W hW
        clear hW
        go_simp
        all_goals with_reducible rfl
      try simp only [nR]
      refine wpAnyH_take (i := 14) (v := ?_) rfl (by kernel_rfl) (by kernel_rfl) (by kernel_rfl) (fun _ _ _ h => h) (Or.inl ⟨by rfl, ?_⟩) (hS.sub (by repeat (first | exact List.Sublist.slnil | apply List.Sublist.cons_cons))) ?_
      rotate_left 1
      · intro W hW
        clear hW
        go_simp
        all_goals with_reducible rfl
      try simp only [nR]
      refine wpAnyH_take (i := 15) (v := ?_) rfl (by kernel_rfl) (by kernel_rfl) (by kernel_rfl) (fun _ _ _ h => h) (Or.inl ⟨by rfl, ?_⟩) (hS.sub (by repeat (first | exact List.Sublist.slnil | apply List.Sublist.cons_cons))) ?_
      rotate_left 1
      · intro W hW
        clear hW
        go_simp
        all_goals with_reducible rfl
      try simp only [nR]
      refine wpAnyH_take (i := 16) (v := ?_) rfl (by kernel_rfl) (by kernel_rfl) (by kernel_rfl) (fun _ _ _ h => h) (Or.inl ⟨by rfl, ?_⟩) (hS.sub (by repeat (first | exact List.Sublist.slnil | apply List.Sublist.cons_cons))) ?_
      rotate_left 1
      · intro W hW
        clear hW
        go_simp
        all_goals with_reducible rfl
      try simp only [nR]
      refine wpAnyH_take (i := 17) (v := ?_) rfl (by kernel_rfl) (by kernel_rfl) (by kernel_rfl) (fun _ _ _ h => h) (Or.inl ⟨by rfl, ?_⟩) (hS.sub (by repeat (first | exact List.Sublist.slnil | apply List.Sublist.cons_cons))) ?_
      rotate_left 1
      · intro W hW
        clear hW
        go_simp
        all_goals with_reducible rfl
      try simp only [nR]
      first
        | refine wpAnyH_take (i := 18) rfl (by kernel_rfl) (by kernel_rfl) (by kernel_rfl) (fun _ _ _ h => h) (yields_one (by rfl) _ _ rfl _ _ rfl sc5 _ (fun W hW => hW.cell0 (.head _) rfl)) (hS.sub (by repeat (first | exact List.Sublist.slnil | apply List.Sublist.cons_cons))) ?_
        
      try simp only [nR]
      refine wpAnyH_take (i := 19) (v := ?_) rfl (by kernel_rfl) (by kernel_rfl) (by kernel_rfl) (fun _ _ _ h => h) (Or.inl ⟨by rfl, ?_⟩) (hS.sub (by repeat (first | exact List.Sublist.slnil | apply List.Sublist.cons_cons))) ?_
      rotate_left 1
      · intro W hW
        clear hW
        go_simp
        all_goals with_reducible rfl
      try simp only [nR]
      refine wpAnyH_take (i := 20) (v := ?_) rfl (by kernel_rfl) (by kernel_rfl) (by kernel_rfl) (fun _ _ _ h => h) (Or.inl ⟨by rfl, ?_⟩) (hS.sub (by repeat (first | exact List.Sublist.slnil | apply List.Sublist.cons_cons))) ?_
      rotate_left 1
      · intro W hW
        have hv := t2
        clear hW
        go_simp
        all_goals with_reducible rfl
      try simp only [nR]
      refine wpAnyH_take (i := 21) (v := ?_) rfl (by kernel_rfl) (by kernel_rfl) (by kernel_rfl) (fun _ _ _ h => h) (Or.inl ⟨by rfl, ?_⟩) (hS.sub (by repeat (first | exact List.Sublist.slnil | apply List.Sublist.cons_cons))) ?_
      rotate_left 1
      · intro W hW
        clear hW
        go_simp
        all_goals with_reducible rfl
      try simp only [nR]
      refine wpAnyH_done (by kernel_rfl) ?_ _
      cases hn : d.done
      · rw [hn, Bool.false_or] at hy
        subst hy
        go_wp2_with (first
  | ((with_reducible first | refine to_load 4 rfl ?_ ); refine Wl_load1 hS (fun _ => by rfl) _ _ rfl (scT _ rfl) ?_; (repeat (first | refine Look.here (of_decide_eq_true rfl) rfl ?_)); (with_reducible show wpList _ _ _ _ _ _); simp only [nA])
  | ((with_reducible first | refine to_store 4 rfl ?_ ); (first | refine Wl_store1 hS (fun _ => by rfl) _ _ (.bool _) rfl rfl (scT _ rfl) rfl rfl ?_); (repeat (first | refine Turn1.here (of_decide_eq_true rfl) (of_decide_eq_true rfl) ?_)); clear hS; intro wW hS; (try simp only [nA]); try simp only [Nat.sub_zero, Nat.add_zero, Nat.zero_add, Nat.reduceSub, Nat.add_sub_cancel_left, dm_ss] at hS))
        refine (dsignal_any B _ hd1 _ _ (hS.dmAt (.head _)) 0).mono ?_
        rintro e w1 ⟨rfl, hr, ht⟩
        replace hS := hS.callT (.head _ _ _ _ _) hr ht rfl
        clear hr ht
        go_wp2_with (first
  | ((with_reducible first | refine to_load 3 rfl ?_ ); refine Wl_load1 hS (fun _ => by rfl) _ _ rfl (scT _ rfl) ?_; (repeat (first | refine Look.here (of_decide_eq_true rfl) rfl ?_)); (with_reducible show wpList _ _ _ _ _ _); simp only [nA]))
        go_returns
        exact ⟨rfl, hS.range (.head _), hS.touch⟩
      · rw [hn, Bool.true_or] at hy
        subst hy
        go_wp2_with (first
  | ((with_reducible first | refine to_load 4 rfl ?_ ); refine Wl_load1 hS (fun _ => by rfl) _ _ rfl (scT _ rfl) ?_; (repeat (first | refine Look.here (of_decide_eq_true rfl) rfl ?_)); (with_reducible show wpList _ _ _ _ _ _); simp only [nA])
  | ((with_reducible first | refine to_store 4 rfl ?_ ); (first | refine Wl_store1 hS (fun _ => by rfl) _ _ (.bool _) rfl rfl (scT _ rfl) rfl rfl ?_); (repeat (first | refine Turn1.here (of_decide_eq_true rfl) (of_decide_eq_true rfl) ?_)); clear hS; intro wW hS; (try simp only [nA]); try simp only [Nat.sub_zero, Nat.add_zero, Nat.zero_add, Nat.reduceSub, Nat.add_sub_cancel_left, dm_ss] at hS))
        refine (dsignal_any B _ hd1 _ _ (hS.dmAt (.head _)) 0).mono ?_
        rintro e w1 ⟨rfl, hr, ht⟩
        replace hS := hS.callT (.head _ _ _ _ _) hr ht rfl
        clear hr ht
        go_wp2_with (first
  | ((with_reducible first | refine to_load 3 rfl ?_ ); refine Wl_load1 hS (fun _ => by rfl) _ _ rfl (scT _ rfl) ?_; (repeat (first | refine Look.here (of_decide_eq_true rfl) rfl ?_)); (with_reducible show wpList _ _ _ _ _ _); simp only [nA]))
        go_returns
        exact ⟨rfl, hS.range (.head _), hS.touch⟩
end Go.Proofs.Ytkkkjdbcckaedaa
