/- The closure of the program's take (dmareg) for the byte of control, by its contract. -/
import Derived.Test.YtkkkjdbcckaedaaRgClo
import Derived.Great.BuildSlice
namespace Go.Proofs.Ytkkkjdbcckaedaa
open Go.RowKit
set_option linter.unusedVariables false
set_option linter.unusedSimpArgs false
set_option maxRecDepth 100000
theorem infoSl : (Try.prog.info? 25).map (fun i => (i.zero, i.size, i.bytes)) = some (some (.slice none 0 0), 1, 24) := by kernel_rfl
set_option maxHeartbeats 8000000 in
theorem control_any (B P Q : Nat) (r : M.Rg) (A : Option Addr) (c : Nat) (rest : List Int) (hL : rest.length ≤ 9000) (b : Int) (h0 : 0 ≤ b) (h1 : b ≤ 255) (w : World) (h : RgAt B r (.slice A rest.length c) w) (hP : w.cell? ⟨P, 0, none⟩ = some (.pointer (some ⟨B, 0, none⟩))) (hQ : w.cell? ⟨Q, 0, none⟩ = some (.int .u8 b)) (hPB : B ≠ P) (hQB : B ≠ Q)
    (hl : Ls 0 w (.slice A rest.length c) (ints .i64 rest)) (hd : ∀ e, e ∈ entL (.slice A rest.length c) (ints .i64 rest) → B ≠ e.b) :
    Calls Try.prog 90 #[.pointer (some ⟨Q, 0, none⟩), .pointer (some ⟨P, 0, none⟩)] w (RgOut B { r with want := M.rWants b 12 3 2 ++ rest, ctl := b } (.tuple #[]) w) := by
  obtain ⟨i1, hi1, hy0, hy1, hy2⟩ := info_get infoSl
  have hS := (clo_st h hP hQ hPB hQB).plus (fun e he => (hl.ent e he).2) (fun e he y hy hf => .inl (by
    simp only [List.mem_cons, List.not_mem_nil, or_false] at hy
    rcases hy with rfl | rfl | rfl
    · exact hd e he
    · cases hf
    · cases hf))
  simp only [List.cons_append, List.nil_append] at hS
  have hsh := hl.shp
  clear h hP hQ hPB hQB hl hd
  go_enter Try.func90, Try.ntmps90
  go_wp2_with (first
  | ((with_reducible first | refine to_load 104 rfl ?_); refine Wl_load1 hS (fun _ => by rfl) _ _ rfl scP ?_; (repeat (first | refine Look.here (of_decide_eq_true rfl) rfl ?_ | refine Look.next ?_)); (with_reducible show wpList _ _ _ _ _ _); simp only [nA])
  | ((with_reducible first | refine to_load 5 rfl ?_ ); refine Wl_load1 hS (fun _ => by rfl) _ _ rfl (scT _ rfl) ?_; (repeat (first | refine Look.here (of_decide_eq_true rfl) rfl ?_ | refine Look.next ?_)); (with_reducible show wpList _ _ _ _ _ _); simp only [nA])
  | ((with_reducible first | refine to_store 5 rfl ?_ ); (first | refine Wl_store1 hS (fun _ => by rfl) _ _ (.int _ _) rfl rfl (scT _ rfl) rfl rfl ?_ ); (repeat (first | refine Turn1.here (of_decide_eq_true rfl) (of_decide_eq_true rfl) ?_)); clear hS; intro wW hS; (try simp only [nA]); try simp only [Nat.sub_zero, Nat.add_zero, Nat.zero_add, Nat.reduceSub, Nat.add_sub_cancel_left, rg_ss] at hS))
  refine wp_region_held_drew (S := fun W => St B 0 24 w [⟨P, 0, false, #[.pointer (some ⟨B, 0, none⟩)]⟩, ⟨Q, 0, false, #[.int .u8 b]⟩] W) (by kernel_rfl) (hS.drew.sub (by repeat (first | exact List.nil_sublist _ | apply List.Sublist.cons_cons | apply List.Sublist.cons))) ?_
  intro _
  replace hS := hS.drew
  generalize World.drew _ = wX at hS ⊢
  first
    | refine wpAnyH_take (i := 0) rfl (by kernel_rfl) (by kernel_rfl) (by kernel_rfl) (fun _ _ _ h => h) (yields_one (by rfl) _ _ rfl _ _ rfl scP _ (fun W hW => hW.cell0 (.head _) rfl)) (hS.sub (by repeat (first | exact List.nil_sublist _ | apply List.Sublist.cons_cons | apply List.Sublist.cons))) ?_
    
  try simp only [nR]
  first
    | refine wpAnyH_take (i := 1) rfl (by kernel_rfl) (by kernel_rfl) (by kernel_rfl) (fun _ _ _ h => h) (yields_one (by rfl) _ _ rfl _ _ rfl sc5 _ (fun W hW => hW.cell0 (.tail _ (.head _)) rfl)) (hS.sub (by repeat (first | exact List.nil_sublist _ | apply List.Sublist.cons_cons | apply List.Sublist.cons))) ?_
    
  try simp only [nR]
  first
    | refine wpAnyH_take (i := 3) rfl (by kernel_rfl) (by kernel_rfl) (by kernel_rfl) (fun _ _ _ h => h) (yields_one (by rfl) _ _ rfl _ _ rfl scP _ (fun W hW => hW.cell0 (.head _) rfl)) (hS.sub (by repeat (first | exact List.nil_sublist _ | apply List.Sublist.cons_cons | apply List.Sublist.cons))) ?_
    
  try simp only [nR]
  refine wpAnyH_take (i := 4) (v := ?_) rfl (by kernel_rfl) (by kernel_rfl) (by kernel_rfl) (fun _ _ _ h => h) (Or.inl ⟨by rfl, ?_⟩) (hS.sub (by repeat (first | exact List.nil_sublist _ | apply List.Sublist.cons_cons | apply List.Sublist.cons))) ?_
  rotate_left 1
  · intro W hW
    clear hW
    go_simp
    all_goals with_reducible rfl
  try simp only [nR]
  refine wpAnyH_take (i := 5) (v := ?_) rfl (by kernel_rfl) (by kernel_rfl) (by kernel_rfl) (fun _ _ _ h => h) (Or.inl ⟨by rfl, ?_⟩) (hS.sub (by repeat (first | exact List.nil_sublist _ | apply List.Sublist.cons_cons | apply List.Sublist.cons))) ?_
  rotate_left 1
  · intro W hW
    clear hW
    go_simp
    all_goals with_reducible rfl
  try simp only [nR]
  refine wpAnyH_ready (rs := [2, 6]) (by kernel_rfl) (by simp) (AllReadyH.cons rfl ?_ (AllReadyH.cons rfl ?_ AllReadyH.nil))
  · intro K1 hK1
    rw [if_pos (by rfl)]
    try simp only [nR]
    go_simp
    refine (wants_any b 12 3 2 h0 h1 (by decide) (by decide) (by decide) (by decide) _).mono ?_
    rintro e1 v2 ⟨A1, c1, rfl, hl, hb⟩
    replace hS := hS.callN hb hl
    simp only [List.cons_append, List.nil_append] at hS
    have hshA1 := hl.shp
    clear hb hl
    refine hK1.out _ _ (hS.sub (by repeat (first | exact List.nil_sublist _ | apply List.Sublist.cons_cons | apply List.Sublist.cons))) (fun _ => ?_)
    clear hK1
    try simp only [nR]
    refine wpAnyH_ready (rs := [6]) (by kernel_rfl) (by simp) (AllReadyH.cons rfl ?_ AllReadyH.nil)
    intro K1 hK1
    rw [if_pos (by rfl)]
    try simp only [nR]
    refine wp_load1_sc hS _ _ rfl _ _ rfl scS ?_
    repeat (first | refine Look.here (of_decide_eq_true rfl) rfl ?_)
    refine hK1.out _ _ (hS.sub (by repeat (first | exact List.nil_sublist _ | apply List.Sublist.cons_cons | apply List.Sublist.cons))) (fun _ => ?_)
    clear hK1
    try simp only [nR]
    refine wpAnyH_ready (rs := [7]) (by kernel_rfl) (by simp) (AllReadyH.cons rfl ?_ AllReadyH.nil)
    intro K1 hK1
    rw [if_pos (by rfl)]
    try simp only [nR]
    go_simp
    replace hS := hS.new #[.slice A1 (M.rWants b 12 3 2).length c1, .slice A rest.length c] 25
    generalize v2.alloc (.cells #[.slice A1 (M.rWants b 12 3 2).length c1, .slice A rest.length c] 25) = W2 at hS ⊢
    generalize v2.heap.size = d at hS ⊢
    refine hK1.out _ _ (hS.sub (by repeat (first | exact List.nil_sublist _ | apply List.Sublist.cons_cons | apply List.Sublist.cons))) (fun _ => ?_)
    clear hK1
    try simp only [nR]
    refine wpAnyH_ready (rs := [8]) (by kernel_rfl) (by simp) (AllReadyH.cons rfl ?_ AllReadyH.nil)
    intro K1 hK1
    rw [if_pos (by rfl)]
    try simp only [nR]
    go_simp
    refine (concat_any A1 c1 _ A c rest (by have := M.rWants_len b 12 3 2; omega) (by omega) d _ (hS.cell0 (.head _) rfl) (hS.cell0 (.head _) rfl) (hS.ls hshA1 (fun e he => by repeat (first | exact List.mem_append_right _ he | refine List.Mem.tail _ ?_))) (hS.ls hsh (fun e he => by repeat (first | exact List.mem_append_left _ he | refine List.Mem.tail _ ?_)))).mono ?_
    rintro e1 v3 ⟨v, E, rfl, hO, hE⟩
    obtain ⟨A3, c3, rfl⟩ := hO.len
    rw [ints_length] at hO ⊢
    have hl3 := hO.res (es := []) hE
    have hf3 := fun e he => Nat.le_trans hS.size (hl3.ent e he).1
    have hsh3 := hl3.shp
    replace hS := hS.callN hE.below hl3
    simp only [List.cons_append, List.nil_append] at hS
    clear hO hE hl3
    refine hK1.out _ _ (hS.sub (by repeat (first | exact List.nil_sublist _ | apply List.Sublist.cons_cons | apply List.Sublist.cons))) (fun _ => ?_)
    clear hK1
    try simp only [nR]
    refine wpAnyH_take (i := 9) (v := ?_) rfl (by kernel_rfl) (by kernel_rfl) (by kernel_rfl) (fun _ _ _ h => h) (Or.inl ⟨by rfl, ?_⟩) (hS.sub (by repeat (first | exact List.nil_sublist _ | apply List.Sublist.cons_cons | apply List.Sublist.cons))) ?_
    rotate_left 1
    · intro W hW
      clear hW
      go_simp
      all_goals with_reducible rfl
    try simp only [nR]
    refine wpAnyH_take (i := 10) (v := ?_) rfl (by kernel_rfl) (by kernel_rfl) (by kernel_rfl) (fun _ _ _ h => h) (Or.inl ⟨by rfl, ?_⟩) (hS.sub (by repeat (first | exact List.nil_sublist _ | apply List.Sublist.cons_cons | apply List.Sublist.cons))) ?_
    rotate_left 1
    · intro W hW
      clear hW
      go_simp
      all_goals with_reducible rfl
    try simp only [nR]
    refine wpAnyH_ready (rs := [11]) (by kernel_rfl) (by simp) (AllReadyH.cons rfl ?_ AllReadyH.nil)
    intro K1 hK1
    rw [if_pos (by rfl)]
    try simp only [nR]
    refine wp_store1_sc hS _ _ _ rfl _ _ (.slice _ _ _) rfl rfl scS rfl rfl ?_
    repeat (first | refine Turn1.here (of_decide_eq_true rfl) (of_decide_eq_true rfl) ?_ | refine Turn1.next ?_)
    clear hS
    intro wW hS
    try simp only [Nat.sub_zero, Nat.add_zero, Nat.zero_add, Nat.reduceSub, Nat.add_sub_cancel_left, rg_ss] at hS
    refine hK1.out _ _ (hS.sub (by repeat (first | exact List.nil_sublist _ | apply List.Sublist.cons_cons | apply List.Sublist.cons))) (fun _ => ?_)
    clear hK1
    try simp only [nR]
    refine wpAnyH_done (by kernel_rfl) ?_ _
    go_wp2_with fail
    go_returns
    exact ⟨A3, c3, rfl, hS.range (.tail _ (.head _)), hS.lsF hsh3 hf3 (fun e he => by repeat (first | exact List.mem_append_right _ he | refine List.Mem.tail _ ?_)), hS.touch⟩
  · intro K1 hK1
    rw [if_pos (by rfl)]
    try simp only [nR]
    refine wp_load1_sc hS _ _ rfl _ _ rfl scS ?_
    repeat (first | refine Look.here (of_decide_eq_true rfl) rfl ?_)
    refine hK1.out _ _ (hS.sub (by repeat (first | exact List.nil_sublist _ | apply List.Sublist.cons_cons | apply List.Sublist.cons))) (fun _ => ?_)
    clear hK1
    try simp only [nR]
    refine wpAnyH_ready (rs := [2]) (by kernel_rfl) (by simp) (AllReadyH.cons rfl ?_ AllReadyH.nil)
    intro K1 hK1
    rw [if_pos (by rfl)]
    try simp only [nR]
    go_simp
    refine (wants_any b 12 3 2 h0 h1 (by decide) (by decide) (by decide) (by decide) _).mono ?_
    rintro e1 v2 ⟨A1, c1, rfl, hl, hb⟩
    replace hS := hS.callN hb hl
    simp only [List.cons_append, List.nil_append] at hS
    have hshA1 := hl.shp
    clear hb hl
    refine hK1.out _ _ (hS.sub (by repeat (first | exact List.nil_sublist _ | apply List.Sublist.cons_cons | apply List.Sublist.cons))) (fun _ => ?_)
    clear hK1
    try simp only [nR]
    refine wpAnyH_ready (rs := [7]) (by kernel_rfl) (by simp) (AllReadyH.cons rfl ?_ AllReadyH.nil)
    intro K1 hK1
    rw [if_pos (by rfl)]
    try simp only [nR]
    go_simp
    replace hS := hS.new #[.slice A1 (M.rWants b 12 3 2).length c1, .slice A rest.length c] 25
    generalize v2.alloc (.cells #[.slice A1 (M.rWants b 12 3 2).length c1, .slice A rest.length c] 25) = W2 at hS ⊢
    generalize v2.heap.size = d at hS ⊢
    refine hK1.out _ _ (hS.sub (by repeat (first | exact List.nil_sublist _ | apply List.Sublist.cons_cons | apply List.Sublist.cons))) (fun _ => ?_)
    clear hK1
    try simp only [nR]
    refine wpAnyH_ready (rs := [8]) (by kernel_rfl) (by simp) (AllReadyH.cons rfl ?_ AllReadyH.nil)
    intro K1 hK1
    rw [if_pos (by rfl)]
    try simp only [nR]
    go_simp
    refine (concat_any A1 c1 _ A c rest (by have := M.rWants_len b 12 3 2; omega) (by omega) d _ (hS.cell0 (.head _) rfl) (hS.cell0 (.head _) rfl) (hS.ls hshA1 (fun e he => by repeat (first | exact List.mem_append_right _ he | refine List.Mem.tail _ ?_))) (hS.ls hsh (fun e he => by repeat (first | exact List.mem_append_left _ he | refine List.Mem.tail _ ?_)))).mono ?_
    rintro e1 v3 ⟨v, E, rfl, hO, hE⟩
    obtain ⟨A3, c3, rfl⟩ := hO.len
    rw [ints_length] at hO ⊢
    have hl3 := hO.res (es := []) hE
    have hf3 := fun e he => Nat.le_trans hS.size (hl3.ent e he).1
    have hsh3 := hl3.shp
    replace hS := hS.callN hE.below hl3
    simp only [List.cons_append, List.nil_append] at hS
    clear hO hE hl3
    refine hK1.out _ _ (hS.sub (by repeat (first | exact List.nil_sublist _ | apply List.Sublist.cons_cons | apply List.Sublist.cons))) (fun _ => ?_)
    clear hK1
    try simp only [nR]
    refine wpAnyH_take (i := 9) (v := ?_) rfl (by kernel_rfl) (by kernel_rfl) (by kernel_rfl) (fun _ _ _ h => h) (Or.inl ⟨by rfl, ?_⟩) (hS.sub (by repeat (first | exact List.nil_sublist _ | apply List.Sublist.cons_cons | apply List.Sublist.cons))) ?_
    rotate_left 1
    · intro W hW
      clear hW
      go_simp
      all_goals with_reducible rfl
    try simp only [nR]
    refine wpAnyH_take (i := 10) (v := ?_) rfl (by kernel_rfl) (by kernel_rfl) (by kernel_rfl) (fun _ _ _ h => h) (Or.inl ⟨by rfl, ?_⟩) (hS.sub (by repeat (first | exact List.nil_sublist _ | apply List.Sublist.cons_cons | apply List.Sublist.cons))) ?_
    rotate_left 1
    · intro W hW
      clear hW
      go_simp
      all_goals with_reducible rfl
    try simp only [nR]
    refine wpAnyH_ready (rs := [11]) (by kernel_rfl) (by simp) (AllReadyH.cons rfl ?_ AllReadyH.nil)
    intro K1 hK1
    rw [if_pos (by rfl)]
    try simp only [nR]
    refine wp_store1_sc hS _ _ _ rfl _ _ (.slice _ _ _) rfl rfl scS rfl rfl ?_
    repeat (first | refine Turn1.here (of_decide_eq_true rfl) (of_decide_eq_true rfl) ?_ | refine Turn1.next ?_)
    clear hS
    intro wW hS
    try simp only [Nat.sub_zero, Nat.add_zero, Nat.zero_add, Nat.reduceSub, Nat.add_sub_cancel_left, rg_ss] at hS
    refine hK1.out _ _ (hS.sub (by repeat (first | exact List.nil_sublist _ | apply List.Sublist.cons_cons | apply List.Sublist.cons))) (fun _ => ?_)
    clear hK1
    try simp only [nR]
    refine wpAnyH_done (by kernel_rfl) ?_ _
    go_wp2_with fail
    go_returns
    exact ⟨A3, c3, rfl, hS.range (.tail _ (.head _)), hS.lsF hsh3 hf3 (fun e he => by repeat (first | exact List.mem_append_right _ he | refine List.Mem.tail _ ?_)), hS.touch⟩
end Go.Proofs.Ytkkkjdbcckaedaa
