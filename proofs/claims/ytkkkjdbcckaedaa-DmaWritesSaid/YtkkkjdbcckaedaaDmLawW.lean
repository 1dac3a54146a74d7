/- charabanclaw22.DmaWrites is true at whatever DMA, and whatever byte. -/
import Derived.Test.YtkkkjdbcckaedaaDmAwake
import Derived.Test.YtkkkjdbcckaedaaRmB
import Derived.Test.YtkkkjdbcckaedaaRmC
import Derived.Test.YtkkkjdbcckaedaaRmSame
namespace Go.Proofs.Ytkkkjdbcckaedaa
open Go.RowKit
set_option linter.unusedVariables false
set_option linter.unusedSimpArgs false
set_option maxRecDepth 100000
set_option maxHeartbeats 16000000 in
theorem dmwrites_true (d : M.Dm) (hd : d.ok) (A : Option Addr) (c : Nat) (b : Int) (h0 : 0 ≤ b) (h1 : b ≤ 255) (w : World) (r1 : Ls 0 w (.slice A d.p.want.length c) (ints .i64 d.p.want)) :
    Calls Try.prog 5 #[.agg (d.c (.slice A d.p.want.length c)), .int .u8 b] w fun e w' => e = .returned (.bool true) ∧ Below w.heap.size w w' := by
  have hsh := r1.shp
  have hS := (St.start w.heap.size 0 0 w).came r1
  simp only [List.nil_append] at hS
  by_cases g1 : 20 < d.p.want.length
  · clear r1
    go_enter Try.func5, Try.ntmps5
    go_wp2_with (first
  | ((with_reducible refine to_boxT 29 rfl ?_); refine Wl_box hS (fun _ => by rfl) _ rfl ?_; clear hS; intro b2 wW hS; simp only [nA])
  )
    refine (dmawake_any _).mono ?_
    rintro e w1 ⟨rfl, hb⟩
    replace hS := hS.call hb
    clear hb
    go_wp2_with (first
  | ((with_reducible first | refine to_load 25 rfl ?_); refine Wl_load1 hS (fun _ => by rfl) _ _ rfl (scT _ rfl) ?_; (repeat (first | refine Look.here (of_decide_eq_true rfl) rfl ?_)); (with_reducible show wpList _ _ _ _ _ _); simp only [nA])
  )
    go_returns
    exact ⟨rfl, hS.below⟩
  · have hw := fun W hW => dmwrite_any d hd (by omega) A c b h0 h1 W hW
    have hv := fun W hW => rmwrite_any d hd (by omega) A c b h0 h1 W hW
    have hr := fun W => dread_any d hd A d.p.want.length c W
    have hq := fun W => rmread_any d hd A d.p.want.length c W
    have hRl := M.dWrite_len d b
    have hml : (M.dWrite d b).p.want.length ≤ maxLen := by simp only [maxLen]; omega
    have hml2 : d.p.want.length ≤ maxLen := by simp only [maxLen]; omega
    have hs := fun A1 c1 A2 c2 W g1 g2 => dsame_any (M.dWrite d b) A1 c1 A2 c2 hml W g1 g2
    have hs2 : ∀ W, Ls 0 W (.slice A d.p.want.length c) (ints .i64 d.p.want) → Calls Try.prog 18 #[.agg ((M.dReadP d).c (.slice A d.p.want.length c)), .agg ((M.dReadP d).c (.slice A d.p.want.length c))] W fun e w' => e = .returned (.bool true) ∧ Below W.heap.size W w' := fun W g => dsame_any (M.dReadP d) A c A c hml2 W g g
    generalize M.dWrite d b = R at hw hv hs
    generalize M.dReadP d = Y at hr hq hs2
    generalize M.dReadV d = V at hr hq
    have hst := fun W => dstatus_any d A d.p.want.length c W
    have hrt := fun W => rmstatus_any d A d.p.want.length c W
    generalize M.dStatus d = T at hst hrt
    have HW := Lib.hid hw
    have HV := Lib.hid hv
    have HR := Lib.hid hr
    have HQ := Lib.hid hq
    have HS := Lib.hid hs
    have HS2 := Lib.hid hs2
    have HT := Lib.hid hst
    have HU := Lib.hid hrt
    clear hw hv hr hq hs hs2 hst hrt r1 hd hRl hml hml2
    go_enter Try.func5, Try.ntmps5
    go_wp2_with (first
  | ((with_reducible refine to_boxT 29 rfl ?_); refine Wl_box hS (fun _ => by rfl) _ rfl ?_; clear hS; intro b2 wW hS; simp only [nA])
  )
    refine (dmawake_any _).mono ?_
    rintro e w1 ⟨rfl, hb⟩
    replace hS := hS.call hb
    clear hb
    go_wp2_with (first
  | ((with_reducible first | refine to_load 25 rfl ?_); refine Wl_load1 hS (fun _ => by rfl) _ _ rfl (scT _ rfl) ?_; (repeat (first | refine Look.here (of_decide_eq_true rfl) rfl ?_)); (with_reducible show wpList _ _ _ _ _ _); simp only [nA])
  | ((with_reducible refine to_load 29 rfl ?_); refine Wl_load hS (fun _ => by rfl) _ _ rfl _ Try.underlying29 rfl ?_; (repeat (first | (refine Row.here ⟨(dmI.trans rfl), ?_⟩))); (with_reducible show wpList _ _ _ _ _ _); simp only [nA])
  )
    refine (HR.out _).mono ?_
    rintro e w1 ⟨rfl, hb⟩
    replace hS := hS.call hb
    clear hb
    go_wp2_with (first
  | ((with_reducible refine to_alloc 29 rfl ?_); refine Wl_alloc hS (fun _ => by rfl) _ dmZ ?_; clear hS; intro b6 wW hS; simp only [nA])
  | ((with_reducible refine to_load 29 rfl ?_); refine Wl_load hS (fun _ => by rfl) _ _ rfl _ Try.underlying29 rfl ?_; (repeat (first | (refine Row.here ⟨(dmI.trans rfl), ?_⟩) | refine Row.next ?_)); (with_reducible show wpList _ _ _ _ _ _); simp only [nA])
  | ((with_reducible refine to_store 29 rfl ?_); refine Wl_store hS (fun _ => by rfl) _ _ _ rfl rfl (dmI.trans rfl) (dm_one _ _ _ _) ?_; (repeat (first | refine Turn.here rfl ?_)); clear hS; intro wW hS; try simp only [nA]))
    refine (dplain_any d A _ c _).mono ?_
    rintro e w1 ⟨rfl, hb⟩
    replace hS := hS.call hb
    clear hb
    go_wp2_with (first
  | ((with_reducible refine to_boxT 29 rfl ?_); refine Wl_box hS (fun _ => by rfl) _ rfl ?_; clear hS; intro b2 wW hS; simp only [nA])
  )
    refine (HQ.out _).mono ?_
    rintro e w1 ⟨rfl, hb⟩
    replace hS := hS.call hb
    clear hb
    go_wp2_with (first
  | ((with_reducible refine to_alloc 42 rfl ?_); refine Wl_alloc hS (fun _ => by rfl) _ rdmZ ?_; clear hS; intro b8 wW hS; simp only [nA])
  | ((with_reducible refine to_store 42 rfl ?_); refine Wl_store hS (fun _ => by rfl) _ _ _ rfl rfl (rdmI.trans rfl) (dm_one _ _ _ _) ?_; (repeat (first | refine Turn.here rfl ?_)); clear hS; intro wW hS; try simp only [nA]))
    refine wp_region_held_drew (S := fun W => St w.heap.size 0 0 w [⟨b8, 0, true, Y.c (.slice A d.p.want.length c)⟩, ⟨b6, 0, true, Y.c (.slice A d.p.want.length c)⟩, ⟨b2, 0, true, d.c (.slice A d.p.want.length c)⟩] W) (by kernel_rfl) (hS.drew.sub (by repeat (first | exact List.nil_sublist _ | apply List.Sublist.cons_cons))) ?_
    intro _
    replace hS := hS.drew
    generalize World.drew _ = wX at hS ⊢
    first
      | refine wpAnyH_take (i := 0) rfl (by kernel_rfl) (by kernel_rfl) (by kernel_rfl) (fun _ _ _ h => h) (yields_row (by rfl) _ _ rfl _ _ rfl _ Try.underlying29 rfl _ (fun W hW => hW.range (.tail _ (.tail _ (.head _)))) (dmI.trans rfl)) (hS.sub (by repeat (first | exact List.nil_sublist _ | apply List.Sublist.cons_cons))) ?_
      
    try simp only [nR]
    refine wpAnyH_take (i := 1) (v := ?_) rfl (by kernel_rfl) (by kernel_rfl) (by kernel_rfl) (fun _ _ _ h => h) (Or.inl ⟨by rfl, ?_⟩) (hS.sub (by repeat (first | exact List.nil_sublist _ | apply List.Sublist.cons_cons))) ?_
    rotate_left 1
    · intro W hW
      clear hW
      go_simp
      all_goals with_reducible rfl
    try simp only [nR]
    first
      | refine wpAnyH_take (i := 4) rfl (by kernel_rfl) (by kernel_rfl) (by kernel_rfl) (fun _ _ _ h => h) (yields_row (by rfl) _ _ rfl _ _ rfl _ Try.underlying29 rfl _ (fun W hW => hW.range (.tail _ (.tail _ (.head _)))) (dmI.trans rfl)) (hS.sub (by repeat (first | exact List.nil_sublist _ | apply List.Sublist.cons_cons))) ?_
      
    try simp only [nR]
    refine wpAnyH_take (i := 6) (v := ?_) rfl (by kernel_rfl) (by kernel_rfl) (by kernel_rfl) (fun _ _ _ h => h) (Or.inl ⟨by rfl, ?_⟩) (hS.sub (by repeat (first | exact List.nil_sublist _ | apply List.Sublist.cons_cons))) ?_
    rotate_left 1
    · intro W hW
      clear hW
      go_simp
      all_goals with_reducible rfl
    try simp only [nR]
    refine wpAnyH_ready (rs := [2]) (by kernel_rfl) (by simp) (AllReadyH.cons rfl ?_ AllReadyH.nil)
    intro K1 hK1
    rw [if_pos (by rfl)]
    try simp only [nR]
    go_simp
    refine (HW.out _ (hS.ls hsh (fun e he => by repeat (first | exact he | refine List.Mem.tail _ ?_)))).mono ?_
    rintro e w1 ⟨A1, c1, rfl, hl, hbl⟩
    have hshA1 := hl.shp
    replace hS := hS.callN hbl hl
    simp only [List.cons_append, List.nil_append] at hS
    clear hl hbl
    refine hK1.out _ _ (hS.sub (by repeat (first | exact List.nil_sublist _ | apply List.Sublist.cons_cons))) (fun _ => ?_)
    clear hK1
    try simp only [nR]
    refine wpAnyH_ready (rs := [3]) (by kernel_rfl) (by simp) (AllReadyH.cons rfl ?_ AllReadyH.nil)
    intro K1 hK1
    rw [if_pos (by rfl)]
    try simp only [nR]
    go_simp
    refine (dplain_any R A1 _ c1 _).mono ?_
    rintro e1 v2 ⟨rfl, hb⟩
    replace hS := hS.call hb
    clear hb
    refine hK1.out _ _ (hS.sub (by repeat (first | exact List.nil_sublist _ | apply List.Sublist.cons_cons))) (fun _ => ?_)
    clear hK1
    try simp only [nR]
    refine wpAnyH_ready (rs := [5]) (by kernel_rfl) (by simp) (AllReadyH.cons rfl ?_ AllReadyH.nil)
    intro K1 hK1
    rw [if_pos (by rfl)]
    try simp only [nR]
    go_simp
    refine (dplain_any d A _ c _).mono ?_
    rintro e1 v2 ⟨rfl, hb⟩
    replace hS := hS.call hb
    clear hb
    refine hK1.out _ _ (hS.sub (by repeat (first | exact List.nil_sublist _ | apply List.Sublist.cons_cons))) (fun _ => ?_)
    clear hK1
    try simp only [nR]
    refine wpAnyH_ready (rs := [7]) (by kernel_rfl) (by simp) (AllReadyH.cons rfl ?_ AllReadyH.nil)
    intro K1 hK1
    rw [if_pos (by rfl)]
    try simp only [nR]
    go_simp
    refine (HV.out _ (hS.ls hsh (fun e he => by repeat (first | exact List.mem_append_left _ he | refine List.Mem.tail _ ?_)))).mono ?_
    rintro e w1 ⟨A2, c2, rfl, hl, hbl⟩
    have hshA2 := hl.shp
    replace hS := hS.callN hbl hl
    simp only [List.cons_append, List.nil_append] at hS
    clear hl hbl
    refine hK1.out _ _ (hS.sub (by repeat (first | exact List.nil_sublist _ | apply List.Sublist.cons_cons))) (fun _ => ?_)
    clear hK1
    try simp only [nR]
    refine wpAnyH_ready (rs := [8]) (by kernel_rfl) (by simp) (AllReadyH.cons rfl ?_ AllReadyH.nil)
    intro K1 hK1
    rw [if_pos (by rfl)]
    try simp only [nR]
    go_simp
    refine (HS.out A1 c1 A2 c2 _ (hS.ls hshA1 (fun e he => by repeat (first | exact List.mem_append_left _ (List.mem_append_right _ he) | refine List.Mem.tail _ ?_))) (hS.ls hshA2 (fun e he => by repeat (first | exact List.mem_append_right _ he | refine List.Mem.tail _ ?_)))).mono ?_
    rintro e1 v2 ⟨rfl, hb⟩
    replace hS := hS.call hb
    clear hb
    refine hK1.out _ _ (hS.sub (by repeat (first | exact List.nil_sublist _ | apply List.Sublist.cons_cons))) (fun _ => ?_)
    clear hK1
    try simp only [nR]
    refine wpAnyH_take (i := 9) (v := ?_) rfl (by kernel_rfl) (by kernel_rfl) (by kernel_rfl) (fun _ _ _ h => h) (Or.inl ⟨by rfl, ?_⟩) (hS.sub (by repeat (first | exact List.nil_sublist _ | apply List.Sublist.cons_cons))) ?_
    rotate_left 1
    · intro W hW
      clear hW
      go_simp
      all_goals with_reducible rfl
    try simp only [nR]
    first
      | refine wpAnyH_take (i := 10) rfl (by kernel_rfl) (by kernel_rfl) (by kernel_rfl) (fun _ _ _ h => h) (yields_row (by rfl) _ _ rfl _ _ rfl _ Try.underlying29 rfl _ (fun W hW => hW.range (.tail _ (.head _))) (dmI.trans rfl)) (hS.sub (by repeat (first | exact List.nil_sublist _ | apply List.Sublist.cons_cons))) ?_
      
    try simp only [nR]
    first
      | refine wpAnyH_take (i := 12) rfl (by kernel_rfl) (by kernel_rfl) (by kernel_rfl) (fun _ _ _ h => h) (yields_row (by rfl) _ _ rfl _ _ rfl _ Try.underlying42 rfl _ (fun W hW => hW.range (.head _)) (rdmI.trans rfl)) (hS.sub (by repeat (first | exact List.nil_sublist _ | apply List.Sublist.cons_cons))) ?_
      
    try simp only [nR]
    refine wpAnyH_ready (rs := [11]) (by kernel_rfl) (by simp) (AllReadyH.cons rfl ?_ AllReadyH.nil)
    intro K1 hK1
    rw [if_pos (by rfl)]
    try simp only [nR]
    go_simp
    refine (dplain_any Y A _ c _).mono ?_
    rintro e1 v2 ⟨rfl, hb⟩
    replace hS := hS.call hb
    clear hb
    refine hK1.out _ _ (hS.sub (by repeat (first | exact List.nil_sublist _ | apply List.Sublist.cons_cons))) (fun _ => ?_)
    clear hK1
    try simp only [nR]
    refine wpAnyH_ready (rs := [13]) (by kernel_rfl) (by simp) (AllReadyH.cons rfl ?_ AllReadyH.nil)
    intro K1 hK1
    rw [if_pos (by rfl)]
    try simp only [nR]
    go_simp
    refine (HS2.out _ (hS.ls hsh (fun e he => by repeat (first | exact List.mem_append_left _ (List.mem_append_left _ he) | refine List.Mem.tail _ ?_)))).mono ?_
    rintro e1 v2 ⟨rfl, hb⟩
    replace hS := hS.call hb
    clear hb
    refine hK1.out _ _ (hS.sub (by repeat (first | exact List.nil_sublist _ | apply List.Sublist.cons_cons))) (fun _ => ?_)
    clear hK1
    try simp only [nR]
    refine wpAnyH_take (i := 14) (v := ?_) rfl (by kernel_rfl) (by kernel_rfl) (by kernel_rfl) (fun _ _ _ h => h) (Or.inl ⟨by rfl, ?_⟩) (hS.sub (by repeat (first | exact List.nil_sublist _ | apply List.Sublist.cons_cons))) ?_
    rotate_left 1
    · intro W hW
      clear hW
      go_simp
      all_goals with_reducible rfl
    try simp only [nR]
    refine wpAnyH_take (i := 15) (v := ?_) rfl (by kernel_rfl) (by kernel_rfl) (by kernel_rfl) (fun _ _ _ h => h) (Or.inl ⟨by rfl, ?_⟩) (hS.sub (by repeat (first | exact List.nil_sublist _ | apply List.Sublist.cons_cons))) ?_
    rotate_left 1
    · intro W hW
      clear hW
      go_simp
      all_goals with_reducible rfl
    try simp only [nR]
    refine wpAnyH_take (i := 16) (v := ?_) rfl (by kernel_rfl) (by kernel_rfl) (by kernel_rfl) (fun _ _ _ h => h) (Or.inl ⟨by rfl, ?_⟩) (hS.sub (by repeat (first | exact List.nil_sublist _ | apply List.Sublist.cons_cons))) ?_
    rotate_left 1
    · intro W hW
      clear hW
      go_simp
      all_goals with_reducible rfl
    try simp only [nR]
    refine wpAnyH_take (i := 17) (v := ?_) rfl (by kernel_rfl) (by kernel_rfl) (by kernel_rfl) (fun _ _ _ h => h) (Or.inl ⟨by rfl, ?_⟩) (hS.sub (by repeat (first | exact List.nil_sublist _ | apply List.Sublist.cons_cons))) ?_
    rotate_left 1
    · intro W hW
      clear hW
      go_simp
      all_goals with_reducible rfl
    try simp only [nR]
    refine wpAnyH_take (i := 18) (v := ?_) rfl (by kernel_rfl) (by kernel_rfl) (by kernel_rfl) (fun _ _ _ h => h) (Or.inl ⟨by rfl, ?_⟩) (hS.sub (by repeat (first | exact List.nil_sublist _ | apply List.Sublist.cons_cons))) ?_
    rotate_left 1
    · intro W hW
      clear hW
      go_simp
      all_goals with_reducible rfl
    try simp only [nR]
    refine wpAnyH_take (i := 19) (v := ?_) rfl (by kernel_rfl) (by kernel_rfl) (by kernel_rfl) (fun _ _ _ h => h) (Or.inl ⟨by rfl, ?_⟩) (hS.sub (by repeat (first | exact List.nil_sublist _ | apply List.Sublist.cons_cons))) ?_
    rotate_left 1
    · intro W hW
      clear hW
      go_simp
      all_goals with_reducible rfl
    try simp only [nR]
    refine wpAnyH_take (i := 20) (v := ?_) rfl (by kernel_rfl) (by kernel_rfl) (by kernel_rfl) (fun _ _ _ h => h) (Or.inl ⟨by rfl, ?_⟩) (hS.sub (by repeat (first | exact List.nil_sublist _ | apply List.Sublist.cons_cons))) ?_
    rotate_left 1
    · intro W hW
      clear hW
      go_simp
      all_goals with_reducible rfl
    try simp only [nR]
    first
      | refine wpAnyH_take (i := 21) rfl (by kernel_rfl) (by kernel_rfl) (by kernel_rfl) (fun _ _ _ h => h) (yields_row (by rfl) _ _ rfl _ _ rfl _ Try.underlying29 rfl _ (fun W hW => hW.range (.tail _ (.tail _ (.head _)))) (dmI.trans rfl)) (hS.sub (by repeat (first | exact List.nil_sublist _ | apply List.Sublist.cons_cons))) ?_
      
    try simp only [nR]
    first
      | refine wpAnyH_take (i := 23) rfl (by kernel_rfl) (by kernel_rfl) (by kernel_rfl) (fun _ _ _ h => h) (yields_row (by rfl) _ _ rfl _ _ rfl _ Try.underlying29 rfl _ (fun W hW => hW.range (.tail _ (.tail _ (.head _)))) (dmI.trans rfl)) (hS.sub (by repeat (first | exact List.nil_sublist _ | apply List.Sublist.cons_cons))) ?_
      
    try simp only [nR]
    refine wpAnyH_ready (rs := [22]) (by kernel_rfl) (by simp) (AllReadyH.cons rfl ?_ AllReadyH.nil)
    intro K1 hK1
    rw [if_pos (by rfl)]
    try simp only [nR]
    go_simp
    refine (HT.out _).mono ?_
    rintro e1 v2 ⟨rfl, hb⟩
    replace hS := hS.call hb
    clear hb
    refine hK1.out _ _ (hS.sub (by repeat (first | exact List.nil_sublist _ | apply List.Sublist.cons_cons))) (fun _ => ?_)
    clear hK1
    try simp only [nR]
    refine wpAnyH_ready (rs := [24]) (by kernel_rfl) (by simp) (AllReadyH.cons rfl ?_ AllReadyH.nil)
    intro K1 hK1
    rw [if_pos (by rfl)]
    try simp only [nR]
    go_simp
    refine (dplain_any d A _ c _).mono ?_
    rintro e1 v2 ⟨rfl, hb⟩
    replace hS := hS.call hb
    clear hb
    refine hK1.out _ _ (hS.sub (by repeat (first | exact List.nil_sublist _ | apply List.Sublist.cons_cons))) (fun _ => ?_)
    clear hK1
    try simp only [nR]
    refine wpAnyH_ready (rs := [25]) (by kernel_rfl) (by simp) (AllReadyH.cons rfl ?_ AllReadyH.nil)
    intro K1 hK1
    rw [if_pos (by rfl)]
    try simp only [nR]
    go_simp
    refine (HU.out _).mono ?_
    rintro e1 v2 ⟨rfl, hb⟩
    replace hS := hS.call hb
    clear hb
    refine hK1.out _ _ (hS.sub (by repeat (first | exact List.nil_sublist _ | apply List.Sublist.cons_cons))) (fun _ => ?_)
    clear hK1
    try simp only [nR]
    refine wpAnyH_take (i := 26) (v := ?_) rfl (by kernel_rfl) (by kernel_rfl) (by kernel_rfl) (fun _ _ _ h => h) (Or.inl ⟨by rfl, ?_⟩) (hS.sub (by repeat (first | exact List.nil_sublist _ | apply List.Sublist.cons_cons))) ?_
    rotate_left 1
    · intro W hW
      clear hW
      go_simp
      all_goals with_reducible rfl
    try simp only [nR]
    refine wpAnyH_take (i := 27) (v := ?_) rfl (by kernel_rfl) (by kernel_rfl) (by kernel_rfl) (fun _ _ _ h => h) (Or.inl ⟨by rfl, ?_⟩) (hS.sub (by repeat (first | exact List.nil_sublist _ | apply List.Sublist.cons_cons))) ?_
    rotate_left 1
    · intro W hW
      clear hW
      go_simp
      all_goals with_reducible rfl
    try simp only [nR]
    refine wpAnyH_take (i := 28) (v := ?_) rfl (by kernel_rfl) (by kernel_rfl) (by kernel_rfl) (fun _ _ _ h => h) (Or.inl ⟨by rfl, ?_⟩) (hS.sub (by repeat (first | exact List.nil_sublist _ | apply List.Sublist.cons_cons))) ?_
    rotate_left 1
    · intro W hW
      clear hW
      go_simp
      all_goals with_reducible rfl
    try simp only [nR]
    refine wpAnyH_done (by kernel_rfl) ?_ _
    go_wp2_with fail
    go_returns
    exact ⟨rfl, hS.below⟩
end Go.Proofs.Ytkkkjdbcckaedaa
