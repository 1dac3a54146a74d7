/- Next of a DMA (dma): its next access. -/
import Derived.Test.YtkkkjdbcckaedaaDmOpen
namespace Go.Proofs.Ytkkkjdbcckaedaa
open Go.RowKit
set_option linter.unusedVariables false
set_option linter.unusedSimpArgs false
set_option maxRecDepth 100000
theorem cyZ (w : World) : (zeroValue 32).run Try.prog w = .ok (.agg #[.int .i64 0, .int .u16 0, .int .u8 0, .int .i64 0]) w := Try.zeroValue32 w
theorem cyI : (Try.prog.info? 32).map (·.size) = some 4 := by kernel_rfl
theorem kiZ (w : World) : (zeroValue 68).run Try.prog w = .ok (.agg #[.int .i64 0, .int .i64 0]) w := Try.zeroValue68 w
theorem kiI : (Try.prog.info? 68).map (·.size) = some 2 := by kernel_rfl
def M.dNextK (d : M.Dm) : Int := if d.held then (if M.dNextIo d then 5 else 3) else (if M.dNextIo d then 4 else 2)
def M.dNextC (d : M.Dm) : Array Value := #[.int .i64 (M.dNextK d), .int .u16 (M.dNextA d), .int .u8 (M.dNextD d), .int .i64 (M.dNextT d)]
set_option maxHeartbeats 8000000 in
theorem dnextF_any (d : M.Dm) (hd : d.ok) (A : Option Addr) (n c : Nat) (w : World) : Calls Try.prog 12 #[.agg (({ d with held := false } : M.Dm).c (.slice A n c))] w fun e w' => e = .returned (.agg (M.dNextC { d with held := false })) ∧ Below w.heap.size w w' := by
  have hS := St.start w.heap.size 0 0 w
  have hd1 : ({ d with held := false } : M.Dm).ok := ⟨hd.p, hd.a, hd.b, hd.left, hd.hold, hd.ask⟩
  obtain ⟨i, hi⟩ : ∃ i, M.dIsA { d with held := false } = i := ⟨_, rfl⟩
  go_enter Try.func12, Try.ntmps12
  go_wp2_with (first
  | ((with_reducible refine to_boxT 29 rfl ?_); refine Wl_box hS (fun _ => by rfl) _ rfl ?_; clear hS; intro b1 wW hS; simp only [nA])
  | ((with_reducible refine to_alloc 32 rfl ?_); refine Wl_alloc hS (fun _ => by rfl) _ cyZ ?_; clear hS; intro b2 wW hS; simp only [nA])
  )
  refine (dnow_any b1 _ hd1 _ _ (hS.dmAt (.tail _ (.head _))) i hi).mono ?_
  rintro e w1 ⟨rfl, hr, ht⟩
  replace hS := hS.callT (.tail _ (.head _ _ _ _ _)) hr ht rfl
  clear hr ht
  cases i
  · have e1 : M.dSideC b1 false { d with held := false } = #[.pointer (some ⟨b1, 25, none⟩), .int .i64 d.p.bstep, .int .i64 d.p.btime, .bool d.p.bio] := rfl
    rw [e1]
    clear e1
    cases hio : d.p.bio
    · by_cases ht : d.p.btime = 0
      · have t0 : (d.p.btime == 0) = true := by rw [ht]; rfl
        have e2 := Lib.hid (show M.dNextC { d with held := false } = #[.int .i64 2, .int .u16 d.b, .int .u8 0, .int .i64 3] from by simp [M.dNextC, M.dNextK, M.dNextIo, M.dNextA, M.dNextD, M.dNextT, M.dNextT0, hi, hio, ht])
        replace hio := Lib.hid hio
        replace ht := Lib.hid ht
        go_wp2_with (first
  | ((with_reducible first | refine to_load 4 rfl ?_ ); refine Wl_load1 hS (fun _ => by rfl) _ _ rfl (scT _ rfl) ?_; (repeat (first | refine Look.here (of_decide_eq_true rfl) rfl ?_ | refine Look.next ?_)); (with_reducible show wpList _ _ _ _ _ _); simp only [nA])
  | ((with_reducible refine to_alloc 66 rfl ?_); refine Wl_alloc hS (fun _ => by rfl) _ sdZ ?_; clear hS; intro b3 wW hS; simp only [nA])
  | ((with_reducible refine to_alloc 68 rfl ?_); refine Wl_alloc hS (fun _ => by rfl) _ kiZ ?_; clear hS; intro b4 wW hS; simp only [nA])
  | ((with_reducible refine to_store 66 rfl ?_); refine Wl_store hS (fun _ => by rfl) _ _ _ rfl rfl (sdI.trans rfl) (by simp [Value.oneCell']) ?_; (repeat (first | refine Turn.here rfl ?_)); clear hS; intro wW hS; try simp only [nA])
  | ((with_reducible refine to_store 68 rfl ?_); refine Wl_store hS (fun _ => by rfl) _ _ _ rfl rfl (kiI.trans rfl) (by simp [Value.oneCell']) ?_; (repeat (first | refine Turn.here rfl ?_)); clear hS; intro wW hS; try simp only [nA]))
        refine wp_region_held_drew (S := fun W => St w.heap.size 0 0 w [⟨b4, 0, true, #[.int .i64 2, .int .i64 3]⟩, ⟨b3, 0, true, #[.pointer (some ⟨b1, 25, none⟩), .int .i64 d.p.bstep, .int .i64 d.p.btime, .bool false]⟩, ⟨b1, 0, true, ({ d with held := false } : M.Dm).c (.slice A n c)⟩] W) (by kernel_rfl) (hS.drew.sub (by repeat (first | exact List.Sublist.slnil | apply List.Sublist.cons_cons | apply List.Sublist.cons))) ?_
        intro _
        replace hS := hS.drew
        generalize World.drew _ = wX at hS ⊢
        refine wpAnyH_take (i := 0) (v := ?_) rfl (by kernel_rfl) (by kernel_rfl) (by kernel_rfl) (fun _ _ _ h => h) (Or.inl ⟨by rfl, ?_⟩) (hS.sub (by repeat (first | exact List.Sublist.slnil | apply List.Sublist.cons_cons | apply List.Sublist.cons))) ?_
        rotate_left 1
        · intro W hW
          clear hW
          go_simp
          all_goals with_reducible rfl
        try simp only [nR]
        first
          | refine wpAnyH_take (i := 1) rfl (by kernel_rfl) (by kernel_rfl) (by kernel_rfl) (fun _ _ _ h => h) (yields_one (by rfl) _ _ rfl _ _ rfl sc3 _ (fun W hW => hW.cell0 (.head _) rfl)) (hS.sub (by repeat (first | exact List.Sublist.slnil | apply List.Sublist.cons_cons | apply List.Sublist.cons))) ?_
          
        try simp only [nR]
        refine wpAnyH_take (i := 2) (v := ?_) rfl (by kernel_rfl) (by kernel_rfl) (by kernel_rfl) (fun _ _ _ h => h) (Or.inl ⟨by rfl, ?_⟩) (hS.sub (by repeat (first | exact List.Sublist.slnil | apply List.Sublist.cons_cons | apply List.Sublist.cons))) ?_
        rotate_left 1
        · intro W hW
          clear hW
          go_simp
          all_goals with_reducible rfl
        try simp only [nR]
        first
          | refine wpAnyH_take (i := 3) rfl (by kernel_rfl) (by kernel_rfl) (by kernel_rfl) (fun _ _ _ h => h) (yields_one (by rfl) _ _ rfl _ _ rfl scQ _ (fun W hW => hW.cell0 (.tail _ (.head _)) rfl)) (hS.sub (by repeat (first | exact List.Sublist.slnil | apply List.Sublist.cons_cons | apply List.Sublist.cons))) ?_
          
        try simp only [nR]
        refine wpAnyH_take (i := 4) (v := ?_) rfl (by kernel_rfl) (by kernel_rfl) (by kernel_rfl) (fun _ _ _ h => h) (Or.inl ⟨by rfl, ?_⟩) (hS.sub (by repeat (first | exact List.Sublist.slnil | apply List.Sublist.cons_cons | apply List.Sublist.cons))) ?_
        rotate_left 1
        · intro W hW
          clear hW
          go_simp
          all_goals with_reducible rfl
        try simp only [nR]
        first
          | refine wpAnyH_take (i := 5) rfl (by kernel_rfl) (by kernel_rfl) (by kernel_rfl) (fun _ _ _ h => h) (yields_one (by rfl) _ _ rfl _ _ rfl scW _ (fun W hW => hW.cell0 (.tail _ (.tail _ (.head _))) rfl)) (hS.sub (by repeat (first | exact List.Sublist.slnil | apply List.Sublist.cons_cons | apply List.Sublist.cons))) ?_
        try simp only [nR]
        refine wpAnyH_take (i := 6) (v := ?_) rfl (by kernel_rfl) (by kernel_rfl) (by kernel_rfl) (fun _ _ _ h => h) (Or.inl ⟨by rfl, ?_⟩) (hS.sub (by repeat (first | exact List.Sublist.slnil | apply List.Sublist.cons_cons | apply List.Sublist.cons))) ?_
        rotate_left 1
        · intro W hW
          clear hW
          go_simp
          all_goals with_reducible rfl
        try simp only [nR]
        first
          | refine wpAnyH_take (i := 7) rfl (by kernel_rfl) (by kernel_rfl) (by kernel_rfl) (fun _ _ _ h => h) (yields_one (by rfl) _ _ rfl _ _ rfl sc3 _ (fun W hW => hW.cell0 (.tail _ (.head _)) rfl)) (hS.sub (by repeat (first | exact List.Sublist.slnil | apply List.Sublist.cons_cons | apply List.Sublist.cons))) ?_
          
        try simp only [nR]
        refine wpAnyH_take (i := 8) (v := ?_) rfl (by kernel_rfl) (by kernel_rfl) (by kernel_rfl) (fun _ _ _ h => h) (Or.inl ⟨by rfl, ?_⟩) (hS.sub (by repeat (first | exact List.Sublist.slnil | apply List.Sublist.cons_cons | apply List.Sublist.cons))) ?_
        rotate_left 1
        · intro W hW
          clear hW
          go_simp
          all_goals with_reducible rfl
        try simp only [nR]
        refine wpAnyH_ready (rs := [9]) (by kernel_rfl) (by simp) (AllReadyH.cons rfl ?_ AllReadyH.nil)
        intro K1 hK1
        rw [if_pos (by rfl)]
        try simp only [nR]
        refine wp_alloc_st hS _ rfl _ cyZ ?_
        clear hS
        intro bB wW hS
        refine hK1.out _ _ (hS.sub (by repeat (first | exact List.Sublist.slnil | apply List.Sublist.cons_cons | apply List.Sublist.cons))) (fun _ => ?_)
        clear hK1
        try simp only [nR]
        refine wpAnyH_ready (rs := [10]) (by kernel_rfl) (by simp) (AllReadyH.cons rfl ?_ AllReadyH.nil)
        intro K1 hK1
        rw [if_pos (by rfl)]
        try simp only [nR]
        refine wp_store_st hS _ _ _ rfl _ _ _ rfl rfl (cyI.trans rfl) (by simp [Value.oneCell']) ?_
        repeat (first | refine Turn.here rfl ?_)
        clear hS
        intro wW hS
        refine hK1.out _ _ (hS.sub (by repeat (first | exact List.Sublist.slnil | apply List.Sublist.cons_cons | apply List.Sublist.cons))) (fun _ => ?_)
        clear hK1
        try simp only [nR]
        refine wpAnyH_done (by kernel_rfl) ?_ _
        go_wp2_with (first
  | ((with_reducible first | refine to_load 3 rfl ?_ | refine to_load 4 rfl ?_ ); refine Wl_load1 hS (fun _ => by rfl) _ _ rfl (scT _ rfl) ?_; (repeat (first | refine Look.here (of_decide_eq_true rfl) rfl ?_ | refine Look.next ?_)); (with_reducible show wpList _ _ _ _ _ _); simp only [nA])
  | ((with_reducible first | refine to_store 3 rfl ?_ ); (first | refine Wl_store1 hS (fun _ => by rfl) _ _ (.int _ _) rfl rfl (scT _ rfl) rfl rfl ?_); (repeat (first | refine Turn1.here (of_decide_eq_true rfl) (of_decide_eq_true rfl) ?_)); clear hS; intro wW hS; (try simp only [nA]); try simp only [Nat.sub_zero, Nat.add_zero, Nat.zero_add, Nat.reduceSub, Nat.add_sub_cancel_left, dm_ss, List.setIfInBounds_toArray, List.set_cons_zero, List.set_cons_succ] at hS)
  | ((with_reducible refine to_load 32 rfl ?_); refine Wl_load hS (fun _ => by rfl) _ _ rfl _ Try.underlying32 rfl ?_; (repeat (first | (refine Row.here ⟨(cyI.trans rfl), ?_⟩))); (with_reducible show wpList _ _ _ _ _ _); simp only [nA])
  | ((with_reducible refine to_store 32 rfl ?_); refine Wl_store hS (fun _ => by rfl) _ _ _ rfl rfl (cyI.trans rfl) (by simp [Value.oneCell']) ?_; (repeat (first | refine Turn.here rfl ?_ | refine Turn.next ?_)); clear hS; intro wW hS; try simp only [nA]))
        refine ret_st hS rfl _ _ rfl rfl _ Try.underlying32 rfl ?_
        repeat (first | (refine Row.here ⟨cyI.trans rfl, ?_⟩) | refine Row.next ?_)
        exact ⟨by rw [e2.out], hS.below⟩
      · have t0 : (d.p.btime == 0) = false := by simpa using ht
        have e2 := Lib.hid (show M.dNextC { d with held := false } = #[.int .i64 2, .int .u16 d.b, .int .u8 0, .int .i64 d.p.btime] from by simp [M.dNextC, M.dNextK, M.dNextIo, M.dNextA, M.dNextD, M.dNextT, M.dNextT0, hi, hio, ht])
        replace hio := Lib.hid hio
        replace ht := Lib.hid ht
        go_wp2_with (first
  | ((with_reducible first | refine to_load 4 rfl ?_ ); refine Wl_load1 hS (fun _ => by rfl) _ _ rfl (scT _ rfl) ?_; (repeat (first | refine Look.here (of_decide_eq_true rfl) rfl ?_ | refine Look.next ?_)); (with_reducible show wpList _ _ _ _ _ _); simp only [nA])
  | ((with_reducible refine to_alloc 66 rfl ?_); refine Wl_alloc hS (fun _ => by rfl) _ sdZ ?_; clear hS; intro b3 wW hS; simp only [nA])
  | ((with_reducible refine to_alloc 68 rfl ?_); refine Wl_alloc hS (fun _ => by rfl) _ kiZ ?_; clear hS; intro b4 wW hS; simp only [nA])
  | ((with_reducible refine to_store 66 rfl ?_); refine Wl_store hS (fun _ => by rfl) _ _ _ rfl rfl (sdI.trans rfl) (by simp [Value.oneCell']) ?_; (repeat (first | refine Turn.here rfl ?_)); clear hS; intro wW hS; try simp only [nA])
  | ((with_reducible refine to_store 68 rfl ?_); refine Wl_store hS (fun _ => by rfl) _ _ _ rfl rfl (kiI.trans rfl) (by simp [Value.oneCell']) ?_; (repeat (first | refine Turn.here rfl ?_)); clear hS; intro wW hS; try simp only [nA]))
        refine wp_region_held_drew (S := fun W => St w.heap.size 0 0 w [⟨b4, 0, true, #[.int .i64 2, .int .i64 3]⟩, ⟨b3, 0, true, #[.pointer (some ⟨b1, 25, none⟩), .int .i64 d.p.bstep, .int .i64 d.p.btime, .bool false]⟩, ⟨b1, 0, true, ({ d with held := false } : M.Dm).c (.slice A n c)⟩] W) (by kernel_rfl) (hS.drew.sub (by repeat (first | exact List.Sublist.slnil | apply List.Sublist.cons_cons | apply List.Sublist.cons))) ?_
        intro _
        replace hS := hS.drew
        generalize World.drew _ = wX at hS ⊢
        refine wpAnyH_take (i := 0) (v := ?_) rfl (by kernel_rfl) (by kernel_rfl) (by kernel_rfl) (fun _ _ _ h => h) (Or.inl ⟨by rfl, ?_⟩) (hS.sub (by repeat (first | exact List.Sublist.slnil | apply List.Sublist.cons_cons | apply List.Sublist.cons))) ?_
        rotate_left 1
        · intro W hW
          clear hW
          go_simp
          all_goals with_reducible rfl
        try simp only [nR]
        first
          | refine wpAnyH_take (i := 1) rfl (by kernel_rfl) (by kernel_rfl) (by kernel_rfl) (fun _ _ _ h => h) (yields_one (by rfl) _ _ rfl _ _ rfl sc3 _ (fun W hW => hW.cell0 (.head _) rfl)) (hS.sub (by repeat (first | exact List.Sublist.slnil | apply List.Sublist.cons_cons | apply List.Sublist.cons))) ?_
          
        try simp only [nR]
        refine wpAnyH_take (i := 2) (v := ?_) rfl (by kernel_rfl) (by kernel_rfl) (by kernel_rfl) (fun _ _ _ h => h) (Or.inl ⟨by rfl, ?_⟩) (hS.sub (by repeat (first | exact List.Sublist.slnil | apply List.Sublist.cons_cons | apply List.Sublist.cons))) ?_
        rotate_left 1
        · intro W hW
          clear hW
          go_simp
          all_goals with_reducible rfl
        try simp only [nR]
        first
          | refine wpAnyH_take (i := 3) rfl (by kernel_rfl) (by kernel_rfl) (by kernel_rfl) (fun _ _ _ h => h) (yields_one (by rfl) _ _ rfl _ _ rfl scQ _ (fun W hW => hW.cell0 (.tail _ (.head _)) rfl)) (hS.sub (by repeat (first | exact List.Sublist.slnil | apply List.Sublist.cons_cons | apply List.Sublist.cons))) ?_
          
        try simp only [nR]
        refine wpAnyH_take (i := 4) (v := ?_) rfl (by kernel_rfl) (by kernel_rfl) (by kernel_rfl) (fun _ _ _ h => h) (Or.inl ⟨by rfl, ?_⟩) (hS.sub (by repeat (first | exact List.Sublist.slnil | apply List.Sublist.cons_cons | apply List.Sublist.cons))) ?_
        rotate_left 1
        · intro W hW
          clear hW
          go_simp
          all_goals with_reducible rfl
        try simp only [nR]
        first
          | refine wpAnyH_take (i := 5) rfl (by kernel_rfl) (by kernel_rfl) (by kernel_rfl) (fun _ _ _ h => h) (yields_one (by rfl) _ _ rfl _ _ rfl scW _ (fun W hW => hW.cell0 (.tail _ (.tail _ (.head _))) rfl)) (hS.sub (by repeat (first | exact List.Sublist.slnil | apply List.Sublist.cons_cons | apply List.Sublist.cons))) ?_
        try simp only [nR]
        refine wpAnyH_take (i := 6) (v := ?_) rfl (by kernel_rfl) (by kernel_rfl) (by kernel_rfl) (fun _ _ _ h => h) (Or.inl ⟨by rfl, ?_⟩) (hS.sub (by repeat (first | exact List.Sublist.slnil | apply List.Sublist.cons_cons | apply List.Sublist.cons))) ?_
        rotate_left 1
        · intro W hW
          clear hW
          go_simp
          all_goals with_reducible rfl
        try simp only [nR]
        first
          | refine wpAnyH_take (i := 7) rfl (by kernel_rfl) (by kernel_rfl) (by kernel_rfl) (fun _ _ _ h => h) (yields_one (by rfl) _ _ rfl _ _ rfl sc3 _ (fun W hW => hW.cell0 (.tail _ (.head _)) rfl)) (hS.sub (by repeat (first | exact List.Sublist.slnil | apply List.Sublist.cons_cons | apply List.Sublist.cons))) ?_
          
        try simp only [nR]
        refine wpAnyH_take (i := 8) (v := ?_) rfl (by kernel_rfl) (by kernel_rfl) (by kernel_rfl) (fun _ _ _ h => h) (Or.inl ⟨by rfl, ?_⟩) (hS.sub (by repeat (first | exact List.Sublist.slnil | apply List.Sublist.cons_cons | apply List.Sublist.cons))) ?_
        rotate_left 1
        · intro W hW
          clear hW
          go_simp
          all_goals with_reducible rfl
        try simp only [nR]
        refine wpAnyH_ready (rs := [9]) (by kernel_rfl) (by simp) (AllReadyH.cons rfl ?_ AllReadyH.nil)
        intro K1 hK1
        rw [if_pos (by rfl)]
        try simp only [nR]
        refine wp_alloc_st hS _ rfl _ cyZ ?_
        clear hS
        intro bB wW hS
        refine hK1.out _ _ (hS.sub (by repeat (first | exact List.Sublist.slnil | apply List.Sublist.cons_cons | apply List.Sublist.cons))) (fun _ => ?_)
        clear hK1
        try simp only [nR]
        refine wpAnyH_ready (rs := [10]) (by kernel_rfl) (by simp) (AllReadyH.cons rfl ?_ AllReadyH.nil)
        intro K1 hK1
        rw [if_pos (by rfl)]
        try simp only [nR]
        refine wp_store_st hS _ _ _ rfl _ _ _ rfl rfl (cyI.trans rfl) (by simp [Value.oneCell']) ?_
        repeat (first | refine Turn.here rfl ?_)
        clear hS
        intro wW hS
        refine hK1.out _ _ (hS.sub (by repeat (first | exact List.Sublist.slnil | apply List.Sublist.cons_cons | apply List.Sublist.cons))) (fun _ => ?_)
        clear hK1
        try simp only [nR]
        refine wpAnyH_done (by kernel_rfl) ?_ _
        go_wp2_with (first
  | ((with_reducible first | refine to_load 3 rfl ?_ | refine to_load 4 rfl ?_ ); refine Wl_load1 hS (fun _ => by rfl) _ _ rfl (scT _ rfl) ?_; (repeat (first | refine Look.here (of_decide_eq_true rfl) rfl ?_ | refine Look.next ?_)); (with_reducible show wpList _ _ _ _ _ _); simp only [nA])
  | ((with_reducible refine to_load 32 rfl ?_); refine Wl_load hS (fun _ => by rfl) _ _ rfl _ Try.underlying32 rfl ?_; (repeat (first | (refine Row.here ⟨(cyI.trans rfl), ?_⟩))); (with_reducible show wpList _ _ _ _ _ _); simp only [nA])
  | ((with_reducible refine to_store 32 rfl ?_); refine Wl_store hS (fun _ => by rfl) _ _ _ rfl rfl (cyI.trans rfl) (by simp [Value.oneCell']) ?_; (repeat (first | refine Turn.here rfl ?_ | refine Turn.next ?_)); clear hS; intro wW hS; try simp only [nA]))
        refine ret_st hS rfl _ _ rfl rfl _ Try.underlying32 rfl ?_
        repeat (first | (refine Row.here ⟨cyI.trans rfl, ?_⟩) | refine Row.next ?_)
        exact ⟨by rw [e2.out], hS.below⟩
    · by_cases ht : d.p.btime = 0
      · have t0 : (d.p.btime == 0) = true := by rw [ht]; rfl
        have e2 := Lib.hid (show M.dNextC { d with held := false } = #[.int .i64 4, .int .u16 d.b, .int .u8 0, .int .i64 4] from by simp [M.dNextC, M.dNextK, M.dNextIo, M.dNextA, M.dNextD, M.dNextT, M.dNextT0, hi, hio, ht])
        replace hio := Lib.hid hio
        replace ht := Lib.hid ht
        go_wp2_with (first
  | ((with_reducible first | refine to_load 4 rfl ?_ ); refine Wl_load1 hS (fun _ => by rfl) _ _ rfl (scT _ rfl) ?_; (repeat (first | refine Look.here (of_decide_eq_true rfl) rfl ?_ | refine Look.next ?_)); (with_reducible show wpList _ _ _ _ _ _); simp only [nA])
  | ((with_reducible refine to_alloc 66 rfl ?_); refine Wl_alloc hS (fun _ => by rfl) _ sdZ ?_; clear hS; intro b3 wW hS; simp only [nA])
  | ((with_reducible refine to_alloc 68 rfl ?_); refine Wl_alloc hS (fun _ => by rfl) _ kiZ ?_; clear hS; intro b4 wW hS; simp only [nA])
  | ((with_reducible refine to_store 66 rfl ?_); refine Wl_store hS (fun _ => by rfl) _ _ _ rfl rfl (sdI.trans rfl) (by simp [Value.oneCell']) ?_; (repeat (first | refine Turn.here rfl ?_)); clear hS; intro wW hS; try simp only [nA])
  | ((with_reducible refine to_store 68 rfl ?_); refine Wl_store hS (fun _ => by rfl) _ _ _ rfl rfl (kiI.trans rfl) (by simp [Value.oneCell']) ?_; (repeat (first | refine Turn.here rfl ?_)); clear hS; intro wW hS; try simp only [nA]))
        refine wp_region_held_drew (S := fun W => St w.heap.size 0 0 w [⟨b4, 0, true, #[.int .i64 4, .int .i64 5]⟩, ⟨b3, 0, true, #[.pointer (some ⟨b1, 25, none⟩), .int .i64 d.p.bstep, .int .i64 d.p.btime, .bool true]⟩, ⟨b1, 0, true, ({ d with held := false } : M.Dm).c (.slice A n c)⟩] W) (by kernel_rfl) (hS.drew.sub (by repeat (first | exact List.Sublist.slnil | apply List.Sublist.cons_cons | apply List.Sublist.cons))) ?_
        intro _
        replace hS := hS.drew
        generalize World.drew _ = wX at hS ⊢
        refine wpAnyH_take (i := 0) (v := ?_) rfl (by kernel_rfl) (by kernel_rfl) (by kernel_rfl) (fun _ _ _ h => h) (Or.inl ⟨by rfl, ?_⟩) (hS.sub (by repeat (first | exact List.Sublist.slnil | apply List.Sublist.cons_cons | apply List.Sublist.cons))) ?_
        rotate_left 1
        · intro W hW
          clear hW
          go_simp
          all_goals with_reducible rfl
        try simp only [nR]
        first
          | refine wpAnyH_take (i := 1) rfl (by kernel_rfl) (by kernel_rfl) (by kernel_rfl) (fun _ _ _ h => h) (yields_one (by rfl) _ _ rfl _ _ rfl sc3 _ (fun W hW => hW.cell0 (.head _) rfl)) (hS.sub (by repeat (first | exact List.Sublist.slnil | apply List.Sublist.cons_cons | apply List.Sublist.cons))) ?_
          
        try simp only [nR]
        refine wpAnyH_take (i := 2) (v := ?_) rfl (by kernel_rfl) (by kernel_rfl) (by kernel_rfl) (fun _ _ _ h => h) (Or.inl ⟨by rfl, ?_⟩) (hS.sub (by repeat (first | exact List.Sublist.slnil | apply List.Sublist.cons_cons | apply List.Sublist.cons))) ?_
        rotate_left 1
        · intro W hW
          clear hW
          go_simp
          all_goals with_reducible rfl
        try simp only [nR]
        first
          | refine wpAnyH_take (i := 3) rfl (by kernel_rfl) (by kernel_rfl) (by kernel_rfl) (fun _ _ _ h => h) (yields_one (by rfl) _ _ rfl _ _ rfl scQ _ (fun W hW => hW.cell0 (.tail _ (.head _)) rfl)) (hS.sub (by repeat (first | exact List.Sublist.slnil | apply List.Sublist.cons_cons | apply List.Sublist.cons))) ?_
          
        try simp only [nR]
        refine wpAnyH_take (i := 4) (v := ?_) rfl (by kernel_rfl) (by kernel_rfl) (by kernel_rfl) (fun _ _ _ h => h) (Or.inl ⟨by rfl, ?_⟩) (hS.sub (by repeat (first | exact List.Sublist.slnil | apply List.Sublist.cons_cons | apply List.Sublist.cons))) ?_
        rotate_left 1
        · intro W hW
          clear hW
          go_simp
          all_goals with_reducible rfl
        try simp only [nR]
        first
          | refine wpAnyH_take (i := 5) rfl (by kernel_rfl) (by kernel_rfl) (by kernel_rfl) (fun _ _ _ h => h) (yields_one (by rfl) _ _ rfl _ _ rfl scW _ (fun W hW => hW.cell0 (.tail _ (.tail _ (.head _))) rfl)) (hS.sub (by repeat (first | exact List.Sublist.slnil | apply List.Sublist.cons_cons | apply List.Sublist.cons))) ?_
        try simp only [nR]
        refine wpAnyH_take (i := 6) (v := ?_) rfl (by kernel_rfl) (by kernel_rfl) (by kernel_rfl) (fun _ _ _ h => h) (Or.inl ⟨by rfl, ?_⟩) (hS.sub (by repeat (first | exact List.Sublist.slnil | apply List.Sublist.cons_cons | apply List.Sublist.cons))) ?_
        rotate_left 1
        · intro W hW
          clear hW
          go_simp
          all_goals with_reducible rfl
        try simp only [nR]
        first
          | refine wpAnyH_take (i := 7) rfl (by kernel_rfl) (by kernel_rfl) (by kernel_rfl) (fun _ _ _ h => h) (yields_one (by rfl) _ _ rfl _ _ rfl sc3 _ (fun W hW => hW.cell0 (.tail _ (.head _)) rfl)) (hS.sub (by repeat (first | exact List.Sublist.slnil | apply List.Sublist.cons_cons | apply List.Sublist.cons))) ?_
          
        try simp only [nR]
        refine wpAnyH_take (i := 8) (v := ?_) rfl (by kernel_rfl) (by kernel_rfl) (by kernel_rfl) (fun _ _ _ h => h) (Or.inl ⟨by rfl, ?_⟩) (hS.sub (by repeat (first | exact List.Sublist.slnil | apply List.Sublist.cons_cons | apply List.Sublist.cons))) ?_
        rotate_left 1
        · intro W hW
          clear hW
          go_simp
          all_goals with_reducible rfl
        try simp only [nR]
        refine wpAnyH_ready (rs := [9]) (by kernel_rfl) (by simp) (AllReadyH.cons rfl ?_ AllReadyH.nil)
        intro K1 hK1
        rw [if_pos (by rfl)]
        try simp only [nR]
        refine wp_alloc_st hS _ rfl _ cyZ ?_
        clear hS
        intro bB wW hS
        refine hK1.out _ _ (hS.sub (by repeat (first | exact List.Sublist.slnil | apply List.Sublist.cons_cons | apply List.Sublist.cons))) (fun _ => ?_)
        clear hK1
        try simp only [nR]
        refine wpAnyH_ready (rs := [10]) (by kernel_rfl) (by simp) (AllReadyH.cons rfl ?_ AllReadyH.nil)
        intro K1 hK1
        rw [if_pos (by rfl)]
        try simp only [nR]
        refine wp_store_st hS _ _ _ rfl _ _ _ rfl rfl (cyI.trans rfl) (by simp [Value.oneCell']) ?_
        repeat (first | refine Turn.here rfl ?_)
        clear hS
        intro wW hS
        refine hK1.out _ _ (hS.sub (by repeat (first | exact List.Sublist.slnil | apply List.Sublist.cons_cons | apply List.Sublist.cons))) (fun _ => ?_)
        clear hK1
        try simp only [nR]
        refine wpAnyH_done (by kernel_rfl) ?_ _
        go_wp2_with (first
  | ((with_reducible first | refine to_load 3 rfl ?_ | refine to_load 4 rfl ?_ ); refine Wl_load1 hS (fun _ => by rfl) _ _ rfl (scT _ rfl) ?_; (repeat (first | refine Look.here (of_decide_eq_true rfl) rfl ?_ | refine Look.next ?_)); (with_reducible show wpList _ _ _ _ _ _); simp only [nA])
  | ((with_reducible first | refine to_store 3 rfl ?_ ); (first | refine Wl_store1 hS (fun _ => by rfl) _ _ (.int _ _) rfl rfl (scT _ rfl) rfl rfl ?_); (repeat (first | refine Turn1.here (of_decide_eq_true rfl) (of_decide_eq_true rfl) ?_)); clear hS; intro wW hS; (try simp only [nA]); try simp only [Nat.sub_zero, Nat.add_zero, Nat.zero_add, Nat.reduceSub, Nat.add_sub_cancel_left, dm_ss, List.setIfInBounds_toArray, List.set_cons_zero, List.set_cons_succ] at hS)
  | ((with_reducible refine to_load 32 rfl ?_); refine Wl_load hS (fun _ => by rfl) _ _ rfl _ Try.underlying32 rfl ?_; (repeat (first | (refine Row.here ⟨(cyI.trans rfl), ?_⟩))); (with_reducible show wpList _ _ _ _ _ _); simp only [nA])
  | ((with_reducible refine to_store 32 rfl ?_); refine Wl_store hS (fun _ => by rfl) _ _ _ rfl rfl (cyI.trans rfl) (by simp [Value.oneCell']) ?_; (repeat (first | refine Turn.here rfl ?_ | refine Turn.next ?_)); clear hS; intro wW hS; try simp only [nA]))
        refine ret_st hS rfl _ _ rfl rfl _ Try.underlying32 rfl ?_
        repeat (first | (refine Row.here ⟨cyI.trans rfl, ?_⟩) | refine Row.next ?_)
        exact ⟨by rw [e2.out], hS.below⟩
      · have t0 : (d.p.btime == 0) = false := by simpa using ht
        have e2 := Lib.hid (show M.dNextC { d with held := false } = #[.int .i64 4, .int .u16 d.b, .int .u8 0, .int .i64 d.p.btime] from by simp [M.dNextC, M.dNextK, M.dNextIo, M.dNextA, M.dNextD, M.dNextT, M.dNextT0, hi, hio, ht])
        replace hio := Lib.hid hio
        replace ht := Lib.hid ht
        go_wp2_with (first
  | ((with_reducible first | refine to_load 4 rfl ?_ ); refine Wl_load1 hS (fun _ => by rfl) _ _ rfl (scT _ rfl) ?_; (repeat (first | refine Look.here (of_decide_eq_true rfl) rfl ?_ | refine Look.next ?_)); (with_reducible show wpList _ _ _ _ _ _); simp only [nA])
  | ((with_reducible refine to_alloc 66 rfl ?_); refine Wl_alloc hS (fun _ => by rfl) _ sdZ ?_; clear hS; intro b3 wW hS; simp only [nA])
  | ((with_reducible refine to_alloc 68 rfl ?_); refine Wl_alloc hS (fun _ => by rfl) _ kiZ ?_; clear hS; intro b4 wW hS; simp only [nA])
  | ((with_reducible refine to_store 66 rfl ?_); refine Wl_store hS (fun _ => by rfl) _ _ _ rfl rfl (sdI.trans rfl) (by simp [Value.oneCell']) ?_; (repeat (first | refine Turn.here rfl ?_)); clear hS; intro wW hS; try simp only [nA])
  | ((with_reducible refine to_store 68 rfl ?_); refine Wl_store hS (fun _ => by rfl) _ _ _ rfl rfl (kiI.trans rfl) (by simp [Value.oneCell']) ?_; (repeat (first | refine Turn.here rfl ?_)); clear hS; intro wW hS; try simp only [nA]))
        refine wp_region_held_drew (S := fun W => St w.heap.size 0 0 w [⟨b4, 0, true, #[.int .i64 4, .int .i64 5]⟩, ⟨b3, 0, true, #[.pointer (some ⟨b1, 25, none⟩), .int .i64 d.p.bstep, .int .i64 d.p.btime, .bool true]⟩, ⟨b1, 0, true, ({ d with held := false } : M.Dm).c (.slice A n c)⟩] W) (by kernel_rfl) (hS.drew.sub (by repeat (first | exact List.Sublist.slnil | apply List.Sublist.cons_cons | apply List.Sublist.cons))) ?_
        intro _
        replace hS := hS.drew
        generalize World.drew _ = wX at hS ⊢
        refine wpAnyH_take (i := 0) (v := ?_) rfl (by kernel_rfl) (by kernel_rfl) (by kernel_rfl) (fun _ _ _ h => h) (Or.inl ⟨by rfl, ?_⟩) (hS.sub (by repeat (first | exact List.Sublist.slnil | apply List.Sublist.cons_cons | apply List.Sublist.cons))) ?_
        rotate_left 1
        · intro W hW
          clear hW
          go_simp
          all_goals with_reducible rfl
        try simp only [nR]
        first
          | refine wpAnyH_take (i := 1) rfl (by kernel_rfl) (by kernel_rfl) (by kernel_rfl) (fun _ _ _ h => h) (yields_one (by rfl) _ _ rfl _ _ rfl sc3 _ (fun W hW => hW.cell0 (.head _) rfl)) (hS.sub (by repeat (first | exact List.Sublist.slnil | apply List.Sublist.cons_cons | apply List.Sublist.cons))) ?_
          
        try simp only [nR]
        refine wpAnyH_take (i := 2) (v := ?_) rfl (by kernel_rfl) (by kernel_rfl) (by kernel_rfl) (fun _ _ _ h => h) (Or.inl ⟨by rfl, ?_⟩) (hS.sub (by repeat (first | exact List.Sublist.slnil | apply List.Sublist.cons_cons | apply List.Sublist.cons))) ?_
        rotate_left 1
        · intro W hW
          clear hW
          go_simp
          all_goals with_reducible rfl
        try simp only [nR]
        first
          | refine wpAnyH_take (i := 3) rfl (by kernel_rfl) (by kernel_rfl) (by kernel_rfl) (fun _ _ _ h => h) (yields_one (by rfl) _ _ rfl _ _ rfl scQ _ (fun W hW => hW.cell0 (.tail _ (.head _)) rfl)) (hS.sub (by repeat (first | exact List.Sublist.slnil | apply List.Sublist.cons_cons | apply List.Sublist.cons))) ?_
          
        try simp only [nR]
        refine wpAnyH_take (i := 4) (v := ?_) rfl (by kernel_rfl) (by kernel_rfl) (by kernel_rfl) (fun _ _ _ h => h) (Or.inl ⟨by rfl, ?_⟩) (hS.sub (by repeat (first | exact List.Sublist.slnil | apply List.Sublist.cons_cons | apply List.Sublist.cons))) ?_
        rotate_left 1
        · intro W hW
          clear hW
          go_simp
          all_goals with_reducible rfl
        try simp only [nR]
        first
          | refine wpAnyH_take (i := 5) rfl (by kernel_rfl) (by kernel_rfl) (by kernel_rfl) (fun _ _ _ h => h) (yields_one (by rfl) _ _ rfl _ _ rfl scW _ (fun W hW => hW.cell0 (.tail _ (.tail _ (.head _))) rfl)) (hS.sub (by repeat (first | exact List.Sublist.slnil | apply List.Sublist.cons_cons | apply List.Sublist.cons))) ?_
        try simp only [nR]
        refine wpAnyH_take (i := 6) (v := ?_) rfl (by kernel_rfl) (by kernel_rfl) (by kernel_rfl) (fun _ _ _ h => h) (Or.inl ⟨by rfl, ?_⟩) (hS.sub (by repeat (first | exact List.Sublist.slnil | apply List.Sublist.cons_cons | apply List.Sublist.cons))) ?_
        rotate_left 1
        · intro W hW
          clear hW
          go_simp
          all_goals with_reducible rfl
        try simp only [nR]
        first
          | refine wpAnyH_take (i := 7) rfl (by kernel_rfl) (by kernel_rfl) (by kernel_rfl) (fun _ _ _ h => h) (yields_one (by rfl) _ _ rfl _ _ rfl sc3 _ (fun W hW => hW.cell0 (.tail _ (.head _)) rfl)) (hS.sub (by repeat (first | exact List.Sublist.slnil | apply List.Sublist.cons_cons | apply List.Sublist.cons))) ?_
          
        try simp only [nR]
        refine wpAnyH_take (i := 8) (v := ?_) rfl (by kernel_rfl) (by kernel_rfl) (by kernel_rfl) (fun _ _ _ h => h) (Or.inl ⟨by rfl, ?_⟩) (hS.sub (by repeat (first | exact List.Sublist.slnil | apply List.Sublist.cons_cons | apply List.Sublist.cons))) ?_
        rotate_left 1
        · intro W hW
          clear hW
          go_simp
          all_goals with_reducible rfl
        try simp only [nR]
        refine wpAnyH_ready (rs := [9]) (by kernel_rfl) (by simp) (AllReadyH.cons rfl ?_ AllReadyH.nil)
        intro K1 hK1
        rw [if_pos (by rfl)]
        try simp only [nR]
        refine wp_alloc_st hS _ rfl _ cyZ ?_
        clear hS
        intro bB wW hS
        refine hK1.out _ _ (hS.sub (by repeat (first | exact List.Sublist.slnil | apply List.Sublist.cons_cons | apply List.Sublist.cons))) (fun _ => ?_)
        clear hK1
        try simp only [nR]
        refine wpAnyH_ready (rs := [10]) (by kernel_rfl) (by simp) (AllReadyH.cons rfl ?_ AllReadyH.nil)
        intro K1 hK1
        rw [if_pos (by rfl)]
        try simp only [nR]
        refine wp_store_st hS _ _ _ rfl _ _ _ rfl rfl (cyI.trans rfl) (by simp [Value.oneCell']) ?_
        repeat (first | refine Turn.here rfl ?_)
        clear hS
        intro wW hS
        refine hK1.out _ _ (hS.sub (by repeat (first | exact List.Sublist.slnil | apply List.Sublist.cons_cons | apply List.Sublist.cons))) (fun _ => ?_)
        clear hK1
        try simp only [nR]
        refine wpAnyH_done (by kernel_rfl) ?_ _
        go_wp2_with (first
  | ((with_reducible first | refine to_load 3 rfl ?_ | refine to_load 4 rfl ?_ ); refine Wl_load1 hS (fun _ => by rfl) _ _ rfl (scT _ rfl) ?_; (repeat (first | refine Look.here (of_decide_eq_true rfl) rfl ?_ | refine Look.next ?_)); (with_reducible show wpList _ _ _ _ _ _); simp only [nA])
  | ((with_reducible refine to_load 32 rfl ?_); refine Wl_load hS (fun _ => by rfl) _ _ rfl _ Try.underlying32 rfl ?_; (repeat (first | (refine Row.here ⟨(cyI.trans rfl), ?_⟩))); (with_reducible show wpList _ _ _ _ _ _); simp only [nA])
  | ((with_reducible refine to_store 32 rfl ?_); refine Wl_store hS (fun _ => by rfl) _ _ _ rfl rfl (cyI.trans rfl) (by simp [Value.oneCell']) ?_; (repeat (first | refine Turn.here rfl ?_ | refine Turn.next ?_)); clear hS; intro wW hS; try simp only [nA]))
        refine ret_st hS rfl _ _ rfl rfl _ Try.underlying32 rfl ?_
        repeat (first | (refine Row.here ⟨cyI.trans rfl, ?_⟩) | refine Row.next ?_)
        exact ⟨by rw [e2.out], hS.below⟩
  · have e1 : M.dSideC b1 true { d with held := false } = #[.pointer (some ⟨b1, 24, none⟩), .int .i64 d.p.astep, .int .i64 d.p.atime, .bool d.p.aio] := rfl
    rw [e1]
    clear e1
    cases hio : d.p.aio
    · by_cases ht : d.p.atime = 0
      · have t0 : (d.p.atime == 0) = true := by rw [ht]; rfl
        have e2 := Lib.hid (show M.dNextC { d with held := false } = #[.int .i64 2, .int .u16 d.a, .int .u8 0, .int .i64 3] from by simp [M.dNextC, M.dNextK, M.dNextIo, M.dNextA, M.dNextD, M.dNextT, M.dNextT0, hi, hio, ht])
        replace hio := Lib.hid hio
        replace ht := Lib.hid ht
        go_wp2_with (first
  | ((with_reducible first | refine to_load 4 rfl ?_ ); refine Wl_load1 hS (fun _ => by rfl) _ _ rfl (scT _ rfl) ?_; (repeat (first | refine Look.here (of_decide_eq_true rfl) rfl ?_ | refine Look.next ?_)); (with_reducible show wpList _ _ _ _ _ _); simp only [nA])
  | ((with_reducible refine to_alloc 66 rfl ?_); refine Wl_alloc hS (fun _ => by rfl) _ sdZ ?_; clear hS; intro b3 wW hS; simp only [nA])
  | ((with_reducible refine to_alloc 68 rfl ?_); refine Wl_alloc hS (fun _ => by rfl) _ kiZ ?_; clear hS; intro b4 wW hS; simp only [nA])
  | ((with_reducible refine to_store 66 rfl ?_); refine Wl_store hS (fun _ => by rfl) _ _ _ rfl rfl (sdI.trans rfl) (by simp [Value.oneCell']) ?_; (repeat (first | refine Turn.here rfl ?_)); clear hS; intro wW hS; try simp only [nA])
  | ((with_reducible refine to_store 68 rfl ?_); refine Wl_store hS (fun _ => by rfl) _ _ _ rfl rfl (kiI.trans rfl) (by simp [Value.oneCell']) ?_; (repeat (first | refine Turn.here rfl ?_)); clear hS; intro wW hS; try simp only [nA]))
        refine wp_region_held_drew (S := fun W => St w.heap.size 0 0 w [⟨b4, 0, true, #[.int .i64 2, .int .i64 3]⟩, ⟨b3, 0, true, #[.pointer (some ⟨b1, 24, none⟩), .int .i64 d.p.astep, .int .i64 d.p.atime, .bool false]⟩, ⟨b1, 0, true, ({ d with held := false } : M.Dm).c (.slice A n c)⟩] W) (by kernel_rfl) (hS.drew.sub (by repeat (first | exact List.Sublist.slnil | apply List.Sublist.cons_cons | apply List.Sublist.cons))) ?_
        intro _
        replace hS := hS.drew
        generalize World.drew _ = wX at hS ⊢
        refine wpAnyH_take (i := 0) (v := ?_) rfl (by kernel_rfl) (by kernel_rfl) (by kernel_rfl) (fun _ _ _ h => h) (Or.inl ⟨by rfl, ?_⟩) (hS.sub (by repeat (first | exact List.Sublist.slnil | apply List.Sublist.cons_cons | apply List.Sublist.cons))) ?_
        rotate_left 1
        · intro W hW
          clear hW
          go_simp
          all_goals with_reducible rfl
        try simp only [nR]
        first
          | refine wpAnyH_take (i := 1) rfl (by kernel_rfl) (by kernel_rfl) (by kernel_rfl) (fun _ _ _ h => h) (yields_one (by rfl) _ _ rfl _ _ rfl sc3 _ (fun W hW => hW.cell0 (.head _) rfl)) (hS.sub (by repeat (first | exact List.Sublist.slnil | apply List.Sublist.cons_cons | apply List.Sublist.cons))) ?_
          
        try simp only [nR]
        refine wpAnyH_take (i := 2) (v := ?_) rfl (by kernel_rfl) (by kernel_rfl) (by kernel_rfl) (fun _ _ _ h => h) (Or.inl ⟨by rfl, ?_⟩) (hS.sub (by repeat (first | exact List.Sublist.slnil | apply List.Sublist.cons_cons | apply List.Sublist.cons))) ?_
        rotate_left 1
        · intro W hW
          clear hW
          go_simp
          all_goals with_reducible rfl
        try simp only [nR]
        first
          | refine wpAnyH_take (i := 3) rfl (by kernel_rfl) (by kernel_rfl) (by kernel_rfl) (fun _ _ _ h => h) (yields_one (by rfl) _ _ rfl _ _ rfl scQ _ (fun W hW => hW.cell0 (.tail _ (.head _)) rfl)) (hS.sub (by repeat (first | exact List.Sublist.slnil | apply List.Sublist.cons_cons | apply List.Sublist.cons))) ?_
          
        try simp only [nR]
        refine wpAnyH_take (i := 4) (v := ?_) rfl (by kernel_rfl) (by kernel_rfl) (by kernel_rfl) (fun _ _ _ h => h) (Or.inl ⟨by rfl, ?_⟩) (hS.sub (by repeat (first | exact List.Sublist.slnil | apply List.Sublist.cons_cons | apply List.Sublist.cons))) ?_
        rotate_left 1
        · intro W hW
          clear hW
          go_simp
          all_goals with_reducible rfl
        try simp only [nR]
        first
          | refine wpAnyH_take (i := 5) rfl (by kernel_rfl) (by kernel_rfl) (by kernel_rfl) (fun _ _ _ h => h) (yields_one (by rfl) _ _ rfl _ _ rfl scW _ (fun W hW => hW.cell0 (.tail _ (.tail _ (.head _))) rfl)) (hS.sub (by repeat (first | exact List.Sublist.slnil | apply List.Sublist.cons_cons | apply List.Sublist.cons))) ?_
        try simp only [nR]
        refine wpAnyH_take (i := 6) (v := ?_) rfl (by kernel_rfl) (by kernel_rfl) (by kernel_rfl) (fun _ _ _ h => h) (Or.inl ⟨by rfl, ?_⟩) (hS.sub (by repeat (first | exact List.Sublist.slnil | apply List.Sublist.cons_cons | apply List.Sublist.cons))) ?_
        rotate_left 1
        · intro W hW
          clear hW
          go_simp
          all_goals with_reducible rfl
        try simp only [nR]
        first
          | refine wpAnyH_take (i := 7) rfl (by kernel_rfl) (by kernel_rfl) (by kernel_rfl) (fun _ _ _ h => h) (yields_one (by rfl) _ _ rfl _ _ rfl sc3 _ (fun W hW => hW.cell0 (.tail _ (.head _)) rfl)) (hS.sub (by repeat (first | exact List.Sublist.slnil | apply List.Sublist.cons_cons | apply List.Sublist.cons))) ?_
          
        try simp only [nR]
        refine wpAnyH_take (i := 8) (v := ?_) rfl (by kernel_rfl) (by kernel_rfl) (by kernel_rfl) (fun _ _ _ h => h) (Or.inl ⟨by rfl, ?_⟩) (hS.sub (by repeat (first | exact List.Sublist.slnil | apply List.Sublist.cons_cons | apply List.Sublist.cons))) ?_
        rotate_left 1
        · intro W hW
          clear hW
          go_simp
          all_goals with_reducible rfl
        try simp only [nR]
        refine wpAnyH_ready (rs := [9]) (by kernel_rfl) (by simp) (AllReadyH.cons rfl ?_ AllReadyH.nil)
        intro K1 hK1
        rw [if_pos (by rfl)]
        try simp only [nR]
        refine wp_alloc_st hS _ rfl _ cyZ ?_
        clear hS
        intro bB wW hS
        refine hK1.out _ _ (hS.sub (by repeat (first | exact List.Sublist.slnil | apply List.Sublist.cons_cons | apply List.Sublist.cons))) (fun _ => ?_)
        clear hK1
        try simp only [nR]
        refine wpAnyH_ready (rs := [10]) (by kernel_rfl) (by simp) (AllReadyH.cons rfl ?_ AllReadyH.nil)
        intro K1 hK1
        rw [if_pos (by rfl)]
        try simp only [nR]
        refine wp_store_st hS _ _ _ rfl _ _ _ rfl rfl (cyI.trans rfl) (by simp [Value.oneCell']) ?_
        repeat (first | refine Turn.here rfl ?_)
        clear hS
        intro wW hS
        refine hK1.out _ _ (hS.sub (by repeat (first | exact List.Sublist.slnil | apply List.Sublist.cons_cons | apply List.Sublist.cons))) (fun _ => ?_)
        clear hK1
        try simp only [nR]
        refine wpAnyH_done (by kernel_rfl) ?_ _
        go_wp2_with (first
  | ((with_reducible first | refine to_load 3 rfl ?_ | refine to_load 4 rfl ?_ ); refine Wl_load1 hS (fun _ => by rfl) _ _ rfl (scT _ rfl) ?_; (repeat (first | refine Look.here (of_decide_eq_true rfl) rfl ?_ | refine Look.next ?_)); (with_reducible show wpList _ _ _ _ _ _); simp only [nA])
  | ((with_reducible first | refine to_store 3 rfl ?_ ); (first | refine Wl_store1 hS (fun _ => by rfl) _ _ (.int _ _) rfl rfl (scT _ rfl) rfl rfl ?_); (repeat (first | refine Turn1.here (of_decide_eq_true rfl) (of_decide_eq_true rfl) ?_)); clear hS; intro wW hS; (try simp only [nA]); try simp only [Nat.sub_zero, Nat.add_zero, Nat.zero_add, Nat.reduceSub, Nat.add_sub_cancel_left, dm_ss, List.setIfInBounds_toArray, List.set_cons_zero, List.set_cons_succ] at hS)
  | ((with_reducible refine to_load 32 rfl ?_); refine Wl_load hS (fun _ => by rfl) _ _ rfl _ Try.underlying32 rfl ?_; (repeat (first | (refine Row.here ⟨(cyI.trans rfl), ?_⟩))); (with_reducible show wpList _ _ _ _ _ _); simp only [nA])
  | ((with_reducible refine to_store 32 rfl ?_); refine Wl_store hS (fun _ => by rfl) _ _ _ rfl rfl (cyI.trans rfl) (by simp [Value.oneCell']) ?_; (repeat (first | refine Turn.here rfl ?_ | refine Turn.next ?_)); clear hS; intro wW hS; try simp only [nA]))
        refine ret_st hS rfl _ _ rfl rfl _ Try.underlying32 rfl ?_
        repeat (first | (refine Row.here ⟨cyI.trans rfl, ?_⟩) | refine Row.next ?_)
        exact ⟨by rw [e2.out], hS.below⟩
      · have t0 : (d.p.atime == 0) = false := by simpa using ht
        have e2 := Lib.hid (show M.dNextC { d with held := false } = #[.int .i64 2, .int .u16 d.a, .int .u8 0, .int .i64 d.p.atime] from by simp [M.dNextC, M.dNextK, M.dNextIo, M.dNextA, M.dNextD, M.dNextT, M.dNextT0, hi, hio, ht])
        replace hio := Lib.hid hio
        replace ht := Lib.hid ht
        go_wp2_with (first
  | ((with_reducible first | refine to_load 4 rfl ?_ ); refine Wl_load1 hS (fun _ => by rfl) _ _ rfl (scT _ rfl) ?_; (repeat (first | refine Look.here (of_decide_eq_true rfl) rfl ?_ | refine Look.next ?_)); (with_reducible show wpList _ _ _ _ _ _); simp only [nA])
  | ((with_reducible refine to_alloc 66 rfl ?_); refine Wl_alloc hS (fun _ => by rfl) _ sdZ ?_; clear hS; intro b3 wW hS; simp only [nA])
  | ((with_reducible refine to_alloc 68 rfl ?_); refine Wl_alloc hS (fun _ => by rfl) _ kiZ ?_; clear hS; intro b4 wW hS; simp only [nA])
  | ((with_reducible refine to_store 66 rfl ?_); refine Wl_store hS (fun _ => by rfl) _ _ _ rfl rfl (sdI.trans rfl) (by simp [Value.oneCell']) ?_; (repeat (first | refine Turn.here rfl ?_)); clear hS; intro wW hS; try simp only [nA])
  | ((with_reducible refine to_store 68 rfl ?_); refine Wl_store hS (fun _ => by rfl) _ _ _ rfl rfl (kiI.trans rfl) (by simp [Value.oneCell']) ?_; (repeat (first | refine Turn.here rfl ?_)); clear hS; intro wW hS; try simp only [nA]))
        refine wp_region_held_drew (S := fun W => St w.heap.size 0 0 w [⟨b4, 0, true, #[.int .i64 2, .int .i64 3]⟩, ⟨b3, 0, true, #[.pointer (some ⟨b1, 24, none⟩), .int .i64 d.p.astep, .int .i64 d.p.atime, .bool false]⟩, ⟨b1, 0, true, ({ d with held := false } : M.Dm).c (.slice A n c)⟩] W) (by kernel_rfl) (hS.drew.sub (by repeat (first | exact List.Sublist.slnil | apply List.Sublist.cons_cons | apply List.Sublist.cons))) ?_
        intro _
        replace hS := hS.drew
        generalize World.drew _ = wX at hS ⊢
        refine wpAnyH_take (i := 0) (v := ?_) rfl (by kernel_rfl) (by kernel_rfl) (by kernel_rfl) (fun _ _ _ h => h) (Or.inl ⟨by rfl, ?_⟩) (hS.sub (by repeat (first | exact List.Sublist.slnil | apply List.Sublist.cons_cons | apply List.Sublist.cons))) ?_
        rotate_left 1
        · intro W hW
          clear hW
          go_simp
          all_goals with_reducible rfl
        try simp only [nR]
        first
          | refine wpAnyH_take (i := 1) rfl (by kernel_rfl) (by kernel_rfl) (by kernel_rfl) (fun _ _ _ h => h) (yields_one (by rfl) _ _ rfl _ _ rfl sc3 _ (fun W hW => hW.cell0 (.head _) rfl)) (hS.sub (by repeat (first | exact List.Sublist.slnil | apply List.Sublist.cons_cons | apply List.Sublist.cons))) ?_
          
        try simp only [nR]
        refine wpAnyH_take (i := 2) (v := ?_) rfl (by kernel_rfl) (by kernel_rfl) (by kernel_rfl) (fun _ _ _ h => h) (Or.inl ⟨by rfl, ?_⟩) (hS.sub (by repeat (first | exact List.Sublist.slnil | apply List.Sublist.cons_cons | apply List.Sublist.cons))) ?_
        rotate_left 1
        · intro W hW
          clear hW
          go_simp
          all_goals with_reducible rfl
        try simp only [nR]
        first
          | refine wpAnyH_take (i := 3) rfl (by kernel_rfl) (by kernel_rfl) (by kernel_rfl) (fun _ _ _ h => h) (yields_one (by rfl) _ _ rfl _ _ rfl scQ _ (fun W hW => hW.cell0 (.tail _ (.head _)) rfl)) (hS.sub (by repeat (first | exact List.Sublist.slnil | apply List.Sublist.cons_cons | apply List.Sublist.cons))) ?_
          
        try simp only [nR]
        refine wpAnyH_take (i := 4) (v := ?_) rfl (by kernel_rfl) (by kernel_rfl) (by kernel_rfl) (fun _ _ _ h => h) (Or.inl ⟨by rfl, ?_⟩) (hS.sub (by repeat (first | exact List.Sublist.slnil | apply List.Sublist.cons_cons | apply List.Sublist.cons))) ?_
        rotate_left 1
        · intro W hW
          clear hW
          go_simp
          all_goals with_reducible rfl
        try simp only [nR]
        first
          | refine wpAnyH_take (i := 5) rfl (by kernel_rfl) (by kernel_rfl) (by kernel_rfl) (fun _ _ _ h => h) (yields_one (by rfl) _ _ rfl _ _ rfl scW _ (fun W hW => hW.cell0 (.tail _ (.tail _ (.head _))) rfl)) (hS.sub (by repeat (first | exact List.Sublist.slnil | apply List.Sublist.cons_cons | apply List.Sublist.cons))) ?_
        try simp only [nR]
        refine wpAnyH_take (i := 6) (v := ?_) rfl (by kernel_rfl) (by kernel_rfl) (by kernel_rfl) (fun _ _ _ h => h) (Or.inl ⟨by rfl, ?_⟩) (hS.sub (by repeat (first | exact List.Sublist.slnil | apply List.Sublist.cons_cons | apply List.Sublist.cons))) ?_
        rotate_left 1
        · intro W hW
          clear hW
          go_simp
          all_goals with_reducible rfl
        try simp only [nR]
        first
          | refine wpAnyH_take (i := 7) rfl (by kernel_rfl) (by kernel_rfl) (by kernel_rfl) (fun _ _ _ h => h) (yields_one (by rfl) _ _ rfl _ _ rfl sc3 _ (fun W hW => hW.cell0 (.tail _ (.head _)) rfl)) (hS.sub (by repeat (first | exact List.Sublist.slnil | apply List.Sublist.cons_cons | apply List.Sublist.cons))) ?_
          
        try simp only [nR]
        refine wpAnyH_take (i := 8) (v := ?_) rfl (by kernel_rfl) (by kernel_rfl) (by kernel_rfl) (fun _ _ _ h => h) (Or.inl ⟨by rfl, ?_⟩) (hS.sub (by repeat (first | exact List.Sublist.slnil | apply List.Sublist.cons_cons | apply List.Sublist.cons))) ?_
        rotate_left 1
        · intro W hW
          clear hW
          go_simp
          all_goals with_reducible rfl
        try simp only [nR]
        refine wpAnyH_ready (rs := [9]) (by kernel_rfl) (by simp) (AllReadyH.cons rfl ?_ AllReadyH.nil)
        intro K1 hK1
        rw [if_pos (by rfl)]
        try simp only [nR]
        refine wp_alloc_st hS _ rfl _ cyZ ?_
        clear hS
        intro bB wW hS
        refine hK1.out _ _ (hS.sub (by repeat (first | exact List.Sublist.slnil | apply List.Sublist.cons_cons | apply List.Sublist.cons))) (fun _ => ?_)
        clear hK1
        try simp only [nR]
        refine wpAnyH_ready (rs := [10]) (by kernel_rfl) (by simp) (AllReadyH.cons rfl ?_ AllReadyH.nil)
        intro K1 hK1
        rw [if_pos (by rfl)]
        try simp only [nR]
        refine wp_store_st hS _ _ _ rfl _ _ _ rfl rfl (cyI.trans rfl) (by simp [Value.oneCell']) ?_
        repeat (first | refine Turn.here rfl ?_)
        clear hS
        intro wW hS
        refine hK1.out _ _ (hS.sub (by repeat (first | exact List.Sublist.slnil | apply List.Sublist.cons_cons | apply List.Sublist.cons))) (fun _ => ?_)
        clear hK1
        try simp only [nR]
        refine wpAnyH_done (by kernel_rfl) ?_ _
        go_wp2_with (first
  | ((with_reducible first | refine to_load 3 rfl ?_ | refine to_load 4 rfl ?_ ); refine Wl_load1 hS (fun _ => by rfl) _ _ rfl (scT _ rfl) ?_; (repeat (first | refine Look.here (of_decide_eq_true rfl) rfl ?_ | refine Look.next ?_)); (with_reducible show wpList _ _ _ _ _ _); simp only [nA])
  | ((with_reducible refine to_load 32 rfl ?_); refine Wl_load hS (fun _ => by rfl) _ _ rfl _ Try.underlying32 rfl ?_; (repeat (first | (refine Row.here ⟨(cyI.trans rfl), ?_⟩))); (with_reducible show wpList _ _ _ _ _ _); simp only [nA])
  | ((with_reducible refine to_store 32 rfl ?_); refine Wl_store hS (fun _ => by rfl) _ _ _ rfl rfl (cyI.trans rfl) (by simp [Value.oneCell']) ?_; (repeat (first | refine Turn.here rfl ?_ | refine Turn.next ?_)); clear hS; intro wW hS; try simp only [nA]))
        refine ret_st hS rfl _ _ rfl rfl _ Try.underlying32 rfl ?_
        repeat (first | (refine Row.here ⟨cyI.trans rfl, ?_⟩) | refine Row.next ?_)
        exact ⟨by rw [e2.out], hS.below⟩
    · by_cases ht : d.p.atime = 0
      · have t0 : (d.p.atime == 0) = true := by rw [ht]; rfl
        have e2 := Lib.hid (show M.dNextC { d with held := false } = #[.int .i64 4, .int .u16 d.a, .int .u8 0, .int .i64 4] from by simp [M.dNextC, M.dNextK, M.dNextIo, M.dNextA, M.dNextD, M.dNextT, M.dNextT0, hi, hio, ht])
        replace hio := Lib.hid hio
        replace ht := Lib.hid ht
        go_wp2_with (first
  | ((with_reducible first | refine to_load 4 rfl ?_ ); refine Wl_load1 hS (fun _ => by rfl) _ _ rfl (scT _ rfl) ?_; (repeat (first | refine Look.here (of_decide_eq_true rfl) rfl ?_ | refine Look.next ?_)); (with_reducible show wpList _ _ _ _ _ _); simp only [nA])
  | ((with_reducible refine to_alloc 66 rfl ?_); refine Wl_alloc hS (fun _ => by rfl) _ sdZ ?_; clear hS; intro b3 wW hS; simp only [nA])
  | ((with_reducible refine to_alloc 68 rfl ?_); refine Wl_alloc hS (fun _ => by rfl) _ kiZ ?_; clear hS; intro b4 wW hS; simp only [nA])
  | ((with_reducible refine to_store 66 rfl ?_); refine Wl_store hS (fun _ => by rfl) _ _ _ rfl rfl (sdI.trans rfl) (by simp [Value.oneCell']) ?_; (repeat (first | refine Turn.here rfl ?_)); clear hS; intro wW hS; try simp only [nA])
  | ((with_reducible refine to_store 68 rfl ?_); refine Wl_store hS (fun _ => by rfl) _ _ _ rfl rfl (kiI.trans rfl) (by simp [Value.oneCell']) ?_; (repeat (first | refine Turn.here rfl ?_)); clear hS; intro wW hS; try simp only [nA]))
        refine wp_region_held_drew (S := fun W => St w.heap.size 0 0 w [⟨b4, 0, true, #[.int .i64 4, .int .i64 5]⟩, ⟨b3, 0, true, #[.pointer (some ⟨b1, 24, none⟩), .int .i64 d.p.astep, .int .i64 d.p.atime, .bool true]⟩, ⟨b1, 0, true, ({ d with held := false } : M.Dm).c (.slice A n c)⟩] W) (by kernel_rfl) (hS.drew.sub (by repeat (first | exact List.Sublist.slnil | apply List.Sublist.cons_cons | apply List.Sublist.cons))) ?_
        intro _
        replace hS := hS.drew
        generalize World.drew _ = wX at hS ⊢
        refine wpAnyH_take (i := 0) (v := ?_) rfl (by kernel_rfl) (by kernel_rfl) (by kernel_rfl) (fun _ _ _ h => h) (Or.inl ⟨by rfl, ?_⟩) (hS.sub (by repeat (first | exact List.Sublist.slnil | apply List.Sublist.cons_cons | apply List.Sublist.cons))) ?_
        rotate_left 1
        · intro W hW
          clear hW
          go_simp
          all_goals with_reducible rfl
        try simp only [nR]
        first
          | refine wpAnyH_take (i := 1) rfl (by kernel_rfl) (by kernel_rfl) (by kernel_rfl) (fun _ _ _ h => h) (yields_one (by rfl) _ _ rfl _ _ rfl sc3 _ (fun W hW => hW.cell0 (.head _) rfl)) (hS.sub (by repeat (first | exact List.Sublist.slnil | apply List.Sublist.cons_cons | apply List.Sublist.cons))) ?_
          
        try simp only [nR]
        refine wpAnyH_take (i := 2) (v := ?_) rfl (by kernel_rfl) (by kernel_rfl) (by kernel_rfl) (fun _ _ _ h => h) (Or.inl ⟨by rfl, ?_⟩) (hS.sub (by repeat (first | exact List.Sublist.slnil | apply List.Sublist.cons_cons | apply List.Sublist.cons))) ?_
        rotate_left 1
        · intro W hW
          clear hW
          go_simp
          all_goals with_reducible rfl
        try simp only [nR]
        first
          | refine wpAnyH_take (i := 3) rfl (by kernel_rfl) (by kernel_rfl) (by kernel_rfl) (fun _ _ _ h => h) (yields_one (by rfl) _ _ rfl _ _ rfl scQ _ (fun W hW => hW.cell0 (.tail _ (.head _)) rfl)) (hS.sub (by repeat (first | exact List.Sublist.slnil | apply List.Sublist.cons_cons | apply List.Sublist.cons))) ?_
          
        try simp only [nR]
        refine wpAnyH_take (i := 4) (v := ?_) rfl (by kernel_rfl) (by kernel_rfl) (by kernel_rfl) (fun _ _ _ h => h) (Or.inl ⟨by rfl, ?_⟩) (hS.sub (by repeat (first | exact List.Sublist.slnil | apply List.Sublist.cons_cons | apply List.Sublist.cons))) ?_
        rotate_left 1
        · intro W hW
          clear hW
          go_simp
          all_goals with_reducible rfl
        try simp only [nR]
        first
          | refine wpAnyH_take (i := 5) rfl (by kernel_rfl) (by kernel_rfl) (by kernel_rfl) (fun _ _ _ h => h) (yields_one (by rfl) _ _ rfl _ _ rfl scW _ (fun W hW => hW.cell0 (.tail _ (.tail _ (.head _))) rfl)) (hS.sub (by repeat (first | exact List.Sublist.slnil | apply List.Sublist.cons_cons | apply List.Sublist.cons))) ?_
        try simp only [nR]
        refine wpAnyH_take (i := 6) (v := ?_) rfl (by kernel_rfl) (by kernel_rfl) (by kernel_rfl) (fun _ _ _ h => h) (Or.inl ⟨by rfl, ?_⟩) (hS.sub (by repeat (first | exact List.Sublist.slnil | apply List.Sublist.cons_cons | apply List.Sublist.cons))) ?_
        rotate_left 1
        · intro W hW
          clear hW
          go_simp
          all_goals with_reducible rfl
        try simp only [nR]
        first
          | refine wpAnyH_take (i := 7) rfl (by kernel_rfl) (by kernel_rfl) (by kernel_rfl) (fun _ _ _ h => h) (yields_one (by rfl) _ _ rfl _ _ rfl sc3 _ (fun W hW => hW.cell0 (.tail _ (.head _)) rfl)) (hS.sub (by repeat (first | exact List.Sublist.slnil | apply List.Sublist.cons_cons | apply List.Sublist.cons))) ?_
          
        try simp only [nR]
        refine wpAnyH_take (i := 8) (v := ?_) rfl (by kernel_rfl) (by kernel_rfl) (by kernel_rfl) (fun _ _ _ h => h) (Or.inl ⟨by rfl, ?_⟩) (hS.sub (by repeat (first | exact List.Sublist.slnil | apply List.Sublist.cons_cons | apply List.Sublist.cons))) ?_
        rotate_left 1
        · intro W hW
          clear hW
          go_simp
          all_goals with_reducible rfl
        try simp only [nR]
        refine wpAnyH_ready (rs := [9]) (by kernel_rfl) (by simp) (AllReadyH.cons rfl ?_ AllReadyH.nil)
        intro K1 hK1
        rw [if_pos (by rfl)]
        try simp only [nR]
        refine wp_alloc_st hS _ rfl _ cyZ ?_
        clear hS
        intro bB wW hS
        refine hK1.out _ _ (hS.sub (by repeat (first | exact List.Sublist.slnil | apply List.Sublist.cons_cons | apply List.Sublist.cons))) (fun _ => ?_)
        clear hK1
        try simp only [nR]
        refine wpAnyH_ready (rs := [10]) (by kernel_rfl) (by simp) (AllReadyH.cons rfl ?_ AllReadyH.nil)
        intro K1 hK1
        rw [if_pos (by rfl)]
        try simp only [nR]
        refine wp_store_st hS _ _ _ rfl _ _ _ rfl rfl (cyI.trans rfl) (by simp [Value.oneCell']) ?_
        repeat (first | refine Turn.here rfl ?_)
        clear hS
        intro wW hS
        refine hK1.out _ _ (hS.sub (by repeat (first | exact List.Sublist.slnil | apply List.Sublist.cons_cons | apply List.Sublist.cons))) (fun _ => ?_)
        clear hK1
        try simp only [nR]
        refine wpAnyH_done (by kernel_rfl) ?_ _
        go_wp2_with (first
  | ((with_reducible first | refine to_load 3 rfl ?_ | refine to_load 4 rfl ?_ ); refine Wl_load1 hS (fun _ => by rfl) _ _ rfl (scT _ rfl) ?_; (repeat (first | refine Look.here (of_decide_eq_true rfl) rfl ?_ | refine Look.next ?_)); (with_reducible show wpList _ _ _ _ _ _); simp only [nA])
  | ((with_reducible first | refine to_store 3 rfl ?_ ); (first | refine Wl_store1 hS (fun _ => by rfl) _ _ (.int _ _) rfl rfl (scT _ rfl) rfl rfl ?_); (repeat (first | refine Turn1.here (of_decide_eq_true rfl) (of_decide_eq_true rfl) ?_)); clear hS; intro wW hS; (try simp only [nA]); try simp only [Nat.sub_zero, Nat.add_zero, Nat.zero_add, Nat.reduceSub, Nat.add_sub_cancel_left, dm_ss, List.setIfInBounds_toArray, List.set_cons_zero, List.set_cons_succ] at hS)
  | ((with_reducible refine to_load 32 rfl ?_); refine Wl_load hS (fun _ => by rfl) _ _ rfl _ Try.underlying32 rfl ?_; (repeat (first | (refine Row.here ⟨(cyI.trans rfl), ?_⟩))); (with_reducible show wpList _ _ _ _ _ _); simp only [nA])
  | ((with_reducible refine to_store 32 rfl ?_); refine Wl_store hS (fun _ => by rfl) _ _ _ rfl rfl (cyI.trans rfl) (by simp [Value.oneCell']) ?_; (repeat (first | refine Turn.here rfl ?_ | refine Turn.next ?_)); clear hS; intro wW hS; try simp only [nA]))
        refine ret_st hS rfl _ _ rfl rfl _ Try.underlying32 rfl ?_
        repeat (first | (refine Row.here ⟨cyI.trans rfl, ?_⟩) | refine Row.next ?_)
        exact ⟨by rw [e2.out], hS.below⟩
      · have t0 : (d.p.atime == 0) = false := by simpa using ht
        have e2 := Lib.hid (show M.dNextC { d with held := false } = #[.int .i64 4, .int .u16 d.a, .int .u8 0, .int .i64 d.p.atime] from by simp [M.dNextC, M.dNextK, M.dNextIo, M.dNextA, M.dNextD, M.dNextT, M.dNextT0, hi, hio, ht])
        replace hio := Lib.hid hio
        replace ht := Lib.hid ht
        go_wp2_with (first
  | ((with_reducible first | refine to_load 4 rfl ?_ ); refine Wl_load1 hS (fun _ => by rfl) _ _ rfl (scT _ rfl) ?_; (repeat (first | refine Look.here (of_decide_eq_true rfl) rfl ?_ | refine Look.next ?_)); (with_reducible show wpList _ _ _ _ _ _); simp only [nA])
  | ((with_reducible refine to_alloc 66 rfl ?_); refine Wl_alloc hS (fun _ => by rfl) _ sdZ ?_; clear hS; intro b3 wW hS; simp only [nA])
  | ((with_reducible refine to_alloc 68 rfl ?_); refine Wl_alloc hS (fun _ => by rfl) _ kiZ ?_; clear hS; intro b4 wW hS; simp only [nA])
  | ((with_reducible refine to_store 66 rfl ?_); refine Wl_store hS (fun _ => by rfl) _ _ _ rfl rfl (sdI.trans rfl) (by simp [Value.oneCell']) ?_; (repeat (first | refine Turn.here rfl ?_)); clear hS; intro wW hS; try simp only [nA])
  | ((with_reducible refine to_store 68 rfl ?_); refine Wl_store hS (fun _ => by rfl) _ _ _ rfl rfl (kiI.trans rfl) (by simp [Value.oneCell']) ?_; (repeat (first | refine Turn.here rfl ?_)); clear hS; intro wW hS; try simp only [nA]))
        refine wp_region_held_drew (S := fun W => St w.heap.size 0 0 w [⟨b4, 0, true, #[.int .i64 4, .int .i64 5]⟩, ⟨b3, 0, true, #[.pointer (some ⟨b1, 24, none⟩), .int .i64 d.p.astep, .int .i64 d.p.atime, .bool true]⟩, ⟨b1, 0, true, ({ d with held := false } : M.Dm).c (.slice A n c)⟩] W) (by kernel_rfl) (hS.drew.sub (by repeat (first | exact List.Sublist.slnil | apply List.Sublist.cons_cons | apply List.Sublist.cons))) ?_
        intro _
        replace hS := hS.drew
        generalize World.drew _ = wX at hS ⊢
        refine wpAnyH_take (i := 0) (v := ?_) rfl (by kernel_rfl) (by kernel_rfl) (by kernel_rfl) (fun _ _ _ h => h) (Or.inl ⟨by rfl, ?_⟩) (hS.sub (by repeat (first | exact List.Sublist.slnil | apply List.Sublist.cons_cons | apply List.Sublist.cons))) ?_
        rotate_left 1
        · intro W hW
          clear hW
          go_simp
          all_goals with_reducible rfl
        try simp only [nR]
        first
          | refine wpAnyH_take (i := 1) rfl (by kernel_rfl) (by kernel_rfl) (by kernel_rfl) (fun _ _ _ h => h) (yields_one (by rfl) _ _ rfl _ _ rfl sc3 _ (fun W hW => hW.cell0 (.head _) rfl)) (hS.sub (by repeat (first | exact List.Sublist.slnil | apply List.Sublist.cons_cons | apply List.Sublist.cons))) ?_
          
        try simp only [nR]
        refine wpAnyH_take (i := 2) (v := ?_) rfl (by kernel_rfl) (by kernel_rfl) (by kernel_rfl) (fun _ _ _ h => h) (Or.inl ⟨by rfl, ?_⟩) (hS.sub (by repeat (first | exact List.Sublist.slnil | apply List.Sublist.cons_cons | apply List.Sublist.cons))) ?_
        rotate_left 1
        · intro W hW
          clear hW
          go_simp
          all_goals with_reducible rfl
        try simp only [nR]
        first
          | refine wpAnyH_take (i := 3) rfl (by kernel_rfl) (by kernel_rfl) (by kernel_rfl) (fun _ _ _ h => h) (yields_one (by rfl) _ _ rfl _ _ rfl scQ _ (fun W hW => hW.cell0 (.tail _ (.head _)) rfl)) (hS.sub (by repeat (first | exact List.Sublist.slnil | apply List.Sublist.cons_cons | apply List.Sublist.cons))) ?_
          
        try simp only [nR]
        refine wpAnyH_take (i := 4) (v := ?_) rfl (by kernel_rfl) (by kernel_rfl) (by kernel_rfl) (fun _ _ _ h => h) (Or.inl ⟨by rfl, ?_⟩) (hS.sub (by repeat (first | exact List.Sublist.slnil | apply List.Sublist.cons_cons | apply List.Sublist.cons))) ?_
        rotate_left 1
        · intro W hW
          clear hW
          go_simp
          all_goals with_reducible rfl
        try simp only [nR]
        first
          | refine wpAnyH_take (i := 5) rfl (by kernel_rfl) (by kernel_rfl) (by kernel_rfl) (fun _ _ _ h => h) (yields_one (by rfl) _ _ rfl _ _ rfl scW _ (fun W hW => hW.cell0 (.tail _ (.tail _ (.head _))) rfl)) (hS.sub (by repeat (first | exact List.Sublist.slnil | apply List.Sublist.cons_cons | apply List.Sublist.cons))) ?_
        try simp only [nR]
        refine wpAnyH_take (i := 6) (v := ?_) rfl (by kernel_rfl) (by kernel_rfl) (by kernel_rfl) (fun _ _ _ h => h) (Or.inl ⟨by rfl, ?_⟩) (hS.sub (by repeat (first | exact List.Sublist.slnil | apply List.Sublist.cons_cons | apply List.Sublist.cons))) ?_
        rotate_left 1
        · intro W hW
          clear hW
          go_simp
          all_goals with_reducible rfl
        try simp only [nR]
        first
          | refine wpAnyH_take (i := 7) rfl (by kernel_rfl) (by kernel_rfl) (by kernel_rfl) (fun _ _ _ h => h) (yields_one (by rfl) _ _ rfl _ _ rfl sc3 _ (fun W hW => hW.cell0 (.tail _ (.head _)) rfl)) (hS.sub (by repeat (first | exact List.Sublist.slnil | apply List.Sublist.cons_cons | apply List.Sublist.cons))) ?_
          
        try simp only [nR]
        refine wpAnyH_take (i := 8) (v := ?_) rfl (by kernel_rfl) (by kernel_rfl) (by kernel_rfl) (fun _ _ _ h => h) (Or.inl ⟨by rfl, ?_⟩) (hS.sub (by repeat (first | exact List.Sublist.slnil | apply List.Sublist.cons_cons | apply List.Sublist.cons))) ?_
        rotate_left 1
        · intro W hW
          clear hW
          go_simp
          all_goals with_reducible rfl
        try simp only [nR]
        refine wpAnyH_ready (rs := [9]) (by kernel_rfl) (by simp) (AllReadyH.cons rfl ?_ AllReadyH.nil)
        intro K1 hK1
        rw [if_pos (by rfl)]
        try simp only [nR]
        refine wp_alloc_st hS _ rfl _ cyZ ?_
        clear hS
        intro bB wW hS
        refine hK1.out _ _ (hS.sub (by repeat (first | exact List.Sublist.slnil | apply List.Sublist.cons_cons | apply List.Sublist.cons))) (fun _ => ?_)
        clear hK1
        try simp only [nR]
        refine wpAnyH_ready (rs := [10]) (by kernel_rfl) (by simp) (AllReadyH.cons rfl ?_ AllReadyH.nil)
        intro K1 hK1
        rw [if_pos (by rfl)]
        try simp only [nR]
        refine wp_store_st hS _ _ _ rfl _ _ _ rfl rfl (cyI.trans rfl) (by simp [Value.oneCell']) ?_
        repeat (first | refine Turn.here rfl ?_)
        clear hS
        intro wW hS
        refine hK1.out _ _ (hS.sub (by repeat (first | exact List.Sublist.slnil | apply List.Sublist.cons_cons | apply List.Sublist.cons))) (fun _ => ?_)
        clear hK1
        try simp only [nR]
        refine wpAnyH_done (by kernel_rfl) ?_ _
        go_wp2_with (first
  | ((with_reducible first | refine to_load 3 rfl ?_ | refine to_load 4 rfl ?_ ); refine Wl_load1 hS (fun _ => by rfl) _ _ rfl (scT _ rfl) ?_; (repeat (first | refine Look.here (of_decide_eq_true rfl) rfl ?_ | refine Look.next ?_)); (with_reducible show wpList _ _ _ _ _ _); simp only [nA])
  | ((with_reducible refine to_load 32 rfl ?_); refine Wl_load hS (fun _ => by rfl) _ _ rfl _ Try.underlying32 rfl ?_; (repeat (first | (refine Row.here ⟨(cyI.trans rfl), ?_⟩))); (with_reducible show wpList _ _ _ _ _ _); simp only [nA])
  | ((with_reducible refine to_store 32 rfl ?_); refine Wl_store hS (fun _ => by rfl) _ _ _ rfl rfl (cyI.trans rfl) (by simp [Value.oneCell']) ?_; (repeat (first | refine Turn.here rfl ?_ | refine Turn.next ?_)); clear hS; intro wW hS; try simp only [nA]))
        refine ret_st hS rfl _ _ rfl rfl _ Try.underlying32 rfl ?_
        repeat (first | (refine Row.here ⟨cyI.trans rfl, ?_⟩) | refine Row.next ?_)
        exact ⟨by rw [e2.out], hS.below⟩
end Go.Proofs.Ytkkkjdbcckaedaa
