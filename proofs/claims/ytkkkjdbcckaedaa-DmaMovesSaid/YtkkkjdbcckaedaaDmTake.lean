/- Take of a DMA (dma): the byte of an access. -/
import Derived.Test.YtkkkjdbcckaedaaDmNow
import Derived.Test.YtkkkjdbcckaedaaRgClo
namespace Go.Proofs.Ytkkkjdbcckaedaa
open Go.RowKit
set_option linter.unusedVariables false
set_option linter.unusedSimpArgs false
set_option maxRecDepth 100000
theorem M.wrap_step (x y : Int) : IntKind.u16.wrap (x + IntKind.u16.wrap y) = (x + y) % 65536 := by
  show (x + y % 65536) % 65536 = _
  omega
theorem M.dTake_is (d : M.Dm) (b : Int) (x : M.Dm) (hx : x = M.dMove d (M.dIsA d)) : M.dTake d b = if x.held = true then M.dFinish { x with held := false } else if x.p.cls = 2 then M.dFinish (M.dFound { x with hold := b, ran := true } b) else { M.dFound { x with hold := b, ran := true } b with held := true } := by
  subst hx
  obtain ⟨p, a1, b1, left, held, hold, forced, done, matched, ran, pending, ask⟩ := d
  cases held <;> cases h : p.atob <;> simp [M.dTake, M.dMove, M.dIsA, h]
theorem M.dMove_same (d : M.Dm) (i : Bool) : (M.dMove d i).left = d.left := by cases i <;> rfl
theorem M.dFound_same (d : M.Dm) (b : Int) : (M.dFound d b).left = d.left ∧ (M.dFound d b).p = d.p := by unfold M.dFound; split <;> exact ⟨rfl, rfl⟩
set_option maxHeartbeats 8000000 in
theorem dmtake_any (d : M.Dm) (hd : d.ok) (hl : -9223372036854775807 ≤ d.left) (A : Option Addr) (n c : Nat) (b : Int) (h0 : 0 ≤ b) (h1 : b ≤ 255) (w : World) : Calls Try.prog 13 #[.agg (d.c (.slice A n c)), .int .u8 b] w fun e w' => e = .returned (.agg ((M.dTake d b).c (.slice A n c))) ∧ Below w.heap.size w w' := by
  have hS := St.start w.heap.size 0 0 w
  obtain ⟨i, hi⟩ : ∃ i, M.dIsA d = i := ⟨_, rfl⟩
  go_enter Try.func13, Try.ntmps13
  go_wp2_with (first
  | ((with_reducible refine to_boxT 29 rfl ?_); refine Wl_box hS (fun _ => by rfl) _ rfl ?_; clear hS; intro b1 wW hS; simp only [nA])
  | ((with_reducible refine to_alloc 29 rfl ?_); refine Wl_alloc hS (fun _ => by rfl) _ dmZ ?_; clear hS; intro b2 wW hS; simp only [nA])
  )
  refine (dnow_any b1 d hd _ _ (hS.dmAt (.tail _ (.head _))) i hi).mono ?_
  rintro e w1 ⟨rfl, hr, ht⟩
  replace hS := hS.callT (.tail _ (.head _ _ _ _ _)) hr ht rfl
  clear hr ht
  cases i
  · have e1 : M.dSideC b1 false d = #[.pointer (some ⟨b1, 25, none⟩), .int .i64 d.p.bstep, .int .i64 d.p.btime, .bool d.p.bio] := rfl
    rw [e1]
    clear e1
    go_wp2_with (first
  | ((with_reducible refine to_alloc 66 rfl ?_); refine Wl_alloc hS (fun _ => by rfl) _ sdZ ?_; clear hS; intro b3 wW hS; simp only [nA])
  | ((with_reducible refine to_store 66 rfl ?_); refine Wl_store hS (fun _ => by rfl) _ _ _ rfl rfl (sdI.trans rfl) (by simp [Value.oneCell']) ?_; (repeat (first | refine Turn.here rfl ?_)); clear hS; intro wW hS; try simp only [nA]))
    refine wpG_start (g := 9) (S1 := fun W => St w.heap.size 0 0 w [⟨b3, 0, true, #[.pointer (some ⟨b1, 25, none⟩), .int .i64 d.p.bstep, .int .i64 d.p.btime, .bool d.p.bio]⟩, ⟨b1, 0, true, d.c (.slice A n c)⟩] W) (S2 := fun W => St w.heap.size 0 0 w [] W) (by kernel_rfl) (hS.drew.sub (by repeat (first | exact List.Sublist.slnil | apply List.Sublist.cons_cons | apply List.Sublist.cons))) ?_
    intro _
    replace hS := hS.drew
    generalize World.drew _ = wX at hS ⊢
    refine wpG_take (i := 0) (v := ?_) (fun W h => (h.sub (by repeat (first | exact List.Sublist.slnil | apply List.Sublist.cons)))) rfl (by kernel_rfl) (by kernel_rfl) (by kernel_rfl) (fun _ _ _ h => h) (by decide) (Or.inl ⟨by rfl, ?_⟩) (hS.sub (by repeat (first | exact List.Sublist.slnil | apply List.Sublist.cons_cons | apply List.Sublist.cons))) ?_
    rotate_left 1
    · intro W hW
      clear hW
      go_simp
      all_goals with_reducible rfl
    try simp only [nR]
    first
      | refine wpG_load (i := 1) rfl (by kernel_rfl) (by kernel_rfl) (by kernel_rfl) (fun _ _ _ h => h) (by decide) (by kernel_rfl) (yields_one (by rfl) _ _ rfl _ _ rfl scQ _ (fun W hW => hW.cell0 (.head _) rfl)) (hS.sub (by repeat (first | exact List.Sublist.slnil | apply List.Sublist.cons_cons | apply List.Sublist.cons))) ?_
    try simp only [nR]
    refine wpG_take (i := 2) (v := ?_) (fun W h => (h.sub (by repeat (first | exact List.Sublist.slnil | apply List.Sublist.cons)))) rfl (by kernel_rfl) (by kernel_rfl) (by kernel_rfl) (fun _ _ _ h => h) (by decide) (Or.inl ⟨by rfl, ?_⟩) (hS.sub (by repeat (first | exact List.Sublist.slnil | apply List.Sublist.cons_cons | apply List.Sublist.cons))) ?_
    rotate_left 1
    · intro W hW
      clear hW
      go_simp
      all_goals with_reducible rfl
    try simp only [nR]
    first
      | refine wpG_load (i := 3) rfl (by kernel_rfl) (by kernel_rfl) (by kernel_rfl) (fun _ _ _ h => h) (by decide) (by kernel_rfl) (yields_one (by rfl) _ _ rfl _ _ rfl scW _ (fun W hW => hW.cell0 (.tail _ (.head _)) rfl)) (hS.sub (by repeat (first | exact List.Sublist.slnil | apply List.Sublist.cons_cons | apply List.Sublist.cons))) ?_
    try simp only [nR]
    refine wpG_take (i := 4) (v := ?_) (fun W h => (h.sub (by repeat (first | exact List.Sublist.slnil | apply List.Sublist.cons)))) rfl (by kernel_rfl) (by kernel_rfl) (by kernel_rfl) (fun _ _ _ h => h) (by decide) (Or.inl ⟨by rfl, ?_⟩) (hS.sub (by repeat (first | exact List.Sublist.slnil | apply List.Sublist.cons_cons | apply List.Sublist.cons))) ?_
    rotate_left 1
    · intro W hW
      clear hW
      go_simp
      all_goals with_reducible rfl
    try simp only [nR]
    first
      | refine wpG_load (i := 5) rfl (by kernel_rfl) (by kernel_rfl) (by kernel_rfl) (fun _ _ _ h => h) (by decide) (by kernel_rfl) (yields_one (by rfl) _ _ rfl _ _ rfl sc3 _ (fun W hW => hW.cell0 (.head _) rfl)) (hS.sub (by repeat (first | exact List.Sublist.slnil | apply List.Sublist.cons_cons | apply List.Sublist.cons))) ?_
    try simp only [nR]
    refine wpG_take (i := 6) (v := ?_) (fun W h => (h.sub (by repeat (first | exact List.Sublist.slnil | apply List.Sublist.cons)))) rfl (by kernel_rfl) (by kernel_rfl) (by kernel_rfl) (fun _ _ _ h => h) (by decide) (Or.inl ⟨by rfl, ?_⟩) (hS.sub (by repeat (first | exact List.Sublist.slnil | apply List.Sublist.cons_cons | apply List.Sublist.cons))) ?_
    rotate_left 1
    · intro W hW
      clear hW
      go_simp
      all_goals with_reducible rfl
    try simp only [nR]
    refine wpG_take (i := 7) (v := ?_) (fun W h => (h.sub (by repeat (first | exact List.Sublist.slnil | apply List.Sublist.cons)))) rfl (by kernel_rfl) (by kernel_rfl) (by kernel_rfl) (fun _ _ _ h => h) (by decide) (Or.inl ⟨by rfl, ?_⟩) (hS.sub (by repeat (first | exact List.Sublist.slnil | apply List.Sublist.cons_cons | apply List.Sublist.cons))) ?_
    rotate_left 1
    · intro W hW
      clear hW
      go_simp
      all_goals with_reducible rfl
    try simp only [nR]
    refine wpG_take (i := 8) (v := ?_) (fun W h => (h.sub (by repeat (first | exact List.Sublist.slnil | apply List.Sublist.cons)))) rfl (by kernel_rfl) (by kernel_rfl) (by kernel_rfl) (fun _ _ _ h => h) (by decide) (Or.inl ⟨by rfl, ?_⟩) (hS.sub (by repeat (first | exact List.Sublist.slnil | apply List.Sublist.cons_cons | apply List.Sublist.cons))) ?_
    rotate_left 1
    · intro W hW
      clear hW
      go_simp
      all_goals with_reducible rfl
    try simp only [nR]
    refine wpG_gate (i := 9) (by kernel_rfl) rfl ?_
    intro K1 hK1
    rw [if_pos (by rfl)]
    try simp only [nR]
    refine wp_store1_sc hS _ _ _ rfl _ _ (.int _ _) rfl rfl scW rfl rfl ?_
    repeat (first | refine Turn1.here (of_decide_eq_true rfl) (of_decide_eq_true rfl) ?_ | refine Turn1.next ?_)
    clear hS
    intro wW hS
    try simp only [Nat.sub_zero, Nat.add_zero, Nat.zero_add, Nat.reduceSub, Nat.add_sub_cancel_left, dm_ss] at hS
    refine hK1.out _ _ (hS.sub (by repeat (first | exact List.Sublist.slnil | apply List.Sublist.cons))) (fun _ => ?_)
    clear hK1
    try simp only [nR]
    refine wpAnyH_done (by kernel_rfl) ?_ _
    have e2 : ({ d with b := IntKind.u16.wrap (d.b + IntKind.u16.wrap d.p.bstep) } : M.Dm) = M.dMove d false := by rw [M.wrap_step]; rfl
    rw [e2] at hS
    clear e2
    obtain ⟨x, hx⟩ : ∃ x, x = M.dMove d false := ⟨_, rfl⟩
    have hT := Lib.hid (M.dTake_is d b x (by rw [hx, hi]))
    have hok : x.ok := by rw [hx]; exact M.dMove_ok hd false
    have hlx : -9223372036854775807 ≤ x.left := by rw [hx, M.dMove_same]; exact hl
    rw [← hx] at hS
    clear hx hi hl hd
    cases hh : x.held
    · have ex : x = { x with held := false } := by rw [← hh]
      have hT0 := hT.out
      rw [hh, if_neg (by decide)] at hT0
      replace hT := Lib.hid hT0
      rw [ex] at hS
      clear ex hh hT0
      have ho1 : ({ x with held := false, hold := b, ran := true } : M.Dm).ok := ⟨hok.p, hok.a, hok.b, hok.left, ⟨h0, h1⟩, hok.ask⟩
      have hs := M.dFound_same { x with held := false, hold := b, ran := true } b
      have ho2 := M.dFound_ok ho1 b
      go_wp2_with (first
  | ((with_reducible first | refine to_load 4 rfl ?_ ); refine Wl_load1 hS (fun _ => by rfl) _ _ rfl (scT _ rfl) ?_; (repeat (first | refine Look.here (of_decide_eq_true rfl) rfl ?_ | refine Look.next ?_)); (with_reducible show wpList _ _ _ _ _ _); simp only [nA])
  | ((with_reducible first | refine to_store 4 rfl ?_ | refine to_store 5 rfl ?_); (first | refine Wl_store1 hS (fun _ => by rfl) _ _ (.int _ _) rfl rfl (scT _ rfl) rfl rfl ?_ | refine Wl_store1 hS (fun _ => by rfl) _ _ (.bool _) rfl rfl (scT _ rfl) rfl rfl ?_); (repeat (first | refine Turn1.here (of_decide_eq_true rfl) (of_decide_eq_true rfl) ?_ | refine Turn1.next ?_)); clear hS; intro wW hS; (try simp only [nA]); try simp only [Nat.sub_zero, Nat.add_zero, Nat.zero_add, Nat.reduceSub, Nat.add_sub_cancel_left, dm_ss] at hS)
  )
      refine (dfound_any b1 _ ho1 _ _ (hS.dmAt (.tail _ (.tail _ (.head _)))) b h0 h1).mono ?_
      rintro e w1 ⟨rfl, hr, ht⟩
      replace hS := hS.callT (.tail _ (.tail _ (.head _ _ _ _ _))) hr ht rfl
      clear hr ht
      obtain ⟨y, hy⟩ : ∃ y, y = M.dFound { x with held := false, hold := b, ran := true } b := ⟨_, rfl⟩
      rw [← hy] at hS hs ho2
      have hT2 := hT.out
      rw [← hy] at hT2
      clear hT hy ho1
      have hcl : x.p.cls = y.p.cls := by rw [hs.2]
      have hly : -9223372036854775807 ≤ y.left := by rw [hs.1]; exact hlx
      rw [hcl] at hT2
      clear hs hcl hlx
      by_cases hc : y.p.cls = 2
      · have t0 : (y.p.cls == 2) = true := by rw [hc]; rfl
        rw [if_pos hc] at hT2
        have hT := Lib.hid hT2
        clear hT2 hc
        go_wp2_with (first
  | ((with_reducible first | refine to_load 3 rfl ?_ ); refine Wl_load1 hS (fun _ => by rfl) _ _ rfl (scT _ rfl) ?_; (repeat (first | refine Look.here (of_decide_eq_true rfl) rfl ?_ | refine Look.next ?_)); (with_reducible show wpList _ _ _ _ _ _); simp only [nA])
  )
        refine (dfinish_any b1 y ho2 hly _ _ (hS.dmAt (.tail _ (.tail _ (.head _))))).mono ?_
        rintro e w1 ⟨rfl, hr, ht⟩
        replace hS := hS.callT (.tail _ (.tail _ (.head _ _ _ _ _))) hr ht rfl
        clear hr ht
        go_wp2_with (first
  | ((with_reducible refine to_load 29 rfl ?_); refine Wl_load hS (fun _ => by rfl) _ _ rfl _ Try.underlying29 rfl ?_; (repeat (first | (refine Row.here ⟨(dmI.trans rfl), ?_⟩) | refine Row.next ?_)); (with_reducible show wpList _ _ _ _ _ _); simp only [nA])
  | ((with_reducible refine to_store 29 rfl ?_); refine Wl_store hS (fun _ => by rfl) _ _ _ rfl rfl (dmI.trans rfl) (dm_one _ _ _ _) ?_; (repeat (first | refine Turn.here rfl ?_ | refine Turn.next ?_)); clear hS; intro wW hS; try simp only [nA]))
        refine ret_st hS rfl _ _ rfl rfl _ Try.underlying29 rfl ?_
        repeat (first | (refine Row.here ⟨dmI.trans rfl, ?_⟩) | refine Row.next ?_)
        have e1 := hT.out
        skip
        exact ⟨by rw [e1], hS.below⟩
      · have t0 : (y.p.cls == 2) = false := by simpa using hc
        rw [if_neg hc] at hT2
        have hT := Lib.hid hT2
        clear hT2 hc
        go_wp2_with (first
  | ((with_reducible first | refine to_load 3 rfl ?_ ); refine Wl_load1 hS (fun _ => by rfl) _ _ rfl (scT _ rfl) ?_; (repeat (first | refine Look.here (of_decide_eq_true rfl) rfl ?_ | refine Look.next ?_)); (with_reducible show wpList _ _ _ _ _ _); simp only [nA])
  | ((with_reducible first | refine to_store 4 rfl ?_ ); (first | refine Wl_store1 hS (fun _ => by rfl) _ _ (.bool _) rfl rfl (scT _ rfl) rfl rfl ?_); (repeat (first | refine Turn1.here (of_decide_eq_true rfl) (of_decide_eq_true rfl) ?_ | refine Turn1.next ?_)); clear hS; intro wW hS; (try simp only [nA]); try simp only [Nat.sub_zero, Nat.add_zero, Nat.zero_add, Nat.reduceSub, Nat.add_sub_cancel_left, dm_ss] at hS)
  | ((with_reducible refine to_load 29 rfl ?_); refine Wl_load hS (fun _ => by rfl) _ _ rfl _ Try.underlying29 rfl ?_; (repeat (first | (refine Row.here ⟨(dmI.trans rfl), ?_⟩) | refine Row.next ?_)); (with_reducible show wpList _ _ _ _ _ _); simp only [nA])
  | ((with_reducible refine to_store 29 rfl ?_); refine Wl_store hS (fun _ => by rfl) _ _ _ rfl rfl (dmI.trans rfl) (dm_one _ _ _ _) ?_; (repeat (first | refine Turn.here rfl ?_ | refine Turn.next ?_)); clear hS; intro wW hS; try simp only [nA]))
        refine ret_st hS rfl _ _ rfl rfl _ Try.underlying29 rfl ?_
        repeat (first | (refine Row.here ⟨dmI.trans rfl, ?_⟩) | refine Row.next ?_)
        exact ⟨by rw [hT.out], hS.below⟩
    · have ho1 : ({ x with held := false } : M.Dm).ok := ⟨hok.p, hok.a, hok.b, hok.left, hok.hold, hok.ask⟩
      have hT2 := hT.out
      rw [hh, if_pos rfl] at hT2
      have ex : x = { x with held := true } := by rw [← hh]
      rw [ex] at hS
      replace hT := Lib.hid hT2
      clear hT2 hh ex
      go_wp2_with (first
  | ((with_reducible first | refine to_load 4 rfl ?_ ); refine Wl_load1 hS (fun _ => by rfl) _ _ rfl (scT _ rfl) ?_; (repeat (first | refine Look.here (of_decide_eq_true rfl) rfl ?_ | refine Look.next ?_)); (with_reducible show wpList _ _ _ _ _ _); simp only [nA])
  | ((with_reducible first | refine to_store 4 rfl ?_ ); (first | refine Wl_store1 hS (fun _ => by rfl) _ _ (.bool _) rfl rfl (scT _ rfl) rfl rfl ?_); (repeat (first | refine Turn1.here (of_decide_eq_true rfl) (of_decide_eq_true rfl) ?_ | refine Turn1.next ?_)); clear hS; intro wW hS; (try simp only [nA]); try simp only [Nat.sub_zero, Nat.add_zero, Nat.zero_add, Nat.reduceSub, Nat.add_sub_cancel_left, dm_ss] at hS)
  )
      refine (dfinish_any b1 _ ho1 hlx _ _ (hS.dmAt (.tail _ (.tail _ (.head _))))).mono ?_
      rintro e w1 ⟨rfl, hr, ht⟩
      replace hS := hS.callT (.tail _ (.tail _ (.head _ _ _ _ _))) hr ht rfl
      clear hr ht
      go_wp2_with (first
  | ((with_reducible refine to_load 29 rfl ?_); refine Wl_load hS (fun _ => by rfl) _ _ rfl _ Try.underlying29 rfl ?_; (repeat (first | (refine Row.here ⟨(dmI.trans rfl), ?_⟩) | refine Row.next ?_)); (with_reducible show wpList _ _ _ _ _ _); simp only [nA])
  | ((with_reducible refine to_store 29 rfl ?_); refine Wl_store hS (fun _ => by rfl) _ _ _ rfl rfl (dmI.trans rfl) (dm_one _ _ _ _) ?_; (repeat (first | refine Turn.here rfl ?_ | refine Turn.next ?_)); clear hS; intro wW hS; try simp only [nA]))
      refine ret_st hS rfl _ _ rfl rfl _ Try.underlying29 rfl ?_
      repeat (first | (refine Row.here ⟨dmI.trans rfl, ?_⟩) | refine Row.next ?_)
      have e1 := hT.out
      skip
      exact ⟨by rw [e1], hS.below⟩
  · have e1 : M.dSideC b1 true d = #[.pointer (some ⟨b1, 24, none⟩), .int .i64 d.p.astep, .int .i64 d.p.atime, .bool d.p.aio] := rfl
    rw [e1]
    clear e1
    go_wp2_with (first
  | ((with_reducible refine to_alloc 66 rfl ?_); refine Wl_alloc hS (fun _ => by rfl) _ sdZ ?_; clear hS; intro b3 wW hS; simp only [nA])
  | ((with_reducible refine to_store 66 rfl ?_); refine Wl_store hS (fun _ => by rfl) _ _ _ rfl rfl (sdI.trans rfl) (by simp [Value.oneCell']) ?_; (repeat (first | refine Turn.here rfl ?_)); clear hS; intro wW hS; try simp only [nA]))
    refine wpG_start (g := 9) (S1 := fun W => St w.heap.size 0 0 w [⟨b3, 0, true, #[.pointer (some ⟨b1, 24, none⟩), .int .i64 d.p.astep, .int .i64 d.p.atime, .bool d.p.aio]⟩, ⟨b1, 0, true, d.c (.slice A n c)⟩] W) (S2 := fun W => St w.heap.size 0 0 w [] W) (by kernel_rfl) (hS.drew.sub (by repeat (first | exact List.Sublist.slnil | apply List.Sublist.cons_cons | apply List.Sublist.cons))) ?_
    intro _
    replace hS := hS.drew
    generalize World.drew _ = wX at hS ⊢
    refine wpG_take (i := 0) (v := ?_) (fun W h => (h.sub (by repeat (first | exact List.Sublist.slnil | apply List.Sublist.cons)))) rfl (by kernel_rfl) (by kernel_rfl) (by kernel_rfl) (fun _ _ _ h => h) (by decide) (Or.inl ⟨by rfl, ?_⟩) (hS.sub (by repeat (first | exact List.Sublist.slnil | apply List.Sublist.cons_cons | apply List.Sublist.cons))) ?_
    rotate_left 1
    · intro W hW
      clear hW
      go_simp
      all_goals with_reducible rfl
    try simp only [nR]
    first
      | refine wpG_load (i := 1) rfl (by kernel_rfl) (by kernel_rfl) (by kernel_rfl) (fun _ _ _ h => h) (by decide) (by kernel_rfl) (yields_one (by rfl) _ _ rfl _ _ rfl scQ _ (fun W hW => hW.cell0 (.head _) rfl)) (hS.sub (by repeat (first | exact List.Sublist.slnil | apply List.Sublist.cons_cons | apply List.Sublist.cons))) ?_
    try simp only [nR]
    refine wpG_take (i := 2) (v := ?_) (fun W h => (h.sub (by repeat (first | exact List.Sublist.slnil | apply List.Sublist.cons)))) rfl (by kernel_rfl) (by kernel_rfl) (by kernel_rfl) (fun _ _ _ h => h) (by decide) (Or.inl ⟨by rfl, ?_⟩) (hS.sub (by repeat (first | exact List.Sublist.slnil | apply List.Sublist.cons_cons | apply List.Sublist.cons))) ?_
    rotate_left 1
    · intro W hW
      clear hW
      go_simp
      all_goals with_reducible rfl
    try simp only [nR]
    first
      | refine wpG_load (i := 3) rfl (by kernel_rfl) (by kernel_rfl) (by kernel_rfl) (fun _ _ _ h => h) (by decide) (by kernel_rfl) (yields_one (by rfl) _ _ rfl _ _ rfl scW _ (fun W hW => hW.cell0 (.tail _ (.head _)) rfl)) (hS.sub (by repeat (first | exact List.Sublist.slnil | apply List.Sublist.cons_cons | apply List.Sublist.cons))) ?_
    try simp only [nR]
    refine wpG_take (i := 4) (v := ?_) (fun W h => (h.sub (by repeat (first | exact List.Sublist.slnil | apply List.Sublist.cons)))) rfl (by kernel_rfl) (by kernel_rfl) (by kernel_rfl) (fun _ _ _ h => h) (by decide) (Or.inl ⟨by rfl, ?_⟩) (hS.sub (by repeat (first | exact List.Sublist.slnil | apply List.Sublist.cons_cons | apply List.Sublist.cons))) ?_
    rotate_left 1
    · intro W hW
      clear hW
      go_simp
      all_goals with_reducible rfl
    try simp only [nR]
    first
      | refine wpG_load (i := 5) rfl (by kernel_rfl) (by kernel_rfl) (by kernel_rfl) (fun _ _ _ h => h) (by decide) (by kernel_rfl) (yields_one (by rfl) _ _ rfl _ _ rfl sc3 _ (fun W hW => hW.cell0 (.head _) rfl)) (hS.sub (by repeat (first | exact List.Sublist.slnil | apply List.Sublist.cons_cons | apply List.Sublist.cons))) ?_
    try simp only [nR]
    refine wpG_take (i := 6) (v := ?_) (fun W h => (h.sub (by repeat (first | exact List.Sublist.slnil | apply List.Sublist.cons)))) rfl (by kernel_rfl) (by kernel_rfl) (by kernel_rfl) (fun _ _ _ h => h) (by decide) (Or.inl ⟨by rfl, ?_⟩) (hS.sub (by repeat (first | exact List.Sublist.slnil | apply List.Sublist.cons_cons | apply List.Sublist.cons))) ?_
    rotate_left 1
    · intro W hW
      clear hW
      go_simp
      all_goals with_reducible rfl
    try simp only [nR]
    refine wpG_take (i := 7) (v := ?_) (fun W h => (h.sub (by repeat (first | exact List.Sublist.slnil | apply List.Sublist.cons)))) rfl (by kernel_rfl) (by kernel_rfl) (by kernel_rfl) (fun _ _ _ h => h) (by decide) (Or.inl ⟨by rfl, ?_⟩) (hS.sub (by repeat (first | exact List.Sublist.slnil | apply List.Sublist.cons_cons | apply List.Sublist.cons))) ?_
    rotate_left 1
    · intro W hW
      clear hW
      go_simp
      all_goals with_reducible rfl
    try simp only [nR]
    refine wpG_take (i := 8) (v := ?_) (fun W h => (h.sub (by repeat (first | exact List.Sublist.slnil | apply List.Sublist.cons)))) rfl (by kernel_rfl) (by kernel_rfl) (by kernel_rfl) (fun _ _ _ h => h) (by decide) (Or.inl ⟨by rfl, ?_⟩) (hS.sub (by repeat (first | exact List.Sublist.slnil | apply List.Sublist.cons_cons | apply List.Sublist.cons))) ?_
    rotate_left 1
    · intro W hW
      clear hW
      go_simp
      all_goals with_reducible rfl
    try simp only [nR]
    refine wpG_gate (i := 9) (by kernel_rfl) rfl ?_
    intro K1 hK1
    rw [if_pos (by rfl)]
    try simp only [nR]
    refine wp_store1_sc hS _ _ _ rfl _ _ (.int _ _) rfl rfl scW rfl rfl ?_
    repeat (first | refine Turn1.here (of_decide_eq_true rfl) (of_decide_eq_true rfl) ?_ | refine Turn1.next ?_)
    clear hS
    intro wW hS
    try simp only [Nat.sub_zero, Nat.add_zero, Nat.zero_add, Nat.reduceSub, Nat.add_sub_cancel_left, dm_ss] at hS
    refine hK1.out _ _ (hS.sub (by repeat (first | exact List.Sublist.slnil | apply List.Sublist.cons))) (fun _ => ?_)
    clear hK1
    try simp only [nR]
    refine wpAnyH_done (by kernel_rfl) ?_ _
    have e2 : ({ d with a := IntKind.u16.wrap (d.a + IntKind.u16.wrap d.p.astep) } : M.Dm) = M.dMove d true := by rw [M.wrap_step]; rfl
    rw [e2] at hS
    clear e2
    obtain ⟨x, hx⟩ : ∃ x, x = M.dMove d true := ⟨_, rfl⟩
    have hT := Lib.hid (M.dTake_is d b x (by rw [hx, hi]))
    have hok : x.ok := by rw [hx]; exact M.dMove_ok hd true
    have hlx : -9223372036854775807 ≤ x.left := by rw [hx, M.dMove_same]; exact hl
    rw [← hx] at hS
    clear hx hi hl hd
    cases hh : x.held
    · have ex : x = { x with held := false } := by rw [← hh]
      have hT0 := hT.out
      rw [hh, if_neg (by decide)] at hT0
      replace hT := Lib.hid hT0
      rw [ex] at hS
      clear ex hh hT0
      have ho1 : ({ x with held := false, hold := b, ran := true } : M.Dm).ok := ⟨hok.p, hok.a, hok.b, hok.left, ⟨h0, h1⟩, hok.ask⟩
      have hs := M.dFound_same { x with held := false, hold := b, ran := true } b
      have ho2 := M.dFound_ok ho1 b
      go_wp2_with (first
  | ((with_reducible first | refine to_load 4 rfl ?_ ); refine Wl_load1 hS (fun _ => by rfl) _ _ rfl (scT _ rfl) ?_; (repeat (first | refine Look.here (of_decide_eq_true rfl) rfl ?_ | refine Look.next ?_)); (with_reducible show wpList _ _ _ _ _ _); simp only [nA])
  | ((with_reducible first | refine to_store 4 rfl ?_ | refine to_store 5 rfl ?_); (first | refine Wl_store1 hS (fun _ => by rfl) _ _ (.int _ _) rfl rfl (scT _ rfl) rfl rfl ?_ | refine Wl_store1 hS (fun _ => by rfl) _ _ (.bool _) rfl rfl (scT _ rfl) rfl rfl ?_); (repeat (first | refine Turn1.here (of_decide_eq_true rfl) (of_decide_eq_true rfl) ?_ | refine Turn1.next ?_)); clear hS; intro wW hS; (try simp only [nA]); try simp only [Nat.sub_zero, Nat.add_zero, Nat.zero_add, Nat.reduceSub, Nat.add_sub_cancel_left, dm_ss] at hS)
  )
      refine (dfound_any b1 _ ho1 _ _ (hS.dmAt (.tail _ (.tail _ (.head _)))) b h0 h1).mono ?_
      rintro e w1 ⟨rfl, hr, ht⟩
      replace hS := hS.callT (.tail _ (.tail _ (.head _ _ _ _ _))) hr ht rfl
      clear hr ht
      obtain ⟨y, hy⟩ : ∃ y, y = M.dFound { x with held := false, hold := b, ran := true } b := ⟨_, rfl⟩
      rw [← hy] at hS hs ho2
      have hT2 := hT.out
      rw [← hy] at hT2
      clear hT hy ho1
      have hcl : x.p.cls = y.p.cls := by rw [hs.2]
      have hly : -9223372036854775807 ≤ y.left := by rw [hs.1]; exact hlx
      rw [hcl] at hT2
      clear hs hcl hlx
      by_cases hc : y.p.cls = 2
      · have t0 : (y.p.cls == 2) = true := by rw [hc]; rfl
        rw [if_pos hc] at hT2
        have hT := Lib.hid hT2
        clear hT2 hc
        go_wp2_with (first
  | ((with_reducible first | refine to_load 3 rfl ?_ ); refine Wl_load1 hS (fun _ => by rfl) _ _ rfl (scT _ rfl) ?_; (repeat (first | refine Look.here (of_decide_eq_true rfl) rfl ?_ | refine Look.next ?_)); (with_reducible show wpList _ _ _ _ _ _); simp only [nA])
  )
        refine (dfinish_any b1 y ho2 hly _ _ (hS.dmAt (.tail _ (.tail _ (.head _))))).mono ?_
        rintro e w1 ⟨rfl, hr, ht⟩
        replace hS := hS.callT (.tail _ (.tail _ (.head _ _ _ _ _))) hr ht rfl
        clear hr ht
        go_wp2_with (first
  | ((with_reducible refine to_load 29 rfl ?_); refine Wl_load hS (fun _ => by rfl) _ _ rfl _ Try.underlying29 rfl ?_; (repeat (first | (refine Row.here ⟨(dmI.trans rfl), ?_⟩) | refine Row.next ?_)); (with_reducible show wpList _ _ _ _ _ _); simp only [nA])
  | ((with_reducible refine to_store 29 rfl ?_); refine Wl_store hS (fun _ => by rfl) _ _ _ rfl rfl (dmI.trans rfl) (dm_one _ _ _ _) ?_; (repeat (first | refine Turn.here rfl ?_ | refine Turn.next ?_)); clear hS; intro wW hS; try simp only [nA]))
        refine ret_st hS rfl _ _ rfl rfl _ Try.underlying29 rfl ?_
        repeat (first | (refine Row.here ⟨dmI.trans rfl, ?_⟩) | refine Row.next ?_)
        have e1 := hT.out
        skip
        exact ⟨by rw [e1], hS.below⟩
      · have t0 : (y.p.cls == 2) = false := by simpa using hc
        rw [if_neg hc] at hT2
        have hT := Lib.hid hT2
        clear hT2 hc
        go_wp2_with (first
  | ((with_reducible first | refine to_load 3 rfl ?_ ); refine Wl_load1 hS (fun _ => by rfl) _ _ rfl (scT _ rfl) ?_; (repeat (first | refine Look.here (of_decide_eq_true rfl) rfl ?_ | refine Look.next ?_)); (with_reducible show wpList _ _ _ _ _ _); simp only [nA])
  | ((with_reducible first | refine to_store 4 rfl ?_ ); (first | refine Wl_store1 hS (fun _ => by rfl) _ _ (.bool _) rfl rfl (scT _ rfl) rfl rfl ?_); (repeat (first | refine Turn1.here (of_decide_eq_true rfl) (of_decide_eq_true rfl) ?_ | refine Turn1.next ?_)); clear hS; intro wW hS; (try simp only [nA]); try simp only [Nat.sub_zero, Nat.add_zero, Nat.zero_add, Nat.reduceSub, Nat.add_sub_cancel_left, dm_ss] at hS)
  | ((with_reducible refine to_load 29 rfl ?_); refine Wl_load hS (fun _ => by rfl) _ _ rfl _ Try.underlying29 rfl ?_; (repeat (first | (refine Row.here ⟨(dmI.trans rfl), ?_⟩) | refine Row.next ?_)); (with_reducible show wpList _ _ _ _ _ _); simp only [nA])
  | ((with_reducible refine to_store 29 rfl ?_); refine Wl_store hS (fun _ => by rfl) _ _ _ rfl rfl (dmI.trans rfl) (dm_one _ _ _ _) ?_; (repeat (first | refine Turn.here rfl ?_ | refine Turn.next ?_)); clear hS; intro wW hS; try simp only [nA]))
        refine ret_st hS rfl _ _ rfl rfl _ Try.underlying29 rfl ?_
        repeat (first | (refine Row.here ⟨dmI.trans rfl, ?_⟩) | refine Row.next ?_)
        exact ⟨by rw [hT.out], hS.below⟩
    · have ho1 : ({ x with held := false } : M.Dm).ok := ⟨hok.p, hok.a, hok.b, hok.left, hok.hold, hok.ask⟩
      have hT2 := hT.out
      rw [hh, if_pos rfl] at hT2
      have ex : x = { x with held := true } := by rw [← hh]
      rw [ex] at hS
      replace hT := Lib.hid hT2
      clear hT2 hh ex
      go_wp2_with (first
  | ((with_reducible first | refine to_load 4 rfl ?_ ); refine Wl_load1 hS (fun _ => by rfl) _ _ rfl (scT _ rfl) ?_; (repeat (first | refine Look.here (of_decide_eq_true rfl) rfl ?_ | refine Look.next ?_)); (with_reducible show wpList _ _ _ _ _ _); simp only [nA])
  | ((with_reducible first | refine to_store 4 rfl ?_ ); (first | refine Wl_store1 hS (fun _ => by rfl) _ _ (.bool _) rfl rfl (scT _ rfl) rfl rfl ?_); (repeat (first | refine Turn1.here (of_decide_eq_true rfl) (of_decide_eq_true rfl) ?_ | refine Turn1.next ?_)); clear hS; intro wW hS; (try simp only [nA]); try simp only [Nat.sub_zero, Nat.add_zero, Nat.zero_add, Nat.reduceSub, Nat.add_sub_cancel_left, dm_ss] at hS)
  )
      refine (dfinish_any b1 _ ho1 hlx _ _ (hS.dmAt (.tail _ (.tail _ (.head _))))).mono ?_
      rintro e w1 ⟨rfl, hr, ht⟩
      replace hS := hS.callT (.tail _ (.tail _ (.head _ _ _ _ _))) hr ht rfl
      clear hr ht
      go_wp2_with (first
  | ((with_reducible refine to_load 29 rfl ?_); refine Wl_load hS (fun _ => by rfl) _ _ rfl _ Try.underlying29 rfl ?_; (repeat (first | (refine Row.here ⟨(dmI.trans rfl), ?_⟩) | refine Row.next ?_)); (with_reducible show wpList _ _ _ _ _ _); simp only [nA])
  | ((with_reducible refine to_store 29 rfl ?_); refine Wl_store hS (fun _ => by rfl) _ _ _ rfl rfl (dmI.trans rfl) (dm_one _ _ _ _) ?_; (repeat (first | refine Turn.here rfl ?_ | refine Turn.next ?_)); clear hS; intro wW hS; try simp only [nA]))
      refine ret_st hS rfl _ _ rfl rfl _ Try.underlying29 rfl ?_
      repeat (first | (refine Row.here ⟨dmI.trans rfl, ?_⟩) | refine Row.next ?_)
      have e1 := hT.out
      skip
      exact ⟨by rw [e1], hS.below⟩
end Go.Proofs.Ytkkkjdbcckaedaa
