/- charabanclaw22.awake is true. -/
import Derived.Test.YtkkkjdbcckaedaaDmM2
import Derived.Test.YtkkkjdbcckaedaaDmRead
import Derived.Test.YtkkkjdbcckaedaaDmNextT
import Derived.Laws.StructEq
import Derived.ChangeKeysEq
namespace Go.Proofs.Ytkkkjdbcckaedaa
open Go.RowKit
set_option linter.unusedVariables false
set_option linter.unusedSimpArgs false
set_option maxRecDepth 100000
theorem szUD : (Try.prog.info? 5).map (·.size) = some 1 := by kernel_rfl
theorem zUD : ((Try.prog.info? 5).bind (·.zero)).isSome = true := by kernel_rfl
theorem cyZI : (Try.prog.info? 32).map (fun i => (i.zero, i.size)) = some (some (.agg #[.int .i64 0, .int .u16 0, .int .u8 0, .int .i64 0]), 4) := by kernel_rfl
theorem Wl_bslC {ops : Array Oper} {rest : List Oper} {a : Act} {Q : Exit → Act → World → Prop} {B o n : Nat} {w W : World} {es : List Ent} {dst : Option Tmp} {ty : TypeId} {len : Nat} {ps : Array (Nat × Operand)} {pos : String} {aft : Array Edge}
    (hS : St B o n w es W) (cells : Array Value) (hlen : 0 < len ∧ len ≤ 1000)
    (hf : Instr.fill (fun i => some (i * 4, 4)) ((Array.range (len * 4)).map ((#[.int .i64 0, .int .u16 0, .int .u8 0, .int .i64 0] : Array Value)[· % 4]!)) (ps.map fun (i, x) => (i, a.eval x)).toList = some cells)
    (h : ∀ b W', w.heap.size ≤ b → St B o n w (⟨b, 0, true, cells⟩ :: es) W' → wpList Try.prog ops Q rest (a.put dst (.slice (some ⟨b, 0, none⟩) len len)) W') :
    Wl Try.prog ops Q ({ dst := dst, op := .buildSlice 62 len ps, type := ty, pos := pos, after := aft, guard := none } :: rest) a W := by
  cases hie : Try.prog.info? 32 with
  | none => have := cyZI; rw [hie] at this; cases this
  | some ie =>
    have hc := cyZI
    rw [hie] at hc
    simp only [Option.map_some, Option.some.injEq, Prod.mk.injEq] at hc
    refine Wl.mk (wpList_buildSlice rfl 62 32 len ps rfl cells ie _ Try.underlying62 hie hc.1 (by rw [hc.2]; omega) (by rw [hc.2]; omega) ?_ (h _ _ hS.size (hS.new _ _)))
    rw [hc.2]
    exact hf
theorem cyEq (a b c e : Int) (d : Nat) (w : World) : (Op.equalIn (d + 1 + 1) 32 (.agg #[.int .i64 a, .int .u16 b, .int .u8 c, .int .i64 e]) (.agg #[.int .i64 a, .int .u16 b, .int .u8 c, .int .i64 e])).run Try.prog w = .ok true w := by
  rw [run_equalIn_agg _ _ _ _ _ (by kernel_rfl) (by kernel_rfl)]
  go_simp
theorem cyEql (d : M.Dm) (w : World) : (binOp .eql 32 (.agg (M.dNextC d)) (.agg (M.dNextC d))).run Try.prog w = .ok (.bool true) w := by
  rw [run_eql_struct]
  unfold M.dNextC
  rw [cyEq _ _ _ _ 9998 w]
  rfl
theorem cyNeq (d : M.Dm) (w : World) : (binOp .neq 32 (.agg (M.dNextC d)) (.agg (M.dNextC d))).run Try.prog w = .ok (.bool false) w := by
  rw [run_neq_struct]
  unfold M.dNextC
  rw [cyEq _ _ _ _ 9998 w]
  rfl
set_option maxHeartbeats 16000000 in
theorem dmawake_any (w : World) : Calls Try.prog 10 #[] w fun e w' => e = .returned (.bool true) ∧ Below w.heap.size w w' := by
  have hS := St.start w.heap.size 0 0 w
  obtain ⟨f1, f2, f3, f4, f5, f6, f7⟩ := M.aw_ends
  go_enter Try.func10, Try.ntmps10
  go_wp2_with (first
  | ((with_reducible refine to_bsl ?_); refine Wl_bsl hS 5 .u8 M.awL Try.underlying22 szUD zUD rfl (by decide) (by decide) rfl ?_; clear hS; intro b7 wW hge7 hS; simp only [nA])
  )
  refine (told_any M.awL (by decide) M.awL_ok (some ⟨b7, 0, none⟩) 12 _ (hS.lsOwn (F := 0) (k := .u8) (zs := M.awL) (Nat.zero_le _) (.head _) (by decide))).mono ?_
  rintro e w1 ⟨A1, c1, rfl, hl, hbl⟩
  replace hS := hS.call hbl
  clear hl hbl
  rw [show (M.dTold M.awL) = M.awD 0 from rfl, M.awD_want 0]
  go_wp2_with (first
  | ((with_reducible refine to_alloc 29 rfl ?_); refine Wl_alloc hS (fun _ => by rfl) _ dmZ ?_; clear hS; intro bD wW hS; simp only [nA])
  | ((with_reducible refine to_load 29 rfl ?_); refine Wl_load hS (fun _ => by rfl) _ _ rfl _ Try.underlying29 rfl ?_; (repeat (first | (refine Row.here ⟨(dmI.trans rfl), ?_⟩))); (with_reducible show wpList _ _ _ _ _ _); simp only [nA])
  | ((with_reducible refine to_store 29 rfl ?_); refine Wl_store hS (fun _ => by rfl) _ _ _ rfl rfl (dmI.trans rfl) (dm_one _ _ _ _) ?_; (repeat (first | refine Turn.here rfl ?_)); clear hS; intro wW hS; try simp only [nA]))
  refine (dwants_any (M.awD 0) A1 0 c1 false _).mono ?_
  rintro e w1 ⟨rfl, hb⟩
  replace hS := hS.call hb
  clear hb
  rw [f1]
  go_wp2_with (first
  | ((with_reducible refine to_load 29 rfl ?_); refine Wl_load hS (fun _ => by rfl) _ _ rfl _ Try.underlying29 rfl ?_; (repeat (first | (refine Row.here ⟨(dmI.trans rfl), ?_⟩))); (with_reducible show wpList _ _ _ _ _ _); simp only [nA]))
  refine (dwants_any (M.awD 0) A1 0 c1 true _).mono ?_
  rintro e w1 ⟨rfl, hb⟩
  replace hS := hS.call hb
  clear hb
  rw [f2]
  go_wp2_with (first
  | ((with_reducible refine to_bsl ?_); refine Wl_bslC hS M.awS (by decide) (by kernel_rfl) ?_; clear hS; intro bS wW hgeS hS; simp only [nA])
  )
  have HS0 := Lib.hid (show St w.heap.size 0 0 w [⟨bS, 0, true, M.awS⟩, ⟨bD, 0, true, (M.awD 0).c (.slice A1 0 c1)⟩] wW from (hS.sub (by repeat (first | exact List.nil_sublist _ | apply List.Sublist.cons_cons))))
  clear hS f1 f2
  go_loopw [3] (fun i wr => ∃ j : Nat, i = .int .i64 j ∧ j ≤ 4 ∧ St w.heap.size 0 0 w [⟨bS, 0, true, M.awS⟩, ⟨bD, 0, true, (M.awD j).c (.slice A1 0 c1)⟩] wr) (fun i _ => 4 - (intOf i).toNat)
  case atStart => exact ⟨0, rfl, Nat.zero_le _, HS0.out⟩
  case round =>
    clear HS0
    obtain ⟨j, rfl, hj, hS⟩ := hrel
    by_cases k1 : j < 4
    · have k1' : (j : Int) < 4 := by omega
      have k0' : (0 : Int) ≤ (j : Int) := by omega
      have g := M.aw_facts ⟨j, k1⟩
      have g1 := g.1
      have g2 := g.2.1
      simp only at g1 g2
      have hcut := M.aw_cut j k1
      have hnx := M.aw_next j k1
      rw [← hnx] at hcut
      have hok := M.awD_ok j (by omega)
      have e1 : M.awD (j + 1) = M.dTake (M.awD j) 7 := rfl
      have hrel2 : ∀ W, St w.heap.size 0 0 w [⟨bS, 0, true, M.awS⟩, ⟨bD, 0, true, (M.dTake (M.awD j) 7).c (.slice A1 0 c1)⟩] W → ∃ j2 : Nat, (Value.int .i64 ((j : Int) + 1)) = .int .i64 j2 ∧ j2 ≤ 4 ∧ St w.heap.size 0 0 w [⟨bS, 0, true, M.awS⟩, ⟨bD, 0, true, (M.awD j2).c (.slice A1 0 c1)⟩] W := fun W h => ⟨j + 1, by simp, by omega, by rw [e1]; exact h⟩
      have HR := Lib.hid hrel2
      have ht := fun W => dmtake_any (M.awD j) hok.1 (by have := hok.2; omega) A1 0 c1 7 (by decide) (by decide) W
      have hn := fun W => dnext_any (M.awD j) hok.1 A1 0 c1 W
      have hh := fun W => dholds_any (M.awD j) A1 0 c1 true W
      rw [g2] at hh
      clear e1 hrel2 hnx g g2 hok
      generalize M.dTake (M.awD j) 7 = R at ht HR
      generalize M.awD j = D at hS ht hn hh g1 hcut
      have eD : D = { D with done := false } := by rw [← g1]
      rw [eD] at hS ht hn hh hcut
      clear g1 eD
      unfold M.dNextC at hn hcut
      generalize M.dNextK { D with done := false } = nk at hn hcut
      generalize M.dNextA { D with done := false } = na at hn hcut
      generalize M.dNextD { D with done := false } = nv at hn hcut
      generalize M.dNextT { D with done := false } = nt at hn hcut
      have HC := Lib.hid hcut
      have HT := Lib.hid ht
      have HN := Lib.hid hn
      have HH := Lib.hid hh
      clear ht hn hh hcut
      go_wp2_with (first
  | ((with_reducible refine to_bsl ?_); refine Wl_bsl hS 5 .u8 M.awL Try.underlying22 szUD zUD rfl (by decide) (by decide) rfl ?_; clear hS; intro b7 wW hge7 hS; simp only [nA])
  )
      refine wp_region_held_drew (S := fun W => St w.heap.size 0 0 w [⟨bS, 0, true, M.awS⟩, ⟨bD, 0, true, ({ D with done := false } : M.Dm).c (.slice A1 0 c1)⟩] W) (by kernel_rfl) (hS.drew.sub (by repeat (first | exact List.Sublist.slnil | apply List.Sublist.cons_cons))) ?_
      intro _
      replace hS := hS.drew
      generalize World.drew _ = wX at hS ⊢
      first
        | refine wpAnyH_take (i := 0) rfl (by kernel_rfl) (by kernel_rfl) (by kernel_rfl) (fun _ _ _ h => h) (yields_row (by rfl) _ _ rfl _ _ rfl _ Try.underlying29 rfl _ (fun W hW => hW.range (.tail _ (.head _))) (dmI.trans rfl)) (hS.sub (by repeat (first | exact List.Sublist.slnil | apply List.Sublist.cons_cons))) ?_
        
      try simp only [nR]
      refine wpAnyH_take (i := 2) (v := ?_) rfl (by kernel_rfl) (by kernel_rfl) (by kernel_rfl) (fun _ _ _ h => h) (Or.inl ⟨by rfl, ?_⟩) (hS.sub (by repeat (first | exact List.Sublist.slnil | apply List.Sublist.cons_cons))) ?_
      rotate_left 1
      · intro W hW
        clear hW
        go_simp
        all_goals with_reducible rfl
      try simp only [nR]
      refine wpAnyH_take (i := 3) (v := ?_) rfl (by kernel_rfl) (by kernel_rfl) (by kernel_rfl) (fun _ _ _ h => h) (Or.inl ⟨by rfl, ?_⟩) (hS.sub (by repeat (first | exact List.Sublist.slnil | apply List.Sublist.cons_cons))) ?_
      rotate_left 1
      · intro W hW
        clear hW
        go_simp
        all_goals with_reducible rfl
      try simp only [nR]
      refine wpAnyH_take (i := 4) (v := ?_) rfl (by kernel_rfl) (by kernel_rfl) (by kernel_rfl) (fun _ _ _ h => h) (Or.inl ⟨by rfl, ?_⟩) (hS.sub (by repeat (first | exact List.Sublist.slnil | apply List.Sublist.cons_cons))) ?_
      rotate_left 1
      · intro W hW
        clear hW
        go_simp
        all_goals with_reducible rfl
      try simp only [nR]
      refine wpAnyH_take (i := 5) rfl (by kernel_rfl) (by kernel_rfl) (by kernel_rfl) (fun _ _ _ h => h) (yields_row (by rfl) _ _ rfl _ _ rfl _ Try.underlying32 rfl _ (fun W hW => sub_range (hW.range (.head _)) (Nat.zero_le _) HC.out) (cyI.trans rfl)) (hS.sub (by repeat (first | exact List.Sublist.slnil | apply List.Sublist.cons_cons))) ?_
      try simp only [nR]
      refine wpAnyH_ready (rs := [1]) (by kernel_rfl) (by simp) (AllReadyH.cons rfl ?_ AllReadyH.nil)
      intro K1 hK1
      rw [if_pos (by rfl)]
      try simp only [nR]
      go_simp
      refine (HN.out _).mono ?_
      rintro e1 v2 ⟨rfl, hb⟩
      replace hS := hS.call hb
      clear hb
      refine hK1.out _ _ (hS.sub (by repeat (first | exact List.Sublist.slnil | apply List.Sublist.cons_cons))) (fun _ => ?_)
      clear hK1
      try simp only [nR]
      refine wpAnyH_take (i := 6) (v := ?_) rfl (by kernel_rfl) (by kernel_rfl) (by kernel_rfl) (fun _ _ _ h => h) (Or.inl ⟨by rfl, ?_⟩) (hS.sub (by repeat (first | exact List.Sublist.slnil | apply List.Sublist.cons_cons))) ?_
      rotate_left 1
      · intro W hW
        clear hW
        go_simp
        all_goals with_reducible rfl
      try simp only [nR]
      refine wpAnyH_take (i := 7) (v := ?_) rfl (by kernel_rfl) (by kernel_rfl) (by kernel_rfl) (fun _ _ _ h => h) (Or.inl ⟨by rfl, ?_⟩) (hS.sub (by repeat (first | exact List.Sublist.slnil | apply List.Sublist.cons_cons))) ?_
      rotate_left 1
      · intro W hW
        clear hW
        go_simp
        all_goals with_reducible rfl
      try simp only [nR]
      refine wpAnyH_take (i := 8) (v := ?_) rfl (by kernel_rfl) (by kernel_rfl) (by kernel_rfl) (fun _ _ _ h => h) (Or.inl ⟨by rfl, ?_⟩) (hS.sub (by repeat (first | exact List.Sublist.slnil | apply List.Sublist.cons_cons))) ?_
      rotate_left 1
      · intro W hW
        clear hW
        go_simp
        all_goals with_reducible rfl
      try simp only [nR]
      first
        | refine wpAnyH_take (i := 9) rfl (by kernel_rfl) (by kernel_rfl) (by kernel_rfl) (fun _ _ _ h => h) (yields_one (by rfl) _ _ rfl _ _ rfl sc4 _ (fun W hW => hW.cell0 (.tail _ (.head _)) rfl)) (hS.sub (by repeat (first | exact List.Sublist.slnil | apply List.Sublist.cons_cons))) ?_
        
      try simp only [nR]
      refine wpAnyH_take (i := 10) (v := ?_) rfl (by kernel_rfl) (by kernel_rfl) (by kernel_rfl) (fun _ _ _ h => h) (Or.inl ⟨by rfl, ?_⟩) (hS.sub (by repeat (first | exact List.Sublist.slnil | apply List.Sublist.cons_cons))) ?_
      rotate_left 1
      · intro W hW
        clear hW
        go_simp
        all_goals with_reducible rfl
      try simp only [nR]
      refine wpAnyH_take (i := 11) (v := ?_) rfl (by kernel_rfl) (by kernel_rfl) (by kernel_rfl) (fun _ _ _ h => h) (Or.inl ⟨by rfl, ?_⟩) (hS.sub (by repeat (first | exact List.Sublist.slnil | apply List.Sublist.cons_cons))) ?_
      rotate_left 1
      · intro W hW
        clear hW
        go_simp
        all_goals with_reducible rfl
      try simp only [nR]
      first
        | refine wpAnyH_take (i := 12) rfl (by kernel_rfl) (by kernel_rfl) (by kernel_rfl) (fun _ _ _ h => h) (yields_row (by rfl) _ _ rfl _ _ rfl _ Try.underlying29 rfl _ (fun W hW => hW.range (.tail _ (.head _))) (dmI.trans rfl)) (hS.sub (by repeat (first | exact List.Sublist.slnil | apply List.Sublist.cons_cons))) ?_
        
      try simp only [nR]
      refine wpAnyH_ready (rs := [13]) (by kernel_rfl) (by simp) (AllReadyH.cons rfl ?_ AllReadyH.nil)
      intro K1 hK1
      rw [if_pos (by rfl)]
      try simp only [nR]
      go_simp
      refine (HH.out _).mono ?_
      rintro e1 v2 ⟨rfl, hb⟩
      replace hS := hS.call hb
      clear hb
      refine hK1.out _ _ (hS.sub (by repeat (first | exact List.Sublist.slnil | apply List.Sublist.cons_cons))) (fun _ => ?_)
      clear hK1
      try simp only [nR]
      refine wpAnyH_take (i := 14) (v := ?_) rfl (by kernel_rfl) (by kernel_rfl) (by kernel_rfl) (fun _ _ _ h => h) (Or.inl ⟨by rfl, ?_⟩) (hS.sub (by repeat (first | exact List.Sublist.slnil | apply List.Sublist.cons_cons))) ?_
      rotate_left 1
      · intro W hW
        clear hW
        go_simp
        all_goals with_reducible rfl
      try simp only [nR]
      refine wpAnyH_take (i := 15) (v := ?_) rfl (by kernel_rfl) (by kernel_rfl) (by kernel_rfl) (fun _ _ _ h => h) (Or.inl ⟨by rfl, ?_⟩) (hS.sub (by repeat (first | exact List.Sublist.slnil | apply List.Sublist.cons_cons))) ?_
      rotate_left 1
      · intro W hW
        clear hW
        go_simp
        all_goals with_reducible rfl
      try simp only [nR]
      refine wpAnyH_done (by kernel_rfl) ?_ _
      go_wp2_with (first
  | ((with_reducible refine to_load 29 rfl ?_); refine Wl_load hS (fun _ => by rfl) _ _ rfl _ Try.underlying29 rfl ?_; (repeat (first | (refine Row.here ⟨(dmI.trans rfl), ?_⟩) | refine Row.next ?_)); (with_reducible show wpList _ _ _ _ _ _); simp only [nA]))
      refine (HT.out _).mono ?_
      rintro e w1 ⟨rfl, hb⟩
      replace hS := hS.call hb
      clear hb
      go_wp2_with (first
  | ((with_reducible refine to_store 29 rfl ?_); refine Wl_store hS (fun _ => by rfl) _ _ _ rfl rfl (dmI.trans rfl) (dm_one _ _ _ _) ?_; (repeat (first | refine Turn.here rfl ?_ | refine Turn.next ?_)); clear hS; intro wW hS; try simp only [nA]))
      go_round
      case rel => exact HR.out _ (hS.sub (by repeat (first | exact List.Sublist.slnil | apply List.Sublist.cons_cons)))
      case measure => simp [intOf]; omega
    · have k1' : ¬ ((j : Int) < 4) := by omega
      obtain rfl : j = 4 := by omega
      go_wp2_with (first
  | ((with_reducible refine to_load 29 rfl ?_); refine Wl_load hS (fun _ => by rfl) _ _ rfl _ Try.underlying29 rfl ?_; (repeat (first | (refine Row.here ⟨(dmI.trans rfl), ?_⟩) | refine Row.next ?_)); (with_reducible show wpList _ _ _ _ _ _); simp only [nA]))
      refine (dread_any (M.awD 4) (M.awD_ok 4 (by decide)).1 A1 0 c1 _).mono ?_
      rintro e w1 ⟨rfl, hb⟩
      replace hS := hS.call hb
      clear hb
      rw [f6]
      clear f6
      go_wp2_with (first
  | ((with_reducible first | refine to_load 4 rfl ?_ ); refine Wl_load1 hS (fun _ => by rfl) _ _ rfl (scT _ rfl) ?_; (repeat (first | refine Look.here (of_decide_eq_true rfl) rfl ?_ | refine Look.next ?_)); (with_reducible show wpList _ _ _ _ _ _); simp only [nA])
  | ((with_reducible refine to_alloc 29 rfl ?_); refine Wl_alloc hS (fun _ => by rfl) _ dmZ ?_; clear hS; intro bE wW hS; simp only [nA])
  | ((with_reducible refine to_load 29 rfl ?_); refine Wl_load hS (fun _ => by rfl) _ _ rfl _ Try.underlying29 rfl ?_; (repeat (first | (refine Row.here ⟨(dmI.trans rfl), ?_⟩) | refine Row.next ?_)); (with_reducible show wpList _ _ _ _ _ _); simp only [nA])
  | ((with_reducible refine to_store 29 rfl ?_); refine Wl_store hS (fun _ => by rfl) _ _ _ rfl rfl (dmI.trans rfl) (dm_one _ _ _ _) ?_; (repeat (first | refine Turn.here rfl ?_)); clear hS; intro wW hS; try simp only [nA]))
      refine (dstatus_any (M.awD 4) A1 0 c1 _).mono ?_
      rintro e w1 ⟨rfl, hb⟩
      replace hS := hS.call hb
      clear hb
      rw [f7]
      clear f7
      go_wp2_with (first
  | ((with_reducible first | refine to_load 3 rfl ?_ ); refine Wl_load1 hS (fun _ => by rfl) _ _ rfl (scT _ rfl) ?_; (repeat (first | refine Look.here (of_decide_eq_true rfl) rfl ?_)); (with_reducible show wpList _ _ _ _ _ _); simp only [nA])
  )
      go_returns
      exact ⟨rfl, hS.below⟩
end Go.Proofs.Ytkkkjdbcckaedaa
