/- plain, Same, same (charabanclaw21, charabancref21): of what is alike. -/
import Derived.Test.YtkkkjdbcckaedaaRgRef
namespace Go.Proofs.Ytkkkjdbcckaedaa
open Go.RowKit
set_option linter.unusedVariables false
set_option linter.unusedSimpArgs false
set_option maxRecDepth 100000
theorem wp_build_op {P : Program} {o : Oper} {a : Act} {w : World} {K : Act → World → Prop} {Q : Exit → Act → World → Prop} {t : TypeId} {parts : Array (Nat × Operand)} (ho : o.op = .build t parts) (v : Value) (hr : ∀ w : World, (Instr.build t (parts.map fun x => (x.1, a.eval x.2))).run P w = .ok v w) (h : K (a.put o.dst v) w) : o.wp P a w K Q := by
  unfold Oper.wp execOp
  simp only [ho, Sem.run_bind, hr, Sem.run_pure, Result.andThen_ok]
  exact h
theorem to_build {P : Program} {ops : Array Oper} {rest : List Oper} {a : Act} {Q : Exit → Act → World → Prop} {w : World} {dst : Option Tmp} {ty t : TypeId} {ps : Array (Nat × Operand)} {pos : String} {aft : Array Edge} (v : Value)
    (hr : ∀ w : World, (Instr.build t (ps.map fun x => (x.1, a.eval x.2))).run P w = .ok v w) (h : wpList P ops Q rest (a.put dst v) w) : wpList P ops Q ({ dst := dst, op := .build t ps, type := ty, pos := pos, after := aft, guard := none } :: rest) a w :=
  wpList_plain rfl fun _ hK => wp_build_op rfl v hr (hK _ _ h)
theorem St.oneAt {w W : World} {es : List Ent} {b q : Nat} {v : Value} (h : St w.heap.size 0 0 w es W) (hc : w.cell? ⟨b, q, none⟩ = some v) : St w.heap.size 0 0 w (⟨b, q, false, #[v]⟩ :: es) W :=
  h.given (fun j u hu => by
    match j with
    | 0 => simp at hu; subst hu; exact hc
    | j + 1 => simp at hu) (World.block_lt_of_cell? w _ hc)
set_option maxHeartbeats 16000000 in
theorem rsame_any (r : M.Rg) (A1 : Option Addr) (c1 : Nat) (A2 : Option Addr) (c2 : Nat) (hm : r.want.length ≤ maxLen) (w : World) (r1 : Ls 0 w (.slice A1 r.want.length c1) (ints .i64 r.want)) (r2 : Ls 0 w (.slice A2 r.want.length c2) (ints .i64 r.want)) :
    Calls Try.prog 44 #[.agg (r.c (.slice A1 r.want.length c1)), .agg (r.c (.slice A2 r.want.length c2))] w fun e w' => e = .returned (.bool true) ∧ Below w.heap.size w w' := by
  have hat : ∀ i, i < r.want.length → ∃ x1 q1 x2 q2, A1 = some ⟨x1, q1, none⟩ ∧ A2 = some ⟨x2, q2, none⟩ ∧ w.cell? ⟨x1, q1 + i, none⟩ = some (.int .i64 (r.want.getD i 0)) ∧ w.cell? ⟨x2, q2 + i, none⟩ = some (.int .i64 (r.want.getD i 0)) := fun i hi => by
    obtain ⟨x1, q1, k1, hs1, _, _, hc1⟩ := r1.at_ hi
    obtain ⟨x2, q2, k2, hs2, _, _, hc2⟩ := r2.at_ hi
    simp only [Value.slice.injEq] at hs1 hs2
    exact ⟨x1, q1, x2, q2, hs1.1, hs2.1, hc1, hc2⟩
  have HA := Lib.hid hat
  obtain ⟨n, hn⟩ : ∃ n, n = r.want.length := ⟨_, rfl⟩
  rw [← hn] at HA hm ⊢
  obtain ⟨g, hg⟩ : ∃ g : Nat → Int, g = fun i => r.want.getD i 0 := ⟨_, rfl⟩
  have HG := Lib.hid hg
  clear hat r1 r2 hn hg
  simp only [maxLen] at hm
  have hS := St.start w.heap.size 0 0 w
  go_enter Try.func44, Try.ntmps44
  dsimp only [List.append, HAppend.hAppend, Append.append]
  go_wp2_with (first | ((with_reducible refine to_boxT 40 rfl ?_); refine Wl_box hS (fun _ => by rfl) _ rfl ?_; clear hS; intro bX wW hS; simp only [nA]) | ((with_reducible first | refine to_load 25 rfl ?_); refine Wl_load1 hS (fun _ => by rfl) _ _ rfl (scT _ rfl) ?_; (repeat (first | refine Look.here (of_decide_eq_true rfl) rfl ?_ | refine Look.next ?_)); (with_reducible show wpList _ _ _ _ _ _); simp only [nA]))
  have HS0 := Lib.hid hS
  clear hS
  rename_i bY _ _ _
  go_loopw [5] (fun i wr => ∃ j : Nat, i = .int .i64 j ∧ j ≤ n ∧ St w.heap.size 0 0 w [⟨bX, 0, true, r.c (.slice A2 n c2)⟩, ⟨bY, 0, true, r.c (.slice A1 n c1)⟩] wr) (fun i _ => n - (intOf i).toNat)
  case atStart => exact ⟨0, rfl, Nat.zero_le _, HS0.out⟩
  case round =>
    clear HS0
    obtain ⟨j, rfl, hj, hS⟩ := hrel
    by_cases k1 : j < n
    · have k1' : (j : Int) < (n : Int) := by omega
      have k0' : (0 : Int) ≤ (j : Int) := by omega
      obtain ⟨x1, q1, x2, q2, rfl, rfl, hc1, hc2⟩ := HA.out j k1
      replace hS := (hS.oneAt hc1).oneAt hc2
      generalize r.want.getD j 0 = v at hS hc1 hc2
      clear hc1 hc2
      go_wp2_with (((with_reducible first | refine to_load 25 rfl ?_); refine Wl_load1 hS (fun _ => by rfl) _ _ rfl (scT _ rfl) ?_; (repeat (first | refine Look.here (of_decide_eq_true rfl) rfl ?_ | refine Look.next ?_)); (with_reducible show wpList _ _ _ _ _ _); simp only [nA]))
      refine wp_region_held_drew (S := fun W => St w.heap.size 0 0 w [⟨x2, q2 + j, false, #[.int .i64 v]⟩, ⟨x1, q1 + j, false, #[.int .i64 v]⟩, ⟨bX, 0, true, r.c (.slice (some ⟨x2, q2, none⟩) n c2)⟩, ⟨bY, 0, true, r.c (.slice (some ⟨x1, q1, none⟩) n c1)⟩] W) (by kernel_rfl) (hS.drew.sub (by repeat (first | exact List.Sublist.slnil | apply List.Sublist.cons_cons))) ?_
      intro _
      replace hS := hS.drew
      generalize World.drew _ = wX at hS ⊢
      refine wpAnyH_take (i := 0) (v := ?_) rfl (by kernel_rfl) (by kernel_rfl) (by kernel_rfl) (fun _ _ _ h => h) (Or.inl ⟨by rfl, ?_⟩) (hS.sub (by repeat (first | exact List.Sublist.slnil | apply List.Sublist.cons_cons))) ?_
      rotate_left 1
      · intro W hW
        clear hW
        go_simp
        all_goals with_reducible rfl
      try simp only [nR]
      first
        | refine wpAnyH_take (i := 1) rfl (by kernel_rfl) (by kernel_rfl) (by kernel_rfl) (fun _ _ _ h => h) (yields_one (by rfl) _ _ rfl _ _ rfl scS _ (fun W hW => hW.cell0 (.tail _ (.tail _ (.tail _ (.head _)))) rfl)) (hS.sub (by repeat (first | exact List.Sublist.slnil | apply List.Sublist.cons_cons))) ?_
      try simp only [nR]
      refine wpAnyH_take (i := 2) (v := ?_) rfl (by kernel_rfl) (by kernel_rfl) (by kernel_rfl) (fun _ _ _ h => h) (Or.inl ⟨by rfl, ?_⟩) (hS.sub (by repeat (first | exact List.Sublist.slnil | apply List.Sublist.cons_cons))) ?_
      rotate_left 1
      · intro W hW
        clear hW
        go_simp
        all_goals with_reducible rfl
      try simp only [nR]
      refine wpAnyH_take (i := 3) (v := ?_) rfl (by kernel_rfl) (by kernel_rfl) (by kernel_rfl) (fun _ _ _ h => h) (Or.inl ⟨by rfl, ?_⟩) (hS.sub (by repeat (first | exact List.Sublist.slnil | apply List.Sublist.cons_cons))) ?_
      rotate_left 1
      · intro W hW
        clear hW
        go_simp
        all_goals with_reducible rfl
      try simp only [nR]
      refine wpAnyH_take (i := 4) rfl (by kernel_rfl) (by kernel_rfl) (by kernel_rfl) (fun _ _ _ h => h) (yields_one (by rfl) _ _ rfl _ _ rfl sc3 _ (fun W hW => hW.cell (j := 0) (.tail _ (.head _)) rfl)) (hS.sub (by repeat (first | exact List.Sublist.slnil | apply List.Sublist.cons_cons))) ?_
      try simp only [nR]
      refine wpAnyH_take (i := 5) (v := ?_) rfl (by kernel_rfl) (by kernel_rfl) (by kernel_rfl) (fun _ _ _ h => h) (Or.inl ⟨by rfl, ?_⟩) (hS.sub (by repeat (first | exact List.Sublist.slnil | apply List.Sublist.cons_cons))) ?_
      rotate_left 1
      · intro W hW
        clear hW
        go_simp
        all_goals with_reducible rfl
      try simp only [nR]
      first
        | refine wpAnyH_take (i := 6) rfl (by kernel_rfl) (by kernel_rfl) (by kernel_rfl) (fun _ _ _ h => h) (yields_one (by rfl) _ _ rfl _ _ rfl scS _ (fun W hW => hW.cell0 (.tail _ (.tail _ (.head _))) rfl)) (hS.sub (by repeat (first | exact List.Sublist.slnil | apply List.Sublist.cons_cons))) ?_
      try simp only [nR]
      refine wpAnyH_take (i := 7) (v := ?_) rfl (by kernel_rfl) (by kernel_rfl) (by kernel_rfl) (fun _ _ _ h => h) (Or.inl ⟨by rfl, ?_⟩) (hS.sub (by repeat (first | exact List.Sublist.slnil | apply List.Sublist.cons_cons))) ?_
      rotate_left 1
      · intro W hW
        clear hW
        go_simp
        all_goals with_reducible rfl
      try simp only [nR]
      refine wpAnyH_take (i := 8) (v := ?_) rfl (by kernel_rfl) (by kernel_rfl) (by kernel_rfl) (fun _ _ _ h => h) (Or.inl ⟨by rfl, ?_⟩) (hS.sub (by repeat (first | exact List.Sublist.slnil | apply List.Sublist.cons_cons))) ?_
      rotate_left 1
      · intro W hW
        clear hW
        go_simp
        all_goals with_reducible rfl
      try simp only [nR]
      refine wpAnyH_take (i := 9) rfl (by kernel_rfl) (by kernel_rfl) (by kernel_rfl) (fun _ _ _ h => h) (yields_one (by rfl) _ _ rfl _ _ rfl sc3 _ (fun W hW => hW.cell (j := 0) (.head _) rfl)) (hS.sub (by repeat (first | exact List.Sublist.slnil | apply List.Sublist.cons_cons))) ?_
      try simp only [nR]
      refine wpAnyH_take (i := 10) (v := ?_) rfl (by kernel_rfl) (by kernel_rfl) (by kernel_rfl) (fun _ _ _ h => h) (Or.inl ⟨by rfl, ?_⟩) (hS.sub (by repeat (first | exact List.Sublist.slnil | apply List.Sublist.cons_cons))) ?_
      rotate_left 1
      · intro W hW
        clear hW
        go_simp
        all_goals with_reducible rfl
      try simp only [nR]
      refine wpAnyH_done (by kernel_rfl) ?_ _
      go_wp2_with fail
      go_round
      case rel => exact ⟨j + 1, by simp, by omega, (hS.sub (by repeat (first | exact List.Sublist.slnil | apply List.Sublist.cons_cons | apply List.Sublist.cons)))⟩
      case measure => simp [intOf]; omega
    · have k1' : ¬ ((j : Int) < (n : Int)) := by omega
      obtain rfl : j = n := by omega
      go_wp2_with (((with_reducible first | refine to_load 3 rfl ?_ | refine to_load 4 rfl ?_ | refine to_load 5 rfl ?_ | refine to_load 24 rfl ?_ | refine to_load 25 rfl ?_); refine Wl_load1 hS (fun _ => by rfl) _ _ rfl (scT _ rfl) ?_; (repeat (first | refine Look.here (of_decide_eq_true rfl) rfl ?_ | refine Look.next ?_)); (with_reducible show wpList _ _ _ _ _ _); simp only [nA]))
      go_returns
      exact ⟨rfl, hS.below⟩
end Go.Proofs.Ytkkkjdbcckaedaa
