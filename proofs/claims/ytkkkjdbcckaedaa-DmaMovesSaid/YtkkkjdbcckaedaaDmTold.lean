/- told (charabanclaw22): a DMA that is told bytes. -/
import Derived.Test.YtkkkjdbcckaedaaDmWrite
import Derived.Test.YtkkkjdbcckaedaaRgAll
import Derived.Test.YtkkkjdbcckaedaaRgSame
namespace Go.Proofs.Ytkkkjdbcckaedaa
open Go.RowKit
set_option linter.unusedVariables false
set_option linter.unusedSimpArgs false
set_option maxRecDepth 100000
def M.dTold (L : List Int) : M.Dm := L.foldl M.dWrite M.dmNew
theorem M.dTold_snoc (L : List Int) (x : Int) : M.dTold (L ++ [x]) = M.dWrite (M.dTold L) x := by simp [M.dTold, List.foldl_append]
theorem M.dTold_next {L : List Int} {j : Nat} (h : j < L.length) : M.dTold (L.take (j + 1)) = M.dWrite (M.dTold (L.take j)) (L.getD j 0) := by rw [take_succ' h, M.dTold_snoc]
theorem M.dFold_ok : ∀ (L : List Int) (d : M.Dm), d.ok → (∀ x ∈ L, 0 ≤ x ∧ x ≤ 255) → (L.foldl M.dWrite d).ok
  | [], _, h, _ => h
  | x :: L, d, h, hb => M.dFold_ok L _ (M.dWrite_ok h (hb x (.head _)).1 (hb x (.head _)).2) (fun y hy => hb y (.tail _ hy))
theorem M.dTold_ok {L : List Int} (hb : ∀ x ∈ L, 0 ≤ x ∧ x ≤ 255) : (M.dTold L).ok := M.dFold_ok L _ M.dmNew_ok hb
theorem M.dCmd_len (d : M.Dm) (C : Int) : (M.dCmd d C).p.want.length ≤ d.p.want.length := by
  have hite : ∀ {c : Prop} [Decidable c] {x y : M.Dm} {n : Nat}, (c → x.p.want.length ≤ n) → (¬ c → y.p.want.length ≤ n) → (if c then x else y).p.want.length ≤ n := by
    intro c _ x y n hx hy
    by_cases k : c
    · rw [if_pos k]; exact hx k
    · rw [if_neg k]; exact hy k
  unfold M.dCmd
  repeat' refine hite (fun _ => ?_) (fun _ => ?_)
  all_goals first
    | exact Nat.le_refl _
    | exact Nat.zero_le _
theorem M.dWrite_len (d : M.Dm) (b : Int) : (M.dWrite d b).p.want.length ≤ d.p.want.length + 4 := Nat.le_trans (M.dCmd_len _ _) (M.rWrite_len d.p b)
theorem M.dFold_len : ∀ (L : List Int) (d : M.Dm), (L.foldl M.dWrite d).p.want.length ≤ d.p.want.length + 4 * L.length
  | [], _ => Nat.le_refl _
  | x :: L, d => by
    have h1 := M.dFold_len L (M.dWrite d x)
    have h2 := M.dWrite_len d x
    simp only [List.foldl_cons, List.length_cons]
    omega
theorem M.dTold_len (L : List Int) : (M.dTold L).p.want.length ≤ 4 * L.length := by
  have h := M.dFold_len L M.dmNew
  have h0 : M.dmNew.p.want.length = 0 := rfl
  unfold M.dTold
  omega
set_option maxHeartbeats 16000000 in
theorem told_any (L : List Int) (hL : L.length ≤ 2000) (hb : ∀ x ∈ L, 0 ≤ x ∧ x ≤ 255) (A2 : Option Addr) (c2 : Nat) (w : World) (r2 : Ls 0 w (.slice A2 L.length c2) (ints .u8 L)) :
    Calls Try.prog 11 #[.slice A2 L.length c2] w fun e w' => ∃ A' c', e = .returned (.agg ((M.dTold L).c (.slice A' (M.dTold L).p.want.length c'))) ∧ Ls w.heap.size w' (.slice A' (M.dTold L).p.want.length c') (ints .i64 (M.dTold L).p.want) ∧ Below w.heap.size w w' := by
  have hat : ∀ i, i < L.length → ∃ x1 q1, A2 = some ⟨x1, q1, none⟩ ∧ L.length ≤ c2 ∧ w.cell? ⟨x1, q1 + i, none⟩ = some (.int .u8 (L.getD i 0)) := fun i hi => by
    obtain ⟨x1, q1, k1, hs1, _, hk, hc1⟩ := r2.at_ hi
    simp only [Value.slice.injEq] at hs1
    exact ⟨x1, q1, hs1.1, by omega, hc1⟩
  have HA := Lib.hid hat
  have hS := St.start w.heap.size 0 0 w
  clear hat r2
  go_enter Try.func11, Try.ntmps11
  go_wp2_with (first
  | ((with_reducible refine to_alloc 29 rfl ?_); refine Wl_alloc hS (fun _ => by rfl) _ dmZ ?_; clear hS; intro bR wW hS; simp only [nA])
  )
  refine (dnew_any _).mono ?_
  rintro e w1 ⟨rfl, hb⟩
  replace hS := hS.call hb
  clear hb
  go_wp2_with (first
  | ((with_reducible refine to_alloc 29 rfl ?_); refine Wl_alloc hS (fun _ => by rfl) _ dmZ ?_; clear hS; intro bD wW hS; simp only [nA])
  | ((with_reducible refine to_store 29 rfl ?_); refine Wl_store hS (fun _ => by rfl) _ _ _ rfl rfl (dmI.trans rfl) (dm_one _ _ _ _) ?_; (repeat (first | refine Turn.here rfl ?_)); clear hS; intro wW hS; try simp only [nA]))
  have HS0 := Lib.hid hS
  clear hS
  go_loopw [4] (fun i wr => ∃ (j : Nat) (A' : Option Addr) (c' : Nat), i = .int .i64 j ∧ j ≤ L.length ∧ Shp (.slice A' (M.dTold (L.take j)).p.want.length c') (ints .i64 (M.dTold (L.take j)).p.want).length ∧ (∀ e, e ∈ entL (.slice A' (M.dTold (L.take j)).p.want.length c') (ints .i64 (M.dTold (L.take j)).p.want) → w.heap.size ≤ e.b) ∧
    St w.heap.size 0 0 w (⟨bD, 0, true, (M.dTold (L.take j)).c (.slice A' (M.dTold (L.take j)).p.want.length c')⟩ :: ⟨bR, 0, true, M.dmZero.c nilS⟩ :: entL (.slice A' (M.dTold (L.take j)).p.want.length c') (ints .i64 (M.dTold (L.take j)).p.want)) wr) (fun i _ => L.length - (intOf i).toNat)
  case atStart =>
    have he : entL (.slice none 0 0) (ints .i64 M.dmNew.p.want) = [] := entL_nil _
    exact ⟨0, none, 0, rfl, Nat.zero_le _, (Ls.nil 0 w 0 none (Nat.zero_le _)).shp, fun e h => (by cases (show e ∈ ([] : List Ent) from he ▸ h)), HS0.out⟩
  case round =>
    clear HS0
    obtain ⟨j, A', c', rfl, hj, hsh, hf, hS⟩ := hrel
    by_cases k1 : j < L.length
    · have k1' : (j : Int) < (L.length : Int) := by omega
      have k0' : (0 : Int) ≤ (j : Int) := by omega
      have k3' : (j : Int) < 2000 := by omega
      obtain ⟨x1, q1, rfl, hkc, hcell⟩ := HA.out j k1
      replace hS := hS.oneAt hcell
      have hok : (M.dTold (L.take j)).ok := M.dTold_ok fun x hx => hb x (List.mem_of_mem_take hx)
      have hbv := hb _ (getD_mem k1)
      have hlen := M.dTold_len (L.take j)
      have hlt : (L.take j).length ≤ L.length := by simp; omega
      have e1 := M.dTold_next k1
      have hrel2 : ∀ W A1 c1, Shp (.slice A1 (M.dWrite (M.dTold (L.take j)) (L.getD j 0)).p.want.length c1) (ints .i64 (M.dWrite (M.dTold (L.take j)) (L.getD j 0)).p.want).length → (∀ e, e ∈ entL (.slice A1 (M.dWrite (M.dTold (L.take j)) (L.getD j 0)).p.want.length c1) (ints .i64 (M.dWrite (M.dTold (L.take j)) (L.getD j 0)).p.want) → w.heap.size ≤ e.b) → St w.heap.size 0 0 w (⟨bD, 0, true, (M.dWrite (M.dTold (L.take j)) (L.getD j 0)).c (.slice A1 (M.dWrite (M.dTold (L.take j)) (L.getD j 0)).p.want.length c1)⟩ :: ⟨bR, 0, true, M.dmZero.c nilS⟩ :: entL (.slice A1 (M.dWrite (M.dTold (L.take j)) (L.getD j 0)).p.want.length c1) (ints .i64 (M.dWrite (M.dTold (L.take j)) (L.getD j 0)).p.want)) W → ∃ (j2 : Nat) (A' : Option Addr) (c' : Nat), (Value.int .i64 ((j : Int) + 1)) = .int .i64 j2 ∧ j2 ≤ L.length ∧ Shp (.slice A' (M.dTold (L.take j2)).p.want.length c') (ints .i64 (M.dTold (L.take j2)).p.want).length ∧ (∀ e, e ∈ entL (.slice A' (M.dTold (L.take j2)).p.want.length c') (ints .i64 (M.dTold (L.take j2)).p.want) → w.heap.size ≤ e.b) ∧
          St w.heap.size 0 0 w (⟨bD, 0, true, (M.dTold (L.take j2)).c (.slice A' (M.dTold (L.take j2)).p.want.length c')⟩ :: ⟨bR, 0, true, M.dmZero.c nilS⟩ :: entL (.slice A' (M.dTold (L.take j2)).p.want.length c') (ints .i64 (M.dTold (L.take j2)).p.want)) W := by
        intro W A1 c1 h2 h3 h4
        exact ⟨j + 1, A1, c1, by simp, by omega, by rw [e1]; exact h2, by rw [e1]; exact h3, by rw [e1]; exact h4⟩
      have HR := Lib.hid hrel2
      have hw := fun W hW => dmwrite_any (M.dTold (L.take j)) hok (by omega) A' c' (L.getD j 0) hbv.1 hbv.2 W hW
      clear e1 hrel2 hok hlen hlt hcell hb hL hbv hf
      generalize L.getD j 0 = v at hw HR hS
      generalize M.dWrite (M.dTold (L.take j)) v = R at hw HR
      generalize M.dTold (L.take j) = R0 at hw hS hsh HR
      have HW := Lib.hid hw
      clear hw
      go_wp2_with (first
  | ((with_reducible refine to_alloc 29 rfl ?_); refine Wl_alloc hS (fun _ => by rfl) _ dmZ ?_; clear hS; intro bR wW hS; simp only [nA])
  )
      refine wp_region_held_drew (S := fun W => St w.heap.size 0 0 w [⟨x1, q1 + j, false, #[.int .u8 v]⟩] W) (by kernel_rfl) (hS.drew.sub (by repeat (first | exact List.nil_sublist _ | apply List.Sublist.cons_cons))) ?_
      intro _
      replace hS := hS.drew
      generalize World.drew _ = wX at hS ⊢
      refine wpAnyH_take (i := 1) (v := ?_) rfl (by kernel_rfl) (by kernel_rfl) (by kernel_rfl) (fun _ _ _ h => h) (Or.inl ⟨by rfl, ?_⟩) (hS.sub (by repeat (first | exact List.nil_sublist _ | apply List.Sublist.cons_cons))) ?_
      rotate_left 1
      · intro W hW
        clear hW
        go_simp
        all_goals with_reducible rfl
      try simp only [nR]
      refine wpAnyH_take (i := 2) (v := ?_) rfl (by kernel_rfl) (by kernel_rfl) (by kernel_rfl) (fun _ _ _ h => h) (Or.inl ⟨by rfl, ?_⟩) (hS.sub (by repeat (first | exact List.nil_sublist _ | apply List.Sublist.cons_cons))) ?_
      rotate_left 1
      · intro W hW
        clear hW
        go_simp
        all_goals with_reducible rfl
      try simp only [nR]
      refine wpAnyH_take (i := 3) (v := ?_) rfl (by kernel_rfl) (by kernel_rfl) (by kernel_rfl) (fun _ _ _ h => h) (Or.inl ⟨by rfl, ?_⟩) (hS.sub (by repeat (first | exact List.nil_sublist _ | apply List.Sublist.cons_cons))) ?_
      rotate_left 1
      · intro W hW
        clear hW
        go_simp
        all_goals with_reducible rfl
      try simp only [nR]
      refine wpAnyH_take (i := 4) rfl (by kernel_rfl) (by kernel_rfl) (by kernel_rfl) (fun _ _ _ h => h) (yields_one (by rfl) _ _ rfl _ _ rfl sc5 _ (fun W hW => hW.cell (j := 0) (.head _) rfl)) (hS.sub (by repeat (first | exact List.nil_sublist _ | apply List.Sublist.cons_cons))) ?_
      try simp only [nR]
      refine wpAnyH_ready (rs := [0]) (by kernel_rfl) (by simp) (AllReadyH.cons rfl ?_ AllReadyH.nil)
      intro K1 hK1
      rw [if_pos (by rfl)]
      try simp only [nR]
      refine wp_load_st hS _ _ rfl _ _ rfl _ Try.underlying29 rfl ?_
      repeat (first | (refine Row.here ⟨dmI.trans rfl, ?_⟩) | refine Row.next ?_)
      refine hK1.out _ _ (hS.sub (by repeat (first | exact List.nil_sublist _ | apply List.Sublist.cons_cons))) (fun _ => ?_)
      clear hK1
      try simp only [nR]
      refine wpAnyH_ready (rs := [5]) (by kernel_rfl) (by simp) (AllReadyH.cons rfl ?_ AllReadyH.nil)
      intro K1 hK1
      rw [if_pos (by rfl)]
      try simp only [nR]
      go_simp
      refine (HW.out _ (hS.ls hsh (fun e he => by repeat (first | exact he | refine List.Mem.tail _ ?_)))).mono ?_
      rintro e w1 ⟨A1, c1, rfl, hl, hbl⟩
      have hf1 := fun e he => Nat.le_trans hS.size (hl.ent e he).1
      have hsh1 := hl.shp
      replace hS := hS.callN hbl hl
      simp only [List.cons_append, List.nil_append] at hS
      clear hl hbl
      refine hK1.out _ _ (hS.sub (by repeat (first | exact List.nil_sublist _ | apply List.Sublist.cons_cons))) (fun _ => ?_)
      clear hK1
      try simp only [nR]
      refine wpAnyH_ready (rs := [6]) (by kernel_rfl) (by simp) (AllReadyH.cons rfl ?_ AllReadyH.nil)
      intro K1 hK1
      rw [if_pos (by rfl)]
      try simp only [nR]
      refine wp_store_st hS _ _ _ rfl _ _ _ rfl rfl (dmI.trans rfl) (dm_one _ _ _ _) ?_
      repeat (first | refine Turn.here rfl ?_ | refine Turn.next ?_)
      clear hS
      intro wW hS
      refine hK1.out _ _ (hS.sub (by repeat (first | exact List.nil_sublist _ | apply List.Sublist.cons_cons))) (fun _ => ?_)
      clear hK1
      try simp only [nR]
      refine wpAnyH_done (by kernel_rfl) ?_ _
      clear hsh
      go_wp2_with fail
      go_round
      case rel => exact HR.out _ A1 c1 hsh1 hf1 (hS.sub (List.Sublist.cons _ (List.Sublist.cons_cons _ (List.Sublist.cons_cons _ (List.sublist_append_right _ _)))))
      case measure => simp [intOf]; omega
    · have k1' : ¬ ((j : Int) < (L.length : Int)) := by omega
      obtain rfl : j = L.length := by omega
      rw [List.take_length] at hsh hf hS
      go_wp2_with (first
  | ((with_reducible refine to_load 29 rfl ?_); refine Wl_load hS (fun _ => by rfl) _ _ rfl _ Try.underlying29 rfl ?_; (repeat (first | (refine Row.here ⟨(dmI.trans rfl), ?_⟩))); (with_reducible show wpList _ _ _ _ _ _); simp only [nA])
  | ((with_reducible refine to_store 29 rfl ?_); refine Wl_store hS (fun _ => by rfl) _ _ _ rfl rfl (dmI.trans rfl) (dm_one _ _ _ _) ?_; (repeat (first | refine Turn.here rfl ?_ | refine Turn.next ?_)); clear hS; intro wW hS; try simp only [nA]))
      refine ret_st hS rfl _ _ rfl rfl _ Try.underlying29 rfl ?_
      repeat (first | (refine Row.here ⟨dmI.trans rfl, ?_⟩) | refine Row.next ?_)
      exact ⟨A', c', rfl, hS.lsF hsh hf (fun e he => by repeat (first | exact he | refine List.Mem.tail _ ?_)), hS.below⟩
end Go.Proofs.Ytkkkjdbcckaedaa
