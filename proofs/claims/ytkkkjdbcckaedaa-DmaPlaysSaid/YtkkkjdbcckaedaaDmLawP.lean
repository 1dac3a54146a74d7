/- charabanclaw22.DmaPlays is true at whatever bytes and answers. -/
import Derived.Test.YtkkkjdbcckaedaaDmLawT
import Derived.Test.YtkkkjdbcckaedaaRmC
namespace Go.Proofs.Ytkkkjdbcckaedaa
open Go.RowKit
set_option linter.unusedVariables false
set_option linter.unusedSimpArgs false
set_option maxRecDepth 100000
def M.dTakes (d : M.Dm) (L : List Int) : M.Dm := L.foldl M.dTake d
theorem M.dTakes_snoc (d : M.Dm) (L : List Int) (x : Int) : M.dTakes d (L ++ [x]) = M.dTake (M.dTakes d L) x := by simp [M.dTakes, List.foldl_append]
theorem M.dTakes_next (d : M.Dm) {L : List Int} {j : Nat} (h : j < L.length) : M.dTakes d (L.take (j + 1)) = M.dTake (M.dTakes d (L.take j)) (L.getD j 0) := by rw [take_succ' h, M.dTakes_snoc]
theorem M.dTakes_p : ∀ (L : List Int) (d : M.Dm), (M.dTakes d L).p = d.p
  | [], _ => rfl
  | x :: L, d => (M.dTakes_p L (M.dTake d x)).trans (M.dTake_p d x)
theorem M.dTakes_ok : ∀ (L : List Int) (d : M.Dm) (k : Int), d.ok → 0 ≤ k → k + L.length ≤ 1000000 → -k ≤ d.left → (∀ x ∈ L, 0 ≤ x ∧ x ≤ 255) → (M.dTakes d L).ok ∧ -(k + L.length) ≤ (M.dTakes d L).left
  | [], d, k, h, _, _, hl, _ => ⟨h, by simpa [M.dTakes] using hl⟩
  | x :: L, d, k, h, hk, hkl, hl, hb => by
    have hx := hb x (.head _)
    have hkl' : k + ((L.length : Int) + 1) ≤ 1000000 := by simpa using hkl
    have h1 := M.dTake_ok h (by omega) hx.1 hx.2
    have h2 := M.dTake_left h hx.1 hx.2 k hk hl
    have ih := M.dTakes_ok L (M.dTake d x) (k + 1) h1 (by omega) (by omega) h2 (fun y hy => hb y (.tail _ hy))
    refine ⟨ih.1, ?_⟩
    have h3 := ih.2
    show -(k + (((x :: L).length : Nat) : Int)) ≤ (M.dTakes (M.dTake d x) L).left
    simp only [List.length_cons]
    omega
set_option maxHeartbeats 16000000 in
theorem dmplays_true (A1 : Option Addr) (n1 c1 : Nat) (L1 : List Int) (A2 : Option Addr) (n2 c2 : Nat) (L2 : List Int) (w : World) (hn1 : L1.length = n1) (hm1 : n1 ≤ maxLen) (r1 : Ls 0 w (.slice A1 n1 c1) (ints .u8 L1)) (hb1 : ∀ x ∈ L1, 0 ≤ x ∧ x ≤ 255)
    (hn2 : L2.length = n2) (hm2 : n2 ≤ maxLen) (r2 : Ls 0 w (.slice A2 n2 c2) (ints .u8 L2)) (hb2 : ∀ x ∈ L2, 0 ≤ x ∧ x ≤ 255) :
    Calls Try.prog 7 #[.slice A1 n1 c1, .slice A2 n2 c2] w fun e w' => e = .returned (.bool true) ∧ Below w.heap.size w w' := by
  subst hn1 hn2
  clear hm1 hm2
  have hS := St.start w.heap.size 0 0 w
  by_cases g1 : 100 < L1.length
  · have t1 : decide ((100 : Int) < (L1.length : Int)) = true := decide_eq_true (by omega)
    clear r1 r2
    go_enter Try.func7, Try.ntmps7
    go_wp2_with (first
  | ((with_reducible refine to_alloc 29 rfl ?_); refine Wl_alloc hS (fun _ => by rfl) _ dmZ ?_; clear hS; intro bD wW hS; simp only [nA])
  )
    refine (dmawake_any _).mono ?_
    rintro e w1 ⟨rfl, hb⟩
    replace hS := hS.call hb
    clear hb
    go_wp2_with (first
  | ((with_reducible refine to_alloc 29 rfl ?_); refine Wl_alloc hS (fun _ => by rfl) _ dmZ ?_; clear hS; intro bD wW hS; simp only [nA])
  )
    go_returns
    exact ⟨rfl, hS.below⟩
  · have t1 : decide ((100 : Int) < (L1.length : Int)) = false := decide_eq_false (by omega)
    by_cases g2 : 100 < L2.length
    · have t2 : decide ((100 : Int) < (L2.length : Int)) = true := decide_eq_true (by omega)
      clear r1 r2
      go_enter Try.func7, Try.ntmps7
      go_wp2_with (first
  | ((with_reducible refine to_alloc 29 rfl ?_); refine Wl_alloc hS (fun _ => by rfl) _ dmZ ?_; clear hS; intro bD wW hS; simp only [nA])
  )
      refine (dmawake_any _).mono ?_
      rintro e w1 ⟨rfl, hb⟩
      replace hS := hS.call hb
      clear hb
      go_wp2_with (first
  | ((with_reducible refine to_alloc 29 rfl ?_); refine Wl_alloc hS (fun _ => by rfl) _ dmZ ?_; clear hS; intro bD wW hS; simp only [nA])
  )
      go_returns
      exact ⟨rfl, hS.below⟩
    · have t2 : decide ((100 : Int) < (L2.length : Int)) = false := decide_eq_false (by omega)
      have hat1 : ∀ i, i < L1.length → ∃ x q, A1 = some ⟨x, q, none⟩ ∧ L1.length ≤ c1 ∧ w.cell? ⟨x, q + i, none⟩ = some (.int .u8 (L1.getD i 0)) := fun i hi => by
        obtain ⟨x1, q1, k1, hs1, _, hk, hc1⟩ := r1.at_ hi
        simp only [Value.slice.injEq] at hs1
        exact ⟨x1, q1, hs1.1, by omega, hc1⟩
      have hat2 : ∀ i, i < L2.length → ∃ x q, A2 = some ⟨x, q, none⟩ ∧ L2.length ≤ c2 ∧ w.cell? ⟨x, q + i, none⟩ = some (.int .u8 (L2.getD i 0)) := fun i hi => by
        obtain ⟨x1, q1, k1, hs1, _, hk, hc1⟩ := r2.at_ hi
        simp only [Value.slice.injEq] at hs1
        exact ⟨x1, q1, hs1.1, by omega, hc1⟩
      have HA1 := Lib.hid hat1
      have HA2 := Lib.hid hat2
      have ht := fun W hW => told_any L1 (by omega) hb1 A1 c1 W (r1.below hW)
      have HT := Lib.hid ht
      clear hat1 hat2 ht r1 r2
      go_enter Try.func7, Try.ntmps7
      go_wp2_with (first
  | ((with_reducible refine to_alloc 29 rfl ?_); refine Wl_alloc hS (fun _ => by rfl) _ dmZ ?_; clear hS; intro bD wW hS; simp only [nA])
  )
      refine (dmawake_any _).mono ?_
      rintro e w1 ⟨rfl, hb⟩
      replace hS := hS.call hb
      clear hb
      go_wp2_with (first
  | ((with_reducible refine to_alloc 29 rfl ?_); refine Wl_alloc hS (fun _ => by rfl) _ dmZ ?_; clear hS; intro bD wW hS; simp only [nA])
  )
      refine (HT.out _ hS.below).mono ?_
      rintro e w1 ⟨B1, k1, rfl, hl, hbl⟩
      have hsh1 := hl.shp
      replace hS := hS.callN hbl hl
      simp only [List.nil_append] at hS
      clear hl hbl HT
      go_wp2_with (first
  | ((with_reducible refine to_alloc 29 rfl ?_); refine Wl_alloc hS (fun _ => by rfl) _ dmZ ?_; clear hS; intro bD wW hS; simp only [nA])
  | ((with_reducible refine to_store 29 rfl ?_); refine Wl_store hS (fun _ => by rfl) _ _ _ rfl rfl (dmI.trans rfl) (dm_one _ _ _ _) ?_; (repeat (first | refine Turn.here rfl ?_)); clear hS; intro wW hS; try simp only [nA]))
      refine (rmnew_any _).mono ?_
      rintro e w1 ⟨rfl, hb⟩
      replace hS := hS.call hb
      clear hb
      go_wp2_with (first
  | ((with_reducible refine to_alloc 42 rfl ?_); refine Wl_alloc hS (fun _ => by rfl) _ rdmZ ?_; clear hS; intro bW wW hS; simp only [nA])
  | ((with_reducible refine to_store 42 rfl ?_); refine Wl_store hS (fun _ => by rfl) _ _ _ rfl rfl (rdmI.trans rfl) (dm_one _ _ _ _) ?_; (repeat (first | refine Turn.here rfl ?_)); clear hS; intro wW hS; try simp only [nA]))
      have HS0 := Lib.hid hS
      clear hS
      go_loopw [8] (fun i wr => ∃ (j : Nat) (A' : Option Addr) (c' : Nat), i = .int .i64 j ∧ j ≤ L1.length ∧ Shp (.slice A' (M.dTold (L1.take j)).p.want.length c') (ints .i64 (M.dTold (L1.take j)).p.want).length ∧
        St w.heap.size 0 0 w (⟨bW, 0, true, (M.dTold (L1.take j)).c (.slice A' (M.dTold (L1.take j)).p.want.length c')⟩ :: ⟨bD, 0, true, (M.dTold L1).c (.slice B1 (M.dTold L1).p.want.length k1)⟩ :: (entL (.slice B1 (M.dTold L1).p.want.length k1) (ints .i64 (M.dTold L1).p.want) ++ entL (.slice A' (M.dTold (L1.take j)).p.want.length c') (ints .i64 (M.dTold (L1.take j)).p.want))) wr) (fun i _ => L1.length - (intOf i).toNat)
      case atStart =>
        have he : entL (.slice none 0 0) (ints .i64 M.dmNew.p.want) = [] := entL_nil _
        refine ⟨0, none, 0, rfl, Nat.zero_le _, (Ls.nil 0 w 0 none (Nat.zero_le _)).shp, ?_⟩
        show St w.heap.size 0 0 w (⟨bW, 0, true, M.dmNew.c (.slice none 0 0)⟩ :: ⟨bD, 0, true, (M.dTold L1).c (.slice B1 (M.dTold L1).p.want.length k1)⟩ :: (entL (.slice B1 (M.dTold L1).p.want.length k1) (ints .i64 (M.dTold L1).p.want) ++ entL (.slice none 0 0) (ints .i64 M.dmNew.p.want))) _
        rw [he, List.append_nil]
        exact HS0.out
      case round =>
        clear HS0
        obtain ⟨j, A', c', rfl, hj, hsh, hS⟩ := hrel
        by_cases g3 : j < L1.length
        · have g3' : (j : Int) < (L1.length : Int) := by omega
          have g4' : (0 : Int) ≤ (j : Int) := by omega
          have g5' : (j : Int) < 2000 := by omega
          obtain ⟨x1, q1, rfl, hkc, hcell⟩ := HA1.out j g3
          replace hS := hS.oneAt hcell
          have hok : (M.dTold (L1.take j)).ok := M.dTold_ok fun x hx => hb1 x (List.mem_of_mem_take hx)
          have hbv := hb1 _ (getD_mem g3)
          have hlen := M.dTold_len (L1.take j)
          have hlt : (L1.take j).length ≤ L1.length := by simp; omega
          have e1 := M.dTold_next g3
          have hw := fun W hW => rmwrite_any (M.dTold (L1.take j)) hok (by omega) A' c' (L1.getD j 0) hbv.1 hbv.2 W hW
          have hrel2 : ∀ W A3 c3, Shp (.slice A3 (M.dWrite (M.dTold (L1.take j)) (L1.getD j 0)).p.want.length c3) (ints .i64 (M.dWrite (M.dTold (L1.take j)) (L1.getD j 0)).p.want).length → St w.heap.size 0 0 w (⟨bW, 0, true, (M.dWrite (M.dTold (L1.take j)) (L1.getD j 0)).c (.slice A3 (M.dWrite (M.dTold (L1.take j)) (L1.getD j 0)).p.want.length c3)⟩ :: ⟨bD, 0, true, (M.dTold L1).c (.slice B1 (M.dTold L1).p.want.length k1)⟩ :: (entL (.slice B1 (M.dTold L1).p.want.length k1) (ints .i64 (M.dTold L1).p.want) ++ entL (.slice A3 (M.dWrite (M.dTold (L1.take j)) (L1.getD j 0)).p.want.length c3) (ints .i64 (M.dWrite (M.dTold (L1.take j)) (L1.getD j 0)).p.want))) W → ∃ (j2 : Nat) (A' : Option Addr) (c' : Nat), (Value.int .i64 ((j : Int) + 1)) = .int .i64 j2 ∧ j2 ≤ L1.length ∧ Shp (.slice A' (M.dTold (L1.take j2)).p.want.length c') (ints .i64 (M.dTold (L1.take j2)).p.want).length ∧
              St w.heap.size 0 0 w (⟨bW, 0, true, (M.dTold (L1.take j2)).c (.slice A' (M.dTold (L1.take j2)).p.want.length c')⟩ :: ⟨bD, 0, true, (M.dTold L1).c (.slice B1 (M.dTold L1).p.want.length k1)⟩ :: (entL (.slice B1 (M.dTold L1).p.want.length k1) (ints .i64 (M.dTold L1).p.want) ++ entL (.slice A' (M.dTold (L1.take j2)).p.want.length c') (ints .i64 (M.dTold (L1.take j2)).p.want))) W := by
            intro W A3 c3 h2 h4
            exact ⟨j + 1, A3, c3, by simp, by omega, by rw [e1]; exact h2, by rw [e1]; exact h4⟩
          have HR := Lib.hid hrel2
          clear e1 hrel2 hok hlen hlt hcell hbv
          generalize L1.getD j 0 = v at hw HR hS
          generalize M.dWrite (M.dTold (L1.take j)) v = R at hw HR
          generalize M.dTold (L1.take j) = R0 at hw hS hsh HR
          have HW := Lib.hid hw
          clear hw
          go_wp2_with (first
  | ((with_reducible refine to_alloc 29 rfl ?_); refine Wl_alloc hS (fun _ => by rfl) _ dmZ ?_; clear hS; intro bD wW hS; simp only [nA])
  )
          refine wp_region_held_drew (S := fun W => St w.heap.size 0 0 w [⟨x1, q1 + j, false, #[.int .u8 v]⟩] W) (by kernel_rfl) (hS.drew.sub (by repeat (first | exact List.nil_sublist _ | apply List.Sublist.cons_cons))) ?_
          intro _
          replace hS := hS.drew
          generalize World.drew _ = wX at hS ⊢
          refine wpAnyH_take (i := 1) (v := ?_) rfl (by kernel_rfl) (by kernel_rfl) (by kernel_rfl) (fun _ _ _ h => h) (Or.inl ⟨by rfl, ?_⟩) (hS.sub (by repeat (first | exact List.nil_sublist _ | apply List.Sublist.cons_cons))) ?_
          rotate_left 1
          · intro W hW
            clear hW
            go_simp
            all_goals with_reducible rfl
          try simp only [nR]
          refine wpAnyH_take (i := 2) (v := ?_) rfl (by kernel_rfl) (by kernel_rfl) (by kernel_rfl) (fun _ _ _ h => h) (Or.inl ⟨by rfl, ?_⟩) (hS.sub (by repeat (first | exact List.nil_sublist _ | apply List.Sublist.cons_cons))) ?_
          rotate_left 1
          · intro W hW
            clear hW
            go_simp
            all_goals with_reducible rfl
          try simp only [nR]
          refine wpAnyH_take (i := 3) (v := ?_) rfl (by kernel_rfl) (by kernel_rfl) (by kernel_rfl) (fun _ _ _ h => h) (Or.inl ⟨by rfl, ?_⟩) (hS.sub (by repeat (first | exact List.nil_sublist _ | apply List.Sublist.cons_cons))) ?_
          rotate_left 1
          · intro W hW
            clear hW
            go_simp
            all_goals with_reducible rfl
          try simp only [nR]
          refine wpAnyH_take (i := 4) rfl (by kernel_rfl) (by kernel_rfl) (by kernel_rfl) (fun _ _ _ h => h) (yields_one (by rfl) _ _ rfl _ _ rfl sc5 _ (fun W hW => hW.cell (j := 0) (.head _) rfl)) (hS.sub (by repeat (first | exact List.nil_sublist _ | apply List.Sublist.cons_cons))) ?_
          try simp only [nR]
          refine wpAnyH_ready (rs := [0]) (by kernel_rfl) (by simp) (AllReadyH.cons rfl ?_ AllReadyH.nil)
          intro K1 hK1
          rw [if_pos (by rfl)]
          try simp only [nR]
          refine wp_load_st hS _ _ rfl _ _ rfl _ Try.underlying42 rfl ?_
          repeat (first | (refine Row.here ⟨rdmI.trans rfl, ?_⟩) | refine Row.next ?_)
          refine hK1.out _ _ (hS.sub (by repeat (first | exact List.nil_sublist _ | apply List.Sublist.cons_cons))) (fun _ => ?_)
          clear hK1
          try simp only [nR]
          refine wpAnyH_ready (rs := [5]) (by kernel_rfl) (by simp) (AllReadyH.cons rfl ?_ AllReadyH.nil)
          intro K1 hK1
          rw [if_pos (by rfl)]
          try simp only [nR]
          go_simp
          refine (HW.out _ (hS.ls hsh (fun e he => by repeat (first | exact List.mem_append_right _ he | refine List.Mem.tail _ ?_)))).mono ?_
          rintro e w1 ⟨A3, c3, rfl, hl, hbl⟩
          have hsh3 := hl.shp
          replace hS := hS.callN hbl hl
          simp only [List.cons_append, List.nil_append] at hS
          clear hl hbl
          refine hK1.out _ _ (hS.sub (by repeat (first | exact List.nil_sublist _ | apply List.Sublist.cons_cons))) (fun _ => ?_)
          clear hK1
          try simp only [nR]
          refine wpAnyH_ready (rs := [6]) (by kernel_rfl) (by simp) (AllReadyH.cons rfl ?_ AllReadyH.nil)
          intro K1 hK1
          rw [if_pos (by rfl)]
          try simp only [nR]
          refine wp_store_st hS _ _ _ rfl _ _ _ rfl rfl (rdmI.trans rfl) (dm_one _ _ _ _) ?_
          repeat (first | refine Turn.here rfl ?_ | refine Turn.next ?_)
          clear hS
          intro wW hS
          refine hK1.out _ _ (hS.sub (by repeat (first | exact List.nil_sublist _ | apply List.Sublist.cons_cons))) (fun _ => ?_)
          clear hK1
          try simp only [nR]
          refine wpAnyH_done (by kernel_rfl) ?_ _
          clear hsh
          go_wp2_with fail
          go_round
          case rel => exact HR.out _ A3 c3 hsh3 (hS.sub (List.Sublist.cons _ (List.Sublist.cons_cons _ (List.Sublist.cons_cons _ (List.Sublist.append (List.sublist_append_left _ _) (List.Sublist.refl _))))))
          case measure => simp [intOf]; omega
        · have g3' : ¬ ((j : Int) < (L1.length : Int)) := by omega
          obtain rfl : j = L1.length := by omega
          rw [List.take_length] at hsh hS
          have hPok := M.dTold_ok hb1
          have hPl := M.dTold_left hb1
          have hPn := M.dTold_len L1
          generalize M.dTold L1 = P at hsh hsh1 hS hPok hPl hPn
          clear HA1
          go_wp2_with (first
  | ((with_reducible refine to_alloc 29 rfl ?_); refine Wl_alloc hS (fun _ => by rfl) _ dmZ ?_; clear hS; intro bD wW hS; simp only [nA])
  )
          have HS0 := Lib.hid hS
          clear hS
          go_loopw [9] (fun i wr => ∃ j : Nat, i = .int .i64 j ∧ j ≤ L2.length ∧
            St w.heap.size 0 0 w (⟨bW, 0, true, (M.dTakes P (L2.take j)).c (.slice A' P.p.want.length c')⟩ :: ⟨bD, 0, true, (M.dTakes P (L2.take j)).c (.slice B1 P.p.want.length k1)⟩ :: (entL (.slice B1 P.p.want.length k1) (ints .i64 P.p.want) ++ entL (.slice A' P.p.want.length c') (ints .i64 P.p.want))) wr) (fun i _ => L2.length - (intOf i).toNat)
          case atStart => exact ⟨0, rfl, Nat.zero_le _, HS0.out⟩
          case round =>
            clear HS0
            obtain ⟨j, rfl, hj, hS⟩ := hrel
            have hlt : (L2.take j).length ≤ L2.length := by simp; omega
            have hDk := M.dTakes_ok (L2.take j) P 0 hPok (by omega) (by omega) (by omega) (fun x hx => hb2 x (List.mem_of_mem_take hx))
            have hDp := M.dTakes_p (L2.take j) P
            have hml : P.p.want.length ≤ maxLen := by simp only [maxLen]; omega
            have hs := fun W (g1 : Ls 0 W (.slice B1 P.p.want.length k1) (ints .i64 P.p.want)) (g2 : Ls 0 W (.slice A' P.p.want.length c') (ints .i64 P.p.want)) => dsame_any (M.dTakes P (L2.take j)) B1 k1 A' c' (by rw [hDp]; exact hml) W (by rw [hDp]; exact g1) (by rw [hDp]; exact g2)
            rw [hDp] at hs
            by_cases g3 : j < L2.length
            · have g3' : (j : Int) < (L2.length : Int) := by omega
              have g4' : (0 : Int) ≤ (j : Int) := by omega
              have g5' : (j : Int) < 2000 := by omega
              obtain ⟨x1, q1, rfl, hkc, hcell⟩ := HA2.out j g3
              replace hS := hS.oneAt hcell
              have hbv := hb2 _ (getD_mem g3)
              have e1 := M.dTakes_next P g3
              have hrel2 : ∀ W, St w.heap.size 0 0 w (⟨bW, 0, true, (M.dTake (M.dTakes P (L2.take j)) (L2.getD j 0)).c (.slice A' P.p.want.length c')⟩ :: ⟨bD, 0, true, (M.dTake (M.dTakes P (L2.take j)) (L2.getD j 0)).c (.slice B1 P.p.want.length k1)⟩ :: (entL (.slice B1 P.p.want.length k1) (ints .i64 P.p.want) ++ entL (.slice A' P.p.want.length c') (ints .i64 P.p.want))) W → ∃ j2 : Nat, (Value.int .i64 ((j : Int) + 1)) = .int .i64 j2 ∧ j2 ≤ L2.length ∧
                  St w.heap.size 0 0 w (⟨bW, 0, true, (M.dTakes P (L2.take j2)).c (.slice A' P.p.want.length c')⟩ :: ⟨bD, 0, true, (M.dTakes P (L2.take j2)).c (.slice B1 P.p.want.length k1)⟩ :: (entL (.slice B1 P.p.want.length k1) (ints .i64 P.p.want) ++ entL (.slice A' P.p.want.length c') (ints .i64 P.p.want))) W := fun W h => ⟨j + 1, by simp, by omega, by rw [e1]; exact h⟩
              have HR := Lib.hid hrel2
              have hll : -9223372036854775807 ≤ (M.dTakes P (L2.take j)).left := by have := hDk.2; omega
              have hn := fun W => dnext_any (M.dTakes P (L2.take j)) hDk.1 B1 P.p.want.length k1 W
              have hm := fun W => rmnext_any (M.dTakes P (L2.take j)) A' P.p.want.length c' W
              unfold M.dNextC at hn hm
              generalize M.dNextK (M.dTakes P (L2.take j)) = nk at hn hm
              generalize M.dNextA (M.dTakes P (L2.take j)) = na at hn hm
              generalize M.dNextD (M.dTakes P (L2.take j)) = nv at hn hm
              generalize M.dNextT (M.dTakes P (L2.take j)) = nt at hn hm
              have ht := fun W => dmtake_any (M.dTakes P (L2.take j)) hDk.1 hll B1 P.p.want.length k1 (L2.getD j 0) hbv.1 hbv.2 W
              have hu := fun W => rmtake_any (M.dTakes P (L2.take j)) hDk.1 hll A' P.p.want.length c' (L2.getD j 0) hbv.1 hbv.2 W
              clear e1 hrel2 hcell hbv hDk hDp hll hlt
              generalize L2.getD j 0 = v at ht hu HR hS
              generalize M.dTake (M.dTakes P (L2.take j)) v = R at ht hu HR
              generalize M.dTakes P (L2.take j) = D at ht hu hn hm hs hS
              have HN := Lib.hid hn
              have HM := Lib.hid hm
              have HT := Lib.hid ht
              have HU := Lib.hid hu
              have HS := Lib.hid hs
              clear hn hm ht hu hs
              go_wp2_with (first
  | ((with_reducible refine to_alloc 29 rfl ?_); refine Wl_alloc hS (fun _ => by rfl) _ dmZ ?_; clear hS; intro bD wW hS; simp only [nA])
  )
              refine wp_region_held_drew (S := fun W => St w.heap.size 0 0 w [⟨bW, 0, true, D.c (.slice A' P.p.want.length c')⟩, ⟨bD, 0, true, D.c (.slice B1 P.p.want.length k1)⟩] W) (by kernel_rfl) (hS.drew.sub (by repeat (first | exact List.nil_sublist _ | apply List.Sublist.cons_cons | apply List.Sublist.cons))) ?_
              intro _
              replace hS := hS.drew
              generalize World.drew _ = wX at hS ⊢
              first
                | refine wpAnyH_take (i := 0) rfl (by kernel_rfl) (by kernel_rfl) (by kernel_rfl) (fun _ _ _ h => h) (yields_row (by rfl) _ _ rfl _ _ rfl _ Try.underlying29 rfl _ (fun W hW => hW.range (.tail _ (.head _))) (dmI.trans rfl)) (hS.sub (by repeat (first | exact List.nil_sublist _ | apply List.Sublist.cons_cons | apply List.Sublist.cons))) ?_
                
              try simp only [nR]
              first
                | refine wpAnyH_take (i := 2) rfl (by kernel_rfl) (by kernel_rfl) (by kernel_rfl) (fun _ _ _ h => h) (yields_row (by rfl) _ _ rfl _ _ rfl _ Try.underlying42 rfl _ (fun W hW => hW.range (.head _)) (rdmI.trans rfl)) (hS.sub (by repeat (first | exact List.nil_sublist _ | apply List.Sublist.cons_cons | apply List.Sublist.cons))) ?_
                
              try simp only [nR]
              refine wpAnyH_ready (rs := [1]) (by kernel_rfl) (by simp) (AllReadyH.cons rfl ?_ AllReadyH.nil)
              intro K1 hK1
              rw [if_pos (by rfl)]
              try simp only [nR]
              go_simp
              refine (dplain_any D B1 _ k1 _).mono ?_
              rintro e1 v2 ⟨rfl, hb⟩
              replace hS := hS.call hb
              clear hb
              refine hK1.out _ _ (hS.sub (by repeat (first | exact List.nil_sublist _ | apply List.Sublist.cons_cons | apply List.Sublist.cons))) (fun _ => ?_)
              clear hK1
              try simp only [nR]
              refine wpAnyH_ready (rs := [3]) (by kernel_rfl) (by simp) (AllReadyH.cons rfl ?_ AllReadyH.nil)
              intro K1 hK1
              rw [if_pos (by rfl)]
              try simp only [nR]
              go_simp
              refine (HS.out _ (hS.ls hsh1 (fun e he => by repeat (first | exact List.mem_append_left _ he | refine List.Mem.tail _ ?_))) (hS.ls hsh (fun e he => by repeat (first | exact List.mem_append_right _ he | refine List.Mem.tail _ ?_)))).mono ?_
              rintro e1 v2 ⟨rfl, hb⟩
              replace hS := hS.call hb
              clear hb
              refine hK1.out _ _ (hS.sub (by repeat (first | exact List.nil_sublist _ | apply List.Sublist.cons_cons | apply List.Sublist.cons))) (fun _ => ?_)
              clear hK1
              try simp only [nR]
              refine wpAnyH_take (i := 4) (v := ?_) rfl (by kernel_rfl) (by kernel_rfl) (by kernel_rfl) (fun _ _ _ h => h) (Or.inl ⟨by rfl, ?_⟩) (hS.sub (by repeat (first | exact List.nil_sublist _ | apply List.Sublist.cons_cons | apply List.Sublist.cons))) ?_
              rotate_left 1
              · intro W hW
                clear hW
                go_simp
                all_goals with_reducible rfl
              try simp only [nR]
              refine wpAnyH_take (i := 5) (v := ?_) rfl (by kernel_rfl) (by kernel_rfl) (by kernel_rfl) (fun _ _ _ h => h) (Or.inl ⟨by rfl, ?_⟩) (hS.sub (by repeat (first | exact List.nil_sublist _ | apply List.Sublist.cons_cons | apply List.Sublist.cons))) ?_
              rotate_left 1
              · intro W hW
                clear hW
                go_simp
                all_goals with_reducible rfl
              try simp only [nR]
              first
                | refine wpAnyH_take (i := 6) rfl (by kernel_rfl) (by kernel_rfl) (by kernel_rfl) (fun _ _ _ h => h) (yields_row (by rfl) _ _ rfl _ _ rfl _ Try.underlying29 rfl _ (fun W hW => hW.range (.tail _ (.head _))) (dmI.trans rfl)) (hS.sub (by repeat (first | exact List.nil_sublist _ | apply List.Sublist.cons_cons | apply List.Sublist.cons))) ?_
                
              try simp only [nR]
              first
                | refine wpAnyH_take (i := 8) rfl (by kernel_rfl) (by kernel_rfl) (by kernel_rfl) (fun _ _ _ h => h) (yields_row (by rfl) _ _ rfl _ _ rfl _ Try.underlying42 rfl _ (fun W hW => hW.range (.head _)) (rdmI.trans rfl)) (hS.sub (by repeat (first | exact List.nil_sublist _ | apply List.Sublist.cons_cons | apply List.Sublist.cons))) ?_
                
              try simp only [nR]
              refine wpAnyH_ready (rs := [7]) (by kernel_rfl) (by simp) (AllReadyH.cons rfl ?_ AllReadyH.nil)
              intro K1 hK1
              rw [if_pos (by rfl)]
              try simp only [nR]
              go_simp
              refine (HN.out _).mono ?_
              rintro e1 v2 ⟨rfl, hb⟩
              replace hS := hS.call hb
              clear hb
              refine hK1.out _ _ (hS.sub (by repeat (first | exact List.nil_sublist _ | apply List.Sublist.cons_cons | apply List.Sublist.cons))) (fun _ => ?_)
              clear hK1
              try simp only [nR]
              refine wpAnyH_ready (rs := [9]) (by kernel_rfl) (by simp) (AllReadyH.cons rfl ?_ AllReadyH.nil)
              intro K1 hK1
              rw [if_pos (by rfl)]
              try simp only [nR]
              go_simp
              refine (HM.out _).mono ?_
              rintro e1 v2 ⟨rfl, hb⟩
              replace hS := hS.call hb
              clear hb
              refine hK1.out _ _ (hS.sub (by repeat (first | exact List.nil_sublist _ | apply List.Sublist.cons_cons | apply List.Sublist.cons))) (fun _ => ?_)
              clear hK1
              try simp only [nR]
              refine wpAnyH_take (i := 10) (v := ?_) rfl (by kernel_rfl) (by kernel_rfl) (by kernel_rfl) (fun _ _ _ h => h) (Or.inl ⟨by rfl, ?_⟩) (hS.sub (by repeat (first | exact List.nil_sublist _ | apply List.Sublist.cons_cons | apply List.Sublist.cons))) ?_
              rotate_left 1
              · intro W hW
                clear hW
                go_simp
                all_goals with_reducible rfl
              try simp only [nR]
              refine wpAnyH_take (i := 11) (v := ?_) rfl (by kernel_rfl) (by kernel_rfl) (by kernel_rfl) (fun _ _ _ h => h) (Or.inl ⟨by rfl, ?_⟩) (hS.sub (by repeat (first | exact List.nil_sublist _ | apply List.Sublist.cons_cons | apply List.Sublist.cons))) ?_
              rotate_left 1
              · intro W hW
                clear hW
                go_simp
                all_goals with_reducible rfl
              try simp only [nR]
              refine wpAnyH_done (by kernel_rfl) ?_ _
              go_wp2_with (first
  | ((with_reducible refine to_alloc 29 rfl ?_); refine Wl_alloc hS (fun _ => by rfl) _ dmZ ?_; clear hS; intro bD wW hS; simp only [nA])
  )
              refine wp_region_held_drew (S := fun W => St w.heap.size 0 0 w [⟨x1, q1 + j, false, #[.int .u8 v]⟩] W) (by kernel_rfl) (hS.drew.sub (by repeat (first | exact List.nil_sublist _ | apply List.Sublist.cons_cons))) ?_
              intro _
              replace hS := hS.drew
              generalize World.drew _ = wX at hS ⊢
              refine wpAnyH_take (i := 1) (v := ?_) rfl (by kernel_rfl) (by kernel_rfl) (by kernel_rfl) (fun _ _ _ h => h) (Or.inl ⟨by rfl, ?_⟩) (hS.sub (by repeat (first | exact List.nil_sublist _ | apply List.Sublist.cons_cons))) ?_
              rotate_left 1
              · intro W hW
                clear hW
                go_simp
                all_goals with_reducible rfl
              try simp only [nR]
              refine wpAnyH_take (i := 2) (v := ?_) rfl (by kernel_rfl) (by kernel_rfl) (by kernel_rfl) (fun _ _ _ h => h) (Or.inl ⟨by rfl, ?_⟩) (hS.sub (by repeat (first | exact List.nil_sublist _ | apply List.Sublist.cons_cons))) ?_
              rotate_left 1
              · intro W hW
                clear hW
                go_simp
                all_goals with_reducible rfl
              try simp only [nR]
              refine wpAnyH_take (i := 3) (v := ?_) rfl (by kernel_rfl) (by kernel_rfl) (by kernel_rfl) (fun _ _ _ h => h) (Or.inl ⟨by rfl, ?_⟩) (hS.sub (by repeat (first | exact List.nil_sublist _ | apply List.Sublist.cons_cons))) ?_
              rotate_left 1
              · intro W hW
                clear hW
                go_simp
                all_goals with_reducible rfl
              try simp only [nR]
              refine wpAnyH_take (i := 4) rfl (by kernel_rfl) (by kernel_rfl) (by kernel_rfl) (fun _ _ _ h => h) (yields_one (by rfl) _ _ rfl _ _ rfl sc5 _ (fun W hW => hW.cell (j := 0) (.head _) rfl)) (hS.sub (by repeat (first | exact List.nil_sublist _ | apply List.Sublist.cons_cons))) ?_
              try simp only [nR]
              refine wpAnyH_ready (rs := [0]) (by kernel_rfl) (by simp) (AllReadyH.cons rfl ?_ AllReadyH.nil)
              intro K1 hK1
              rw [if_pos (by rfl)]
              try simp only [nR]
              refine wp_load_st hS _ _ rfl _ _ rfl _ Try.underlying29 rfl ?_
              repeat (first | (refine Row.here ⟨dmI.trans rfl, ?_⟩) | refine Row.next ?_)
              refine hK1.out _ _ (hS.sub (by repeat (first | exact List.nil_sublist _ | apply List.Sublist.cons_cons))) (fun _ => ?_)
              clear hK1
              try simp only [nR]
              refine wpAnyH_ready (rs := [5]) (by kernel_rfl) (by simp) (AllReadyH.cons rfl ?_ AllReadyH.nil)
              intro K1 hK1
              rw [if_pos (by rfl)]
              try simp only [nR]
              go_simp
              refine (HT.out _).mono ?_
              rintro e1 v2 ⟨rfl, hb⟩
              replace hS := hS.call hb
              clear hb
              refine hK1.out _ _ (hS.sub (by repeat (first | exact List.nil_sublist _ | apply List.Sublist.cons_cons))) (fun _ => ?_)
              clear hK1
              try simp only [nR]
              refine wpAnyH_ready (rs := [6]) (by kernel_rfl) (by simp) (AllReadyH.cons rfl ?_ AllReadyH.nil)
              intro K1 hK1
              rw [if_pos (by rfl)]
              try simp only [nR]
              refine wp_store_st hS _ _ _ rfl _ _ _ rfl rfl (dmI.trans rfl) (dm_one _ _ _ _) ?_
              repeat (first | refine Turn.here rfl ?_ | refine Turn.next ?_)
              clear hS
              intro wW hS
              refine hK1.out _ _ (hS.sub (by repeat (first | exact List.nil_sublist _ | apply List.Sublist.cons_cons))) (fun _ => ?_)
              clear hK1
              try simp only [nR]
              refine wpAnyH_done (by kernel_rfl) ?_ _
              go_wp2_with fail
              refine wp_region_held_drew (S := fun W => St w.heap.size 0 0 w [⟨x1, q1 + j, false, #[.int .u8 v]⟩] W) (by kernel_rfl) (hS.drew.sub (by repeat (first | exact List.nil_sublist _ | apply List.Sublist.cons_cons))) ?_
              intro _
              replace hS := hS.drew
              generalize World.drew _ = wX at hS ⊢
              refine wpAnyH_take (i := 1) (v := ?_) rfl (by kernel_rfl) (by kernel_rfl) (by kernel_rfl) (fun _ _ _ h => h) (Or.inl ⟨by rfl, ?_⟩) (hS.sub (by repeat (first | exact List.nil_sublist _ | apply List.Sublist.cons_cons))) ?_
              rotate_left 1
              · intro W hW
                clear hW
                go_simp
                all_goals with_reducible rfl
              try simp only [nR]
              refine wpAnyH_take (i := 2) (v := ?_) rfl (by kernel_rfl) (by kernel_rfl) (by kernel_rfl) (fun _ _ _ h => h) (Or.inl ⟨by rfl, ?_⟩) (hS.sub (by repeat (first | exact List.nil_sublist _ | apply List.Sublist.cons_cons))) ?_
              rotate_left 1
              · intro W hW
                clear hW
                go_simp
                all_goals with_reducible rfl
              try simp only [nR]
              refine wpAnyH_take (i := 3) (v := ?_) rfl (by kernel_rfl) (by kernel_rfl) (by kernel_rfl) (fun _ _ _ h => h) (Or.inl ⟨by rfl, ?_⟩) (hS.sub (by repeat (first | exact List.nil_sublist _ | apply List.Sublist.cons_cons))) ?_
              rotate_left 1
              · intro W hW
                clear hW
                go_simp
                all_goals with_reducible rfl
              try simp only [nR]
              refine wpAnyH_take (i := 4) rfl (by kernel_rfl) (by kernel_rfl) (by kernel_rfl) (fun _ _ _ h => h) (yields_one (by rfl) _ _ rfl _ _ rfl sc5 _ (fun W hW => hW.cell (j := 0) (.head _) rfl)) (hS.sub (by repeat (first | exact List.nil_sublist _ | apply List.Sublist.cons_cons))) ?_
              try simp only [nR]
              refine wpAnyH_ready (rs := [0]) (by kernel_rfl) (by simp) (AllReadyH.cons rfl ?_ AllReadyH.nil)
              intro K1 hK1
              rw [if_pos (by rfl)]
              try simp only [nR]
              refine wp_load_st hS _ _ rfl _ _ rfl _ Try.underlying42 rfl ?_
              repeat (first | (refine Row.here ⟨rdmI.trans rfl, ?_⟩) | refine Row.next ?_)
              refine hK1.out _ _ (hS.sub (by repeat (first | exact List.nil_sublist _ | apply List.Sublist.cons_cons))) (fun _ => ?_)
              clear hK1
              try simp only [nR]
              refine wpAnyH_ready (rs := [5]) (by kernel_rfl) (by simp) (AllReadyH.cons rfl ?_ AllReadyH.nil)
              intro K1 hK1
              rw [if_pos (by rfl)]
              try simp only [nR]
              go_simp
              refine (HU.out _).mono ?_
              rintro e1 v2 ⟨rfl, hb⟩
              replace hS := hS.call hb
              clear hb
              refine hK1.out _ _ (hS.sub (by repeat (first | exact List.nil_sublist _ | apply List.Sublist.cons_cons))) (fun _ => ?_)
              clear hK1
              try simp only [nR]
              refine wpAnyH_ready (rs := [6]) (by kernel_rfl) (by simp) (AllReadyH.cons rfl ?_ AllReadyH.nil)
              intro K1 hK1
              rw [if_pos (by rfl)]
              try simp only [nR]
              refine wp_store_st hS _ _ _ rfl _ _ _ rfl rfl (rdmI.trans rfl) (dm_one _ _ _ _) ?_
              repeat (first | refine Turn.here rfl ?_ | refine Turn.next ?_)
              clear hS
              intro wW hS
              refine hK1.out _ _ (hS.sub (by repeat (first | exact List.nil_sublist _ | apply List.Sublist.cons_cons))) (fun _ => ?_)
              clear hK1
              try simp only [nR]
              refine wpAnyH_done (by kernel_rfl) ?_ _
              go_wp2_with fail
              go_round
              case rel => exact HR.out _ (hS.sub (List.Sublist.cons _ (List.Sublist.refl _)))
              case measure => simp [intOf]; omega
            · have g3' : ¬ ((j : Int) < (L2.length : Int)) := by omega
              generalize M.dTakes P (L2.take j) = D at hs hS
              have HS := Lib.hid hs
              clear hs hDk hDp
              go_wp2_with (first
  | ((with_reducible refine to_alloc 29 rfl ?_); refine Wl_alloc hS (fun _ => by rfl) _ dmZ ?_; clear hS; intro bD wW hS; simp only [nA])
  )
              refine wp_region_held_drew (S := fun W => St w.heap.size 0 0 w [⟨bW, 0, true, D.c (.slice A' P.p.want.length c')⟩, ⟨bD, 0, true, D.c (.slice B1 P.p.want.length k1)⟩] W) (by kernel_rfl) (hS.drew.sub (by repeat (first | exact List.nil_sublist _ | apply List.Sublist.cons_cons))) ?_
              intro _
              replace hS := hS.drew
              generalize World.drew _ = wX at hS ⊢
              first
                | refine wpAnyH_take (i := 0) rfl (by kernel_rfl) (by kernel_rfl) (by kernel_rfl) (fun _ _ _ h => h) (yields_row (by rfl) _ _ rfl _ _ rfl _ Try.underlying29 rfl _ (fun W hW => hW.range (.tail _ (.head _))) (dmI.trans rfl)) (hS.sub (by repeat (first | exact List.nil_sublist _ | apply List.Sublist.cons_cons))) ?_
                
              try simp only [nR]
              first
                | refine wpAnyH_take (i := 2) rfl (by kernel_rfl) (by kernel_rfl) (by kernel_rfl) (fun _ _ _ h => h) (yields_row (by rfl) _ _ rfl _ _ rfl _ Try.underlying42 rfl _ (fun W hW => hW.range (.head _)) (rdmI.trans rfl)) (hS.sub (by repeat (first | exact List.nil_sublist _ | apply List.Sublist.cons_cons))) ?_
                
              try simp only [nR]
              refine wpAnyH_ready (rs := [1]) (by kernel_rfl) (by simp) (AllReadyH.cons rfl ?_ AllReadyH.nil)
              intro K1 hK1
              rw [if_pos (by rfl)]
              try simp only [nR]
              go_simp
              refine (dplain_any D B1 _ k1 _).mono ?_
              rintro e1 v2 ⟨rfl, hb⟩
              replace hS := hS.call hb
              clear hb
              refine hK1.out _ _ (hS.sub (by repeat (first | exact List.nil_sublist _ | apply List.Sublist.cons_cons))) (fun _ => ?_)
              clear hK1
              try simp only [nR]
              refine wpAnyH_ready (rs := [3]) (by kernel_rfl) (by simp) (AllReadyH.cons rfl ?_ AllReadyH.nil)
              intro K1 hK1
              rw [if_pos (by rfl)]
              try simp only [nR]
              go_simp
              refine (HS.out _ (hS.ls hsh1 (fun e he => by repeat (first | exact List.mem_append_left _ he | refine List.Mem.tail _ ?_))) (hS.ls hsh (fun e he => by repeat (first | exact List.mem_append_right _ he | refine List.Mem.tail _ ?_)))).mono ?_
              rintro e1 v2 ⟨rfl, hb⟩
              replace hS := hS.call hb
              clear hb
              refine hK1.out _ _ (hS.sub (by repeat (first | exact List.nil_sublist _ | apply List.Sublist.cons_cons))) (fun _ => ?_)
              clear hK1
              try simp only [nR]
              refine wpAnyH_take (i := 4) (v := ?_) rfl (by kernel_rfl) (by kernel_rfl) (by kernel_rfl) (fun _ _ _ h => h) (Or.inl ⟨by rfl, ?_⟩) (hS.sub (by repeat (first | exact List.nil_sublist _ | apply List.Sublist.cons_cons))) ?_
              rotate_left 1
              · intro W hW
                clear hW
                go_simp
                all_goals with_reducible rfl
              try simp only [nR]
              refine wpAnyH_done (by kernel_rfl) ?_ _
              go_wp2_with fail
              go_returns
              exact ⟨rfl, hS.below⟩
end Go.Proofs.Ytkkkjdbcckaedaa
