/- The program's All (dmareg), by its contract. -/
import Derived.Test.YtlpoldnidojgmaaRgWrite
namespace Go.Proofs.Ytlpoldnidojgmaa
open Go.RowKit
set_option linter.unusedVariables false
set_option linter.unusedSimpArgs false
set_option maxRecDepth 100000
theorem infoU8 : (Try.prog.info? 5).map (fun i => (i.zero, i.size, i.bytes)) = some (some (.int .u8 0), 1, 1) := by kernel_rfl
theorem St.perm {B o n : Nat} {w W : World} {es es' : List Ent} (h : St B o n w es W) (hp : es.Perm es') : St B o n w es' W :=
  ⟨h.touch, fun e he => h.good e (hp.symm.subset he), (List.Perm.pairwise_iff (fun {x y} hxy hf => Ent.apart_comm (hxy (Or.comm.1 hf))) hp).1 h.sep⟩
theorem St.swapN {B o n : Nat} {w W : World} {a O E N : List Ent} (h : St B o n w ((a ++ (O ++ E)) ++ N) W) : St B o n w ((a ++ N) ++ E) W := by
  have h1 : St B o n w (a ++ (E ++ N)) W := h.sub (by
    rw [List.append_assoc]
    exact (List.Sublist.refl a).append ((List.sublist_append_right O E).append (List.Sublist.refl N)))
  rw [List.append_assoc]
  exact h1.perm (List.Perm.append_left _ List.perm_append_comm)
theorem M.rWrite_len (r : M.Rg) (b : Int) : (M.rWrite r b).want.length ≤ r.want.length + 4 := by
  have h1 := M.rWants_len b 1 3 4
  have h2 := M.rWants_len b 5 6 1
  have h3 := M.rWants_len b 6 6 1
  have h4 := M.rWants_len b 7 3 2
  have h5 := M.rWants_len b 9 2 3
  have h6 := M.rWants_len b 12 3 2
  have hite : ∀ {c : Prop} [Decidable c] {x y : M.Rg} {n : Nat}, (c → x.want.length ≤ n) → (¬ c → y.want.length ≤ n) → (if c then x else y).want.length ≤ n := by
    intro c _ x y n hx hy
    by_cases k : c
    · rw [if_pos k]; exact hx k
    · rw [if_neg k]; exact hy k
  unfold M.rWrite
  cases hw : r.want with
  | nil =>
    simp only [List.length_nil]
    unfold M.rBase M.rCmd
    repeat' refine hite (fun _ => ?_) (fun _ => ?_)
    all_goals first
      | (show (M.rWants _ _ _ _).length ≤ _; omega)
      | (show r.want.length ≤ _; rw [hw]; exact Nat.zero_le _)
      | (show ([] : List Int).length ≤ _; exact Nat.zero_le _)
      | (show ([14] : List Int).length ≤ _; decide)
  | cons k rest =>
    simp only [List.length_cons]
    unfold M.rTake
    repeat' refine hite (fun _ => ?_) (fun _ => ?_)
    all_goals first
      | (show rest.length ≤ _; omega)
      | (show (M.rWants _ _ _ _ ++ rest).length ≤ _; rw [List.length_append]; omega)
theorem M.rAll_len (r : M.Rg) (l : List Int) : (M.rAll r l).want.length ≤ r.want.length + 4 * l.length := by
  induction l generalizing r with
  | nil => exact Nat.le_refl _
  | cons x l ih =>
    have := ih (M.rWrite r x)
    have := M.rWrite_len r x
    simp only [M.rAll, List.length_cons]
    omega
theorem M.rAllC_len (r : M.Rg) (l : List Int) : (M.rAllC r l).length ≤ l.length := by
  induction l generalizing r with
  | nil => exact Nat.le_refl _
  | cons x l ih =>
    have := ih (M.rWrite r x)
    simp only [M.rAllC, List.length_append, List.length_cons]
    split <;> simp <;> omega
theorem take_succ' {L : List Int} {j : Nat} (h : j < L.length) : L.take (j + 1) = L.take j ++ [L.getD j 0] := by
  rw [List.take_add_one, List.getD_eq_getElem?_getD, List.getElem?_eq_getElem h]
  rfl
set_option maxHeartbeats 16000000 in
theorem dall_any (r : M.Rg) (hr : r.ok) (A : Option Addr) (c : Nat) (A2 : Option Addr) (c2 : Nat) (L : List Int) (hL : r.want.length + 4 * L.length ≤ 8000) (hb : ∀ x ∈ L, 0 ≤ x ∧ x ≤ 255) (hne : r.want = [] ∨ L ≠ []) (w : World) (r1 : Ls 0 w (.slice A r.want.length c) (ints .i64 r.want)) (r2 : Ls 0 w (.slice A2 L.length c2) (ints .u8 L)) :
    Calls Try.prog 31 #[.agg (r.c (.slice A r.want.length c)), .slice A2 L.length c2] w fun e w' => ∃ A' c' A3 c3, e = .returned (.tuple #[.agg ((M.rAll r L).c (.slice A' (M.rAll r L).want.length c')), .slice A3 (M.rAllC r L).length c3]) ∧ Ls w.heap.size w' (.slice A' (M.rAll r L).want.length c') (ints .i64 (M.rAll r L).want) ∧ Ls w.heap.size w' (.slice A3 (M.rAllC r L).length c3) (ints .u8 (M.rAllC r L)) ∧ Below w.heap.size w w' := by
  obtain ⟨i0, hi0, hz0, hz1, hz2⟩ := info_get infoU8
  have hat : ∀ i, i < L.length → ∃ x1 q1, A2 = some ⟨x1, q1, none⟩ ∧ L.length ≤ c2 ∧ w.cell? ⟨x1, q1 + i, none⟩ = some (.int .u8 (L.getD i 0)) := fun i hi => by
    obtain ⟨x1, q1, k1, hs1, _, hk, hc1⟩ := r2.at_ hi
    simp only [Value.slice.injEq] at hs1
    exact ⟨x1, q1, hs1.1, by omega, hc1⟩
  have HA := Lib.hid hat
  have hsh0 := r1.shp
  have hS := (St.start w.heap.size 0 0 w).came r1
  simp only [List.nil_append] at hS
  clear hat r1 r2
  go_enter Try.func31, Try.ntmps31
  go_wp2_with (first
  | ((with_reducible refine to_boxT 59 rfl ?_); refine Wl_box hS (fun _ => by rfl) _ rfl ?_; clear hS; intro b2 wW hS; simp only [Act.put, List.setIfInBounds_toArray, List.set_cons_zero, List.set_cons_succ])
  | ((with_reducible refine to_alloc 59 rfl ?_); refine Wl_alloc hS (fun _ => by rfl) _ rgZ ?_; clear hS; intro b4 wW hS; simp only [Act.put, List.setIfInBounds_toArray, List.set_cons_zero, List.set_cons_succ])
  | ((with_reducible refine to_load 59 rfl ?_); refine Wl_load hS (fun _ => by rfl) _ _ rfl _ Try.underlying59 rfl ?_; (repeat (first | (refine Row.here ⟨rgI.trans rfl, ?_⟩) | refine Row.next ?_)); (with_reducible show wpList _ _ _ _ _ _); simp only [Act.put, List.setIfInBounds_toArray, List.set_cons_zero, List.set_cons_succ])
  | ((with_reducible refine to_store 59 rfl ?_); refine Wl_store hS (fun _ => by rfl) _ _ _ rfl rfl (rgI.trans rfl) (rg_one _ _ _ _) ?_; (repeat (first | refine Turn.here rfl ?_ | refine Turn.next ?_)); clear hS; intro wW hS; try simp only [Act.put, List.setIfInBounds_toArray, List.set_cons_zero, List.set_cons_succ]))
  have HS0 := Lib.hid hS
  clear hS
  go_loopw [6, 12] (fun l i wr => ∃ (j : Nat) (E : List Ent) (A' : Option Addr) (c' : Nat), i = .int .i64 j ∧ j ≤ L.length ∧ Own l (ints .u8 (M.rAllC r (L.take j))) E ∧ Shp (.slice A' (M.rAll r (L.take j)).want.length c') (ints .i64 (M.rAll r (L.take j)).want).length ∧ (r.want = [] ∨ 0 < j → ∀ e, e ∈ entL (.slice A' (M.rAll r (L.take j)).want.length c') (ints .i64 (M.rAll r (L.take j)).want) → w.heap.size ≤ e.b) ∧
    St w.heap.size 0 0 w ([⟨b4, 0, true, M.rZero.c nilS⟩, ⟨b2, 0, true, (M.rAll r (L.take j)).c (.slice A' (M.rAll r (L.take j)).want.length c')⟩] ++ (entL (.slice A' (M.rAll r (L.take j)).want.length c') (ints .i64 (M.rAll r (L.take j)).want) ++ E)) wr) (fun _ i _ => L.length - (intOf i).toNat)
  case atStart =>
    refine ⟨0, [], A, c, rfl, Nat.zero_le _, Own.none, hsh0, fun h e he => ?_, ?_⟩
    · rcases h with h | h
      · simp only [List.take_zero, M.rAll, h] at he
        rw [show ints .i64 [] = [] from rfl, entL_nil] at he
        cases he
      · omega
    · simpa [M.rAll] using HS0.out
  case round =>
    clear HS0
    obtain ⟨j, E, A', c', rfl, hj, hO, hsh, hf, hS⟩ := hrel
    by_cases k1 : j < L.length
    · have k1' : (j : Int) < (L.length : Int) := by omega
      have k0' : (0 : Int) ≤ (j : Int) := by omega
      have k3' : (j : Int) < 8000 := by omega
      obtain ⟨x1, q1, rfl, hkc, hcell⟩ := HA.out j k1
      have hv := hS.below.cell (p := ⟨x1, q1 + j, none⟩) (World.block_lt_of_cell? w _ hcell)
      rw [hcell] at hv
      have hok : (M.rAll r (L.take j)).ok := M.rAll_ok hr fun x hx => hb x (List.mem_of_mem_take hx)
      have hbv := hb _ (getD_mem k1)
      have hlen := M.rAll_len r (L.take j)
      have hlc := M.rAllC_len r (L.take j)
      have hlt : (L.take j).length ≤ L.length := by simp; omega
      have e1 : M.rAll r (L.take (j + 1)) = M.rWrite (M.rAll r (L.take j)) (L.getD j 0) := by rw [take_succ' k1, M.rAll_snoc]
      have e2 : M.rAllC r (L.take (j + 1)) = M.rAllC r (L.take j) ++ (if M.rWriteC (M.rAll r (L.take j)) (L.getD j 0) = 0 then [] else [M.rWriteC (M.rAll r (L.take j)) (L.getD j 0)]) := by rw [take_succ' k1, M.rAllC_snoc]
      have hrel2 : ∀ W l E', Own l (ints .u8 (M.rAllC r (L.take (j + 1)))) E' → ∀ A1 c1, Shp (.slice A1 (M.rWrite (M.rAll r (L.take j)) (L.getD j 0)).want.length c1) (ints .i64 (M.rWrite (M.rAll r (L.take j)) (L.getD j 0)).want).length → (∀ e, e ∈ entL (.slice A1 (M.rWrite (M.rAll r (L.take j)) (L.getD j 0)).want.length c1) (ints .i64 (M.rWrite (M.rAll r (L.take j)) (L.getD j 0)).want) → w.heap.size ≤ e.b) → St w.heap.size 0 0 w ([⟨b4, 0, true, M.rZero.c nilS⟩, ⟨b2, 0, true, (M.rWrite (M.rAll r (L.take j)) (L.getD j 0)).c (.slice A1 (M.rWrite (M.rAll r (L.take j)) (L.getD j 0)).want.length c1)⟩] ++ (entL (.slice A1 (M.rWrite (M.rAll r (L.take j)) (L.getD j 0)).want.length c1) (ints .i64 (M.rWrite (M.rAll r (L.take j)) (L.getD j 0)).want) ++ E')) W → ∃ (j2 : Nat) (E : List Ent) (A' : Option Addr) (c' : Nat), (Value.int .i64 ((j : Int) + 1)) = .int .i64 j2 ∧ j2 ≤ L.length ∧ Own l (ints .u8 (M.rAllC r (L.take j2))) E ∧ Shp (.slice A' (M.rAll r (L.take j2)).want.length c') (ints .i64 (M.rAll r (L.take j2)).want).length ∧ (r.want = [] ∨ 0 < j2 → ∀ e, e ∈ entL (.slice A' (M.rAll r (L.take j2)).want.length c') (ints .i64 (M.rAll r (L.take j2)).want) → w.heap.size ≤ e.b) ∧
          St w.heap.size 0 0 w ([⟨b4, 0, true, M.rZero.c nilS⟩, ⟨b2, 0, true, (M.rAll r (L.take j2)).c (.slice A' (M.rAll r (L.take j2)).want.length c')⟩] ++ (entL (.slice A' (M.rAll r (L.take j2)).want.length c') (ints .i64 (M.rAll r (L.take j2)).want) ++ E)) W := by
        intro W l E' h1 A1 c1 h2 h3 h4
        exact ⟨j + 1, E', A1, c1, by simp, by omega, h1, by rw [e1]; exact h2, by rw [e1]; exact fun _ => h3, by rw [e1]; exact h4⟩
      have HR := Lib.hid hrel2
      have HE2 := Lib.hid e2
      have hw := fun W hW => dwrite_any (M.rAll r (L.take j)) hok (by omega) A' c' (L.getD j 0) hbv.1 hbv.2 W hW
      have hlc2 : (M.rAllC r (L.take j)).length ≤ 8000 := by omega
      clear e1 e2 hrel2 hok hlen hlc hlt hcell hb hL hbv hf
      generalize L.getD j 0 = v at hw HR HE2 hv
      generalize M.rWrite (M.rAll r (L.take j)) v = R at hw HR
      generalize M.rWriteC (M.rAll r (L.take j)) v = C at hw HE2
      generalize M.rAll r (L.take j) = R0 at hw hS hsh HR
      generalize M.rAllC r (L.take j) = C0 at hO HE2 hlc2
      have HW := Lib.hid hw
      clear hw
      simp only [List.cons_append, List.nil_append] at hS
      go_wp2_with (first
  | ((with_reducible refine to_boxT 59 rfl ?_); refine Wl_box hS (fun _ => by rfl) _ rfl ?_; clear hS; intro b2 wW hS; simp only [Act.put, List.setIfInBounds_toArray, List.set_cons_zero, List.set_cons_succ])
  | ((with_reducible refine to_alloc 59 rfl ?_); refine Wl_alloc hS (fun _ => by rfl) _ rgZ ?_; clear hS; intro b4 wW hS; simp only [Act.put, List.setIfInBounds_toArray, List.set_cons_zero, List.set_cons_succ])
  | ((with_reducible refine to_load 59 rfl ?_); refine Wl_load hS (fun _ => by rfl) _ _ rfl _ Try.underlying59 rfl ?_; (repeat (first | (refine Row.here ⟨rgI.trans rfl, ?_⟩) | refine Row.next ?_)); (with_reducible show wpList _ _ _ _ _ _); simp only [Act.put, List.setIfInBounds_toArray, List.set_cons_zero, List.set_cons_succ])
  | ((with_reducible refine to_store 59 rfl ?_); refine Wl_store hS (fun _ => by rfl) _ _ _ rfl rfl (rgI.trans rfl) (rg_one _ _ _ _) ?_; (repeat (first | refine Turn.here rfl ?_ | refine Turn.next ?_)); clear hS; intro wW hS; try simp only [Act.put, List.setIfInBounds_toArray, List.set_cons_zero, List.set_cons_succ]))
      refine (HW.out _ (hS.ls hsh (fun e he => by repeat (first | exact he | exact List.mem_append_right _ he | exact List.mem_append_left _ he | exact List.mem_append_left _ (List.mem_append_right _ he) | exact List.mem_append_left _ (List.mem_append_left _ he) | refine List.Mem.tail _ ?_)))).mono ?_
      rintro e w1 ⟨A1, c1, rfl, hl, hbl⟩
      have hf1 := fun e he => Nat.le_trans hS.size (hl.ent e he).1
      have hsh1 := hl.shp
      replace hS := St.swapN (a := [_, _]) (hS.callN hbl hl)
      simp only [List.cons_append, List.nil_append] at hS
      clear hl hbl hsh
      by_cases hC : C = 0
      · have hE2 := HE2.out
        rw [if_pos hC, List.append_nil] at hE2
        subst hC
        go_wp2_with (first
  | ((with_reducible refine to_boxT 59 rfl ?_); refine Wl_box hS (fun _ => by rfl) _ rfl ?_; clear hS; intro b2 wW hS; simp only [Act.put, List.setIfInBounds_toArray, List.set_cons_zero, List.set_cons_succ])
  | ((with_reducible refine to_alloc 59 rfl ?_); refine Wl_alloc hS (fun _ => by rfl) _ rgZ ?_; clear hS; intro b4 wW hS; simp only [Act.put, List.setIfInBounds_toArray, List.set_cons_zero, List.set_cons_succ])
  | ((with_reducible refine to_load 59 rfl ?_); refine Wl_load hS (fun _ => by rfl) _ _ rfl _ Try.underlying59 rfl ?_; (repeat (first | (refine Row.here ⟨rgI.trans rfl, ?_⟩) | refine Row.next ?_)); (with_reducible show wpList _ _ _ _ _ _); simp only [Act.put, List.setIfInBounds_toArray, List.set_cons_zero, List.set_cons_succ])
  | ((with_reducible refine to_store 59 rfl ?_); refine Wl_store hS (fun _ => by rfl) _ _ _ rfl rfl (rgI.trans rfl) (rg_one _ _ _ _) ?_; (repeat (first | refine Turn.here rfl ?_ | refine Turn.next ?_)); clear hS; intro wW hS; try simp only [Act.put, List.setIfInBounds_toArray, List.set_cons_zero, List.set_cons_succ]))
        go_round
        case rel => exact HR.out _ _ _ (by rw [hE2]; exact hO) A1 c1 hsh1 hf1 hS
        case measure => simp [intOf]; omega
      · have hE2 := HE2.out
        rw [if_neg hC] at hE2
        have hC' : (C == 0) = false := by simpa using hC
        have HE3 := Lib.hid hE2
        clear hE2 HE2
        go_wp2_with (first | ((with_reducible refine to_app ?_); refine Wl_app (es := _ :: _ :: _ :: _) (hS.new _ _) hO 5 i0 (.int .u8 0) 1 Try.underlying52 hi0 hz0 hz1 hz2 rfl rfl 1 (ints .u8 [C]) (src_one _ _ _ _ _ _ Try.underlying52) (by simp [ints, maxLen]; omega) (by simp [ints]; omega) ?_; intro v2 E2 w2 hO2 hS2) | first
  | ((with_reducible refine to_boxT 59 rfl ?_); refine Wl_box hS (fun _ => by rfl) _ rfl ?_; clear hS; intro b2 wW hS; simp only [Act.put, List.setIfInBounds_toArray, List.set_cons_zero, List.set_cons_succ])
  | ((with_reducible refine to_alloc 59 rfl ?_); refine Wl_alloc hS (fun _ => by rfl) _ rgZ ?_; clear hS; intro b4 wW hS; simp only [Act.put, List.setIfInBounds_toArray, List.set_cons_zero, List.set_cons_succ])
  | ((with_reducible refine to_load 59 rfl ?_); refine Wl_load hS (fun _ => by rfl) _ _ rfl _ Try.underlying59 rfl ?_; (repeat (first | (refine Row.here ⟨rgI.trans rfl, ?_⟩) | refine Row.next ?_)); (with_reducible show wpList _ _ _ _ _ _); simp only [Act.put, List.setIfInBounds_toArray, List.set_cons_zero, List.set_cons_succ])
  | ((with_reducible refine to_store 59 rfl ?_); refine Wl_store hS (fun _ => by rfl) _ _ _ rfl rfl (rgI.trans rfl) (rg_one _ _ _ _) ?_; (repeat (first | refine Turn.here rfl ?_ | refine Turn.next ?_)); clear hS; intro wW hS; try simp only [Act.put, List.setIfInBounds_toArray, List.set_cons_zero, List.set_cons_succ]))
        go_round
        case rel => exact HR.out _ _ _ (by rw [HE3.out, ints_append]; exact hO2) A1 c1 hsh1 hf1 (hS2.sub (List.sublist_cons_self _ _))
        case measure => simp [intOf]; omega
    · have k1' : ¬ ((j : Int) < (L.length : Int)) := by omega
      obtain rfl : j = L.length := by omega
      rw [List.take_length] at hO hsh hf hS
      simp only [List.cons_append, List.nil_append] at hS
      go_wp2_with (first
  | ((with_reducible refine to_boxT 59 rfl ?_); refine Wl_box hS (fun _ => by rfl) _ rfl ?_; clear hS; intro b2 wW hS; simp only [Act.put, List.setIfInBounds_toArray, List.set_cons_zero, List.set_cons_succ])
  | ((with_reducible refine to_alloc 59 rfl ?_); refine Wl_alloc hS (fun _ => by rfl) _ rgZ ?_; clear hS; intro b4 wW hS; simp only [Act.put, List.setIfInBounds_toArray, List.set_cons_zero, List.set_cons_succ])
  | ((with_reducible refine to_load 59 rfl ?_); refine Wl_load hS (fun _ => by rfl) _ _ rfl _ Try.underlying59 rfl ?_; (repeat (first | (refine Row.here ⟨rgI.trans rfl, ?_⟩) | refine Row.next ?_)); (with_reducible show wpList _ _ _ _ _ _); simp only [Act.put, List.setIfInBounds_toArray, List.set_cons_zero, List.set_cons_succ])
  | ((with_reducible refine to_store 59 rfl ?_); refine Wl_store hS (fun _ => by rfl) _ _ _ rfl rfl (rgI.trans rfl) (rg_one _ _ _ _) ?_; (repeat (first | refine Turn.here rfl ?_ | refine Turn.next ?_)); clear hS; intro wW hS; try simp only [Act.put, List.setIfInBounds_toArray, List.set_cons_zero, List.set_cons_succ]))
      refine ret_tmp_st hS rfl _ _ rfl _ rfl rfl _ Try.underlying59 rfl ?_
      repeat (first | (refine Row.here ⟨rgI.trans rfl, ?_⟩) | refine Row.next ?_)
      obtain ⟨A3, c3, rfl⟩ := hO.len
      have hres := hO.res (es := _ :: _ :: _) hS
      rw [ints_length] at hres ⊢
      have hf2 : ∀ e, e ∈ entL (.slice A' (M.rAll r L).want.length c') (ints .i64 (M.rAll r L).want) → w.heap.size ≤ e.b := hf (by
        rcases hne with h | h
        · exact .inl h
        · exact .inr (List.length_pos_iff.2 h))
      exact ⟨A', c', A3, c3, rfl, hS.lsF hsh hf2 (fun e he => by repeat (first | exact he | exact List.mem_append_right _ he | exact List.mem_append_left _ he | exact List.mem_append_left _ (List.mem_append_right _ he) | exact List.mem_append_left _ (List.mem_append_left _ he) | refine List.Mem.tail _ ?_)), hres, hS.below⟩
end Go.Proofs.Ytlpoldnidojgmaa
