/- charabanclaw21.DmaregAll is true at whatever bytes. -/
import Derived.Test.YtlpoldnidojgmaaRgAwake
import Derived.Laws.BytesString
import Derived.Lib.BufferRead
namespace Go.Proofs.Ytlpoldnidojgmaa
open Go.RowKit
set_option linter.unusedVariables false
set_option linter.unusedSimpArgs false
set_option maxRecDepth 100000
def strOf (L : List Int) : ByteArray := L.foldl (fun r n => r.push (UInt8.ofNat n.toNat)) ByteArray.empty
theorem Ls.str {F : Nat} {W : World} {s : Value} {L : List Int} (h : Ls F W s (ints .u8 L)) : (convert 52 9 s).run Try.prog W = .ok (.string (strOf L)) W := by
  obtain ⟨A, c, rfl, h1, h2, h3⟩ := h.shp
  cases A with
  | none =>
    have h0 : (ints .u8 L).length = 0 := Decidable.byContradiction fun hne => by obtain ⟨b, q, hb⟩ := h3 hne; cases hb
    have hL : L = [] := List.eq_nil_of_length_eq_zero (by rw [← ints_length .u8 L]; exact h0)
    subst hL
    exact Lib.run_convert_nil_bytes W _ _ _ c Try.underlying52 Try.underlying5 Try.underlying9
  | some x =>
    rw [run_convert_bytes_string W _ _ _ _ _ _ Try.underlying52 Try.underlying5 Try.underlying9]
    have hc := run_firstCells_some (P := Try.prog) W 1 (ints .u8 L).length x (ints .u8 L).length c (ints .u8 L) (by simp) (fun j v hv => by
      obtain ⟨b, q, c', hs, _, _, _, _, hr⟩ := h.all (by intro e; rw [e] at hv; simp at hv)
      simp only [Value.slice.injEq, Option.some.injEq] at hs
      rw [hs.1, Addr.add_lit]
      exact hr j v hv)
    simp only [Builtin.firstCells, Nat.mul_one] at hc
    exact run_bytesToString W x _ c L hc
theorem St.callN2 {B o n : Nat} {w W W' : World} {es : List Ent} {s s2 : Value} {vs vs2 : List Value} (h : St B o n w es W) (hb : Below W.heap.size W W') (hl : Ls W.heap.size W' s vs) (hl2 : Ls W.heap.size W' s2 vs2) : St B o n w (es ++ (entL s vs ++ entL s2 vs2)) W' := by
  rw [← List.append_assoc]
  refine (h.callN hb hl).plus (fun e he => (hl2.ent e he).2) (fun e he y hy hf => ?_)
  rcases List.mem_append.1 hy with hy | hy
  · have := (h.good y hy).lt
    have := (hl2.ent e he).1
    exact .inl (by omega)
  · rw [entL_fr hy] at hf; cases hf
theorem M.rReset_want : M.rReset.want = [] := rfl
set_option maxHeartbeats 16000000 in
theorem dall_true (A2 : Option Addr) (n1 c2 : Nat) (L : List Int) (w : World) (hl : L.length = n1) (hm : n1 ≤ maxLen) (r2 : Ls 0 w (.slice A2 n1 c2) (ints .u8 L)) (hb : ∀ x ∈ L, 0 ≤ x ∧ x ≤ 255) :
    Calls Try.prog 8 #[.slice A2 n1 c2] w fun e w' => e = .returned (.bool true) ∧ Below w.heap.size w w' := by
  subst hl
  simp only [maxLen] at hm
  have hS := St.start w.heap.size 0 0 w
  by_cases g1 : 300 < L.length
  · clear r2 hb
    go_enter Try.func8, Try.ntmps8
    go_wp2_with (first
  | ((with_reducible refine to_alloc 59 rfl ?_); refine Wl_alloc hS (fun _ => by rfl) _ rgZ ?_; clear hS; intro b4 wW hS; simp only [Act.put, List.setIfInBounds_toArray, List.set_cons_zero, List.set_cons_succ])
  | ((with_reducible refine to_alloc 62 rfl ?_); refine Wl_alloc hS (fun _ => by rfl) _ rrgZ ?_; clear hS; intro b6 wW hS; simp only [Act.put, List.setIfInBounds_toArray, List.set_cons_zero, List.set_cons_succ])
  | ((with_reducible refine to_load 59 rfl ?_); refine Wl_load hS (fun _ => by rfl) _ _ rfl _ Try.underlying59 rfl ?_; (repeat (first | (refine Row.here ⟨rgI.trans rfl, ?_⟩) | refine Row.next ?_)); (with_reducible show wpList _ _ _ _ _ _); simp only [Act.put, List.setIfInBounds_toArray, List.set_cons_zero, List.set_cons_succ])
  | ((with_reducible refine to_store 59 rfl ?_); refine Wl_store hS (fun _ => by rfl) _ _ _ rfl rfl (rgI.trans rfl) (rg_one _ _ _ _) ?_; (repeat (first | refine Turn.here rfl ?_ | refine Turn.next ?_)); clear hS; intro wW hS; try simp only [Act.put, List.setIfInBounds_toArray, List.set_cons_zero, List.set_cons_succ])
  | ((with_reducible refine to_store 62 rfl ?_); refine Wl_store hS (fun _ => by rfl) _ _ _ rfl rfl (rrgI.trans rfl) (rg_one _ _ _ _) ?_; (repeat (first | refine Turn.here rfl ?_ | refine Turn.next ?_)); clear hS; intro wW hS; try simp only [Act.put, List.setIfInBounds_toArray, List.set_cons_zero, List.set_cons_succ]))
    refine (dawake_any _).mono ?_
    rintro e w1 ⟨rfl, hb⟩
    replace hS := hS.call hb
    clear hb
    go_wp2_with (first
  | ((with_reducible refine to_alloc 59 rfl ?_); refine Wl_alloc hS (fun _ => by rfl) _ rgZ ?_; clear hS; intro b4 wW hS; simp only [Act.put, List.setIfInBounds_toArray, List.set_cons_zero, List.set_cons_succ])
  | ((with_reducible refine to_alloc 62 rfl ?_); refine Wl_alloc hS (fun _ => by rfl) _ rrgZ ?_; clear hS; intro b6 wW hS; simp only [Act.put, List.setIfInBounds_toArray, List.set_cons_zero, List.set_cons_succ])
  | ((with_reducible refine to_load 59 rfl ?_); refine Wl_load hS (fun _ => by rfl) _ _ rfl _ Try.underlying59 rfl ?_; (repeat (first | (refine Row.here ⟨rgI.trans rfl, ?_⟩) | refine Row.next ?_)); (with_reducible show wpList _ _ _ _ _ _); simp only [Act.put, List.setIfInBounds_toArray, List.set_cons_zero, List.set_cons_succ])
  | ((with_reducible refine to_store 59 rfl ?_); refine Wl_store hS (fun _ => by rfl) _ _ _ rfl rfl (rgI.trans rfl) (rg_one _ _ _ _) ?_; (repeat (first | refine Turn.here rfl ?_ | refine Turn.next ?_)); clear hS; intro wW hS; try simp only [Act.put, List.setIfInBounds_toArray, List.set_cons_zero, List.set_cons_succ])
  | ((with_reducible refine to_store 62 rfl ?_); refine Wl_store hS (fun _ => by rfl) _ _ _ rfl rfl (rrgI.trans rfl) (rg_one _ _ _ _) ?_; (repeat (first | refine Turn.here rfl ?_ | refine Turn.next ?_)); clear hS; intro wW hS; try simp only [Act.put, List.setIfInBounds_toArray, List.set_cons_zero, List.set_cons_succ]))
    go_returns
    exact ⟨rfl, hS.below⟩
  · have hlen : M.rReset.want.length + 4 * L.length ≤ 8000 := by rw [M.rReset_want]; simp; omega
    have ha := fun W hW => dall_any M.rReset M.rReset_ok none 0 A2 c2 L hlen hb (.inl rfl) W (Ls.nil _ _ _ _ (Nat.zero_le _)) (r2.below hW)
    have hv := fun W hW => rall_any M.rReset M.rReset_ok none 0 A2 c2 L hlen hb (.inl rfl) W (Ls.nil _ _ _ _ (Nat.zero_le _)) (r2.below hW)
    have hal := M.rAll_len M.rReset L
    have hml : (M.rAll M.rReset L).want.length ≤ maxLen := by simp only [maxLen]; omega
    have hs := fun A1 c1 A2 c2 W g1 g2 => rsame_any (M.rAll M.rReset L) A1 c1 A2 c2 hml W g1 g2
    generalize M.rAll M.rReset L = R at ha hv hs
    generalize M.rAllC M.rReset L = C at ha hv
    have HA := Lib.hid ha
    have HV := Lib.hid hv
    have HS := Lib.hid hs
    clear ha hv hs r2 hb hlen hal hml
    go_enter Try.func8, Try.ntmps8
    go_wp2_with (first
  | ((with_reducible refine to_alloc 59 rfl ?_); refine Wl_alloc hS (fun _ => by rfl) _ rgZ ?_; clear hS; intro b4 wW hS; simp only [Act.put, List.setIfInBounds_toArray, List.set_cons_zero, List.set_cons_succ])
  | ((with_reducible refine to_alloc 62 rfl ?_); refine Wl_alloc hS (fun _ => by rfl) _ rrgZ ?_; clear hS; intro b6 wW hS; simp only [Act.put, List.setIfInBounds_toArray, List.set_cons_zero, List.set_cons_succ])
  | ((with_reducible refine to_load 59 rfl ?_); refine Wl_load hS (fun _ => by rfl) _ _ rfl _ Try.underlying59 rfl ?_; (repeat (first | (refine Row.here ⟨rgI.trans rfl, ?_⟩) | refine Row.next ?_)); (with_reducible show wpList _ _ _ _ _ _); simp only [Act.put, List.setIfInBounds_toArray, List.set_cons_zero, List.set_cons_succ])
  | ((with_reducible refine to_store 59 rfl ?_); refine Wl_store hS (fun _ => by rfl) _ _ _ rfl rfl (rgI.trans rfl) (rg_one _ _ _ _) ?_; (repeat (first | refine Turn.here rfl ?_ | refine Turn.next ?_)); clear hS; intro wW hS; try simp only [Act.put, List.setIfInBounds_toArray, List.set_cons_zero, List.set_cons_succ])
  | ((with_reducible refine to_store 62 rfl ?_); refine Wl_store hS (fun _ => by rfl) _ _ _ rfl rfl (rrgI.trans rfl) (rg_one _ _ _ _) ?_; (repeat (first | refine Turn.here rfl ?_ | refine Turn.next ?_)); clear hS; intro wW hS; try simp only [Act.put, List.setIfInBounds_toArray, List.set_cons_zero, List.set_cons_succ]))
    refine (dawake_any _).mono ?_
    rintro e w1 ⟨rfl, hb⟩
    replace hS := hS.call hb
    clear hb
    go_wp2_with (first
  | ((with_reducible refine to_alloc 59 rfl ?_); refine Wl_alloc hS (fun _ => by rfl) _ rgZ ?_; clear hS; intro b4 wW hS; simp only [Act.put, List.setIfInBounds_toArray, List.set_cons_zero, List.set_cons_succ])
  | ((with_reducible refine to_alloc 62 rfl ?_); refine Wl_alloc hS (fun _ => by rfl) _ rrgZ ?_; clear hS; intro b6 wW hS; simp only [Act.put, List.setIfInBounds_toArray, List.set_cons_zero, List.set_cons_succ])
  | ((with_reducible refine to_load 59 rfl ?_); refine Wl_load hS (fun _ => by rfl) _ _ rfl _ Try.underlying59 rfl ?_; (repeat (first | (refine Row.here ⟨rgI.trans rfl, ?_⟩) | refine Row.next ?_)); (with_reducible show wpList _ _ _ _ _ _); simp only [Act.put, List.setIfInBounds_toArray, List.set_cons_zero, List.set_cons_succ])
  | ((with_reducible refine to_store 59 rfl ?_); refine Wl_store hS (fun _ => by rfl) _ _ _ rfl rfl (rgI.trans rfl) (rg_one _ _ _ _) ?_; (repeat (first | refine Turn.here rfl ?_ | refine Turn.next ?_)); clear hS; intro wW hS; try simp only [Act.put, List.setIfInBounds_toArray, List.set_cons_zero, List.set_cons_succ])
  | ((with_reducible refine to_store 62 rfl ?_); refine Wl_store hS (fun _ => by rfl) _ _ _ rfl rfl (rrgI.trans rfl) (rg_one _ _ _ _) ?_; (repeat (first | refine Turn.here rfl ?_ | refine Turn.next ?_)); clear hS; intro wW hS; try simp only [Act.put, List.setIfInBounds_toArray, List.set_cons_zero, List.set_cons_succ]))
    refine (dreset_any _).mono ?_
    rintro e w1 ⟨rfl, hb⟩
    replace hS := hS.call hb
    clear hb
    go_wp2_with (first
  | ((with_reducible refine to_alloc 59 rfl ?_); refine Wl_alloc hS (fun _ => by rfl) _ rgZ ?_; clear hS; intro b4 wW hS; simp only [Act.put, List.setIfInBounds_toArray, List.set_cons_zero, List.set_cons_succ])
  | ((with_reducible refine to_alloc 62 rfl ?_); refine Wl_alloc hS (fun _ => by rfl) _ rrgZ ?_; clear hS; intro b6 wW hS; simp only [Act.put, List.setIfInBounds_toArray, List.set_cons_zero, List.set_cons_succ])
  | ((with_reducible refine to_load 59 rfl ?_); refine Wl_load hS (fun _ => by rfl) _ _ rfl _ Try.underlying59 rfl ?_; (repeat (first | (refine Row.here ⟨rgI.trans rfl, ?_⟩) | refine Row.next ?_)); (with_reducible show wpList _ _ _ _ _ _); simp only [Act.put, List.setIfInBounds_toArray, List.set_cons_zero, List.set_cons_succ])
  | ((with_reducible refine to_store 59 rfl ?_); refine Wl_store hS (fun _ => by rfl) _ _ _ rfl rfl (rgI.trans rfl) (rg_one _ _ _ _) ?_; (repeat (first | refine Turn.here rfl ?_ | refine Turn.next ?_)); clear hS; intro wW hS; try simp only [Act.put, List.setIfInBounds_toArray, List.set_cons_zero, List.set_cons_succ])
  | ((with_reducible refine to_store 62 rfl ?_); refine Wl_store hS (fun _ => by rfl) _ _ _ rfl rfl (rrgI.trans rfl) (rg_one _ _ _ _) ?_; (repeat (first | refine Turn.here rfl ?_ | refine Turn.next ?_)); clear hS; intro wW hS; try simp only [Act.put, List.setIfInBounds_toArray, List.set_cons_zero, List.set_cons_succ]))
    refine (HA.out _ hS.below).mono ?_
    rintro e w1 ⟨A1, c1, A3, c3, rfl, hl, hl3, hbl⟩
    have hsh1 := hl.shp
    have hsh3 := hl3.shp
    replace hS := hS.callN2 hbl hl hl3
    simp only [List.cons_append, List.nil_append] at hS
    clear hl hl3 hbl
    go_wp2_with (first
  | ((with_reducible refine to_alloc 59 rfl ?_); refine Wl_alloc hS (fun _ => by rfl) _ rgZ ?_; clear hS; intro b4 wW hS; simp only [Act.put, List.setIfInBounds_toArray, List.set_cons_zero, List.set_cons_succ])
  | ((with_reducible refine to_alloc 62 rfl ?_); refine Wl_alloc hS (fun _ => by rfl) _ rrgZ ?_; clear hS; intro b6 wW hS; simp only [Act.put, List.setIfInBounds_toArray, List.set_cons_zero, List.set_cons_succ])
  | ((with_reducible refine to_load 59 rfl ?_); refine Wl_load hS (fun _ => by rfl) _ _ rfl _ Try.underlying59 rfl ?_; (repeat (first | (refine Row.here ⟨rgI.trans rfl, ?_⟩) | refine Row.next ?_)); (with_reducible show wpList _ _ _ _ _ _); simp only [Act.put, List.setIfInBounds_toArray, List.set_cons_zero, List.set_cons_succ])
  | ((with_reducible refine to_store 59 rfl ?_); refine Wl_store hS (fun _ => by rfl) _ _ _ rfl rfl (rgI.trans rfl) (rg_one _ _ _ _) ?_; (repeat (first | refine Turn.here rfl ?_ | refine Turn.next ?_)); clear hS; intro wW hS; try simp only [Act.put, List.setIfInBounds_toArray, List.set_cons_zero, List.set_cons_succ])
  | ((with_reducible refine to_store 62 rfl ?_); refine Wl_store hS (fun _ => by rfl) _ _ _ rfl rfl (rrgI.trans rfl) (rg_one _ _ _ _) ?_; (repeat (first | refine Turn.here rfl ?_ | refine Turn.next ?_)); clear hS; intro wW hS; try simp only [Act.put, List.setIfInBounds_toArray, List.set_cons_zero, List.set_cons_succ]))
    refine (rreset_any _).mono ?_
    rintro e w1 ⟨rfl, hb⟩
    replace hS := hS.call hb
    clear hb
    go_wp2_with (first
  | ((with_reducible refine to_alloc 59 rfl ?_); refine Wl_alloc hS (fun _ => by rfl) _ rgZ ?_; clear hS; intro b4 wW hS; simp only [Act.put, List.setIfInBounds_toArray, List.set_cons_zero, List.set_cons_succ])
  | ((with_reducible refine to_alloc 62 rfl ?_); refine Wl_alloc hS (fun _ => by rfl) _ rrgZ ?_; clear hS; intro b6 wW hS; simp only [Act.put, List.setIfInBounds_toArray, List.set_cons_zero, List.set_cons_succ])
  | ((with_reducible refine to_load 59 rfl ?_); refine Wl_load hS (fun _ => by rfl) _ _ rfl _ Try.underlying59 rfl ?_; (repeat (first | (refine Row.here ⟨rgI.trans rfl, ?_⟩) | refine Row.next ?_)); (with_reducible show wpList _ _ _ _ _ _); simp only [Act.put, List.setIfInBounds_toArray, List.set_cons_zero, List.set_cons_succ])
  | ((with_reducible refine to_store 59 rfl ?_); refine Wl_store hS (fun _ => by rfl) _ _ _ rfl rfl (rgI.trans rfl) (rg_one _ _ _ _) ?_; (repeat (first | refine Turn.here rfl ?_ | refine Turn.next ?_)); clear hS; intro wW hS; try simp only [Act.put, List.setIfInBounds_toArray, List.set_cons_zero, List.set_cons_succ])
  | ((with_reducible refine to_store 62 rfl ?_); refine Wl_store hS (fun _ => by rfl) _ _ _ rfl rfl (rrgI.trans rfl) (rg_one _ _ _ _) ?_; (repeat (first | refine Turn.here rfl ?_ | refine Turn.next ?_)); clear hS; intro wW hS; try simp only [Act.put, List.setIfInBounds_toArray, List.set_cons_zero, List.set_cons_succ]))
    refine (HV.out _ hS.below).mono ?_
    rintro e w1 ⟨A5, c5, A7, c7, rfl, hl, hl3, hbl⟩
    have hsh5 := hl.shp
    have hsh7 := hl3.shp
    replace hS := hS.callN2 hbl hl hl3
    simp only [List.cons_append, List.nil_append] at hS
    clear hl hl3 hbl
    go_wp2_with (first
  | ((with_reducible refine to_alloc 59 rfl ?_); refine Wl_alloc hS (fun _ => by rfl) _ rgZ ?_; clear hS; intro b4 wW hS; simp only [Act.put, List.setIfInBounds_toArray, List.set_cons_zero, List.set_cons_succ])
  | ((with_reducible refine to_alloc 62 rfl ?_); refine Wl_alloc hS (fun _ => by rfl) _ rrgZ ?_; clear hS; intro b6 wW hS; simp only [Act.put, List.setIfInBounds_toArray, List.set_cons_zero, List.set_cons_succ])
  | ((with_reducible refine to_load 59 rfl ?_); refine Wl_load hS (fun _ => by rfl) _ _ rfl _ Try.underlying59 rfl ?_; (repeat (first | (refine Row.here ⟨rgI.trans rfl, ?_⟩) | refine Row.next ?_)); (with_reducible show wpList _ _ _ _ _ _); simp only [Act.put, List.setIfInBounds_toArray, List.set_cons_zero, List.set_cons_succ])
  | ((with_reducible refine to_store 59 rfl ?_); refine Wl_store hS (fun _ => by rfl) _ _ _ rfl rfl (rgI.trans rfl) (rg_one _ _ _ _) ?_; (repeat (first | refine Turn.here rfl ?_ | refine Turn.next ?_)); clear hS; intro wW hS; try simp only [Act.put, List.setIfInBounds_toArray, List.set_cons_zero, List.set_cons_succ])
  | ((with_reducible refine to_store 62 rfl ?_); refine Wl_store hS (fun _ => by rfl) _ _ _ rfl rfl (rrgI.trans rfl) (rg_one _ _ _ _) ?_; (repeat (first | refine Turn.here rfl ?_ | refine Turn.next ?_)); clear hS; intro wW hS; try simp only [Act.put, List.setIfInBounds_toArray, List.set_cons_zero, List.set_cons_succ]))
    generalize hN : (entL (.slice A1 R.want.length c1) (ints .i64 R.want) ++ entL (.slice A3 C.length c3) (ints .u8 C)) ++ (entL (.slice A5 R.want.length c5) (ints .i64 R.want) ++ entL (.slice A7 C.length c7) (ints .u8 C)) = NN at hS
    have n1 : ∀ e, e ∈ entL (.slice A1 R.want.length c1) (ints .i64 R.want) → e ∈ NN := fun e he => by rw [← hN]; exact List.mem_append_left _ (List.mem_append_left _ he)
    have n3 : ∀ e, e ∈ entL (.slice A3 C.length c3) (ints .u8 C) → e ∈ NN := fun e he => by rw [← hN]; exact List.mem_append_left _ (List.mem_append_right _ he)
    have n5 : ∀ e, e ∈ entL (.slice A5 R.want.length c5) (ints .i64 R.want) → e ∈ NN := fun e he => by rw [← hN]; exact List.mem_append_right _ (List.mem_append_left _ he)
    have n7 : ∀ e, e ∈ entL (.slice A7 C.length c7) (ints .u8 C) → e ∈ NN := fun e he => by rw [← hN]; exact List.mem_append_right _ (List.mem_append_right _ he)
    clear hN
    refine wp_region_held_drew (S := fun W => St w.heap.size 0 0 w (⟨b6, 0, true, R.c (.slice A5 R.want.length c5)⟩ :: ⟨b4, 0, true, R.c (.slice A1 R.want.length c1)⟩ :: NN) W) (by kernel_rfl) (hS.drew.sub (by repeat (first | exact List.Sublist.slnil | exact List.nil_sublist _ | exact List.Sublist.refl _ | apply List.Sublist.cons_cons | apply List.Sublist.cons))) ?_
    intro _
    replace hS := hS.drew
    generalize World.drew _ = wX at hS ⊢
    first
      | refine wpAnyH_take (i := 0) rfl (by kernel_rfl) (by kernel_rfl) (by kernel_rfl) (fun _ _ _ h => h) (yields_row (by rfl) _ _ rfl _ _ rfl _ Try.underlying59 rfl _ (fun W hW => hW.range (.head _)) (rgI.trans rfl)) (hS.sub (by repeat (first | exact List.Sublist.slnil | exact List.nil_sublist _ | exact List.Sublist.refl _ | apply List.Sublist.cons_cons | apply List.Sublist.cons))) ?_
      | refine wpAnyH_take (i := 0) rfl (by kernel_rfl) (by kernel_rfl) (by kernel_rfl) (fun _ _ _ h => h) (yields_row (by rfl) _ _ rfl _ _ rfl _ Try.underlying59 rfl _ (fun W hW => hW.range (.tail _ (.head _))) (rgI.trans rfl)) (hS.sub (by repeat (first | exact List.Sublist.slnil | exact List.nil_sublist _ | exact List.Sublist.refl _ | apply List.Sublist.cons_cons | apply List.Sublist.cons))) ?_
      | refine wpAnyH_take (i := 0) rfl (by kernel_rfl) (by kernel_rfl) (by kernel_rfl) (fun _ _ _ h => h) (yields_row (by rfl) _ _ rfl _ _ rfl _ Try.underlying59 rfl _ (fun W hW => hW.range (.tail _ (.tail _ (.head _)))) (rgI.trans rfl)) (hS.sub (by repeat (first | exact List.Sublist.slnil | exact List.nil_sublist _ | exact List.Sublist.refl _ | apply List.Sublist.cons_cons | apply List.Sublist.cons))) ?_
      | refine wpAnyH_take (i := 0) rfl (by kernel_rfl) (by kernel_rfl) (by kernel_rfl) (fun _ _ _ h => h) (yields_row (by rfl) _ _ rfl _ _ rfl _ Try.underlying59 rfl _ (fun W hW => hW.range (.tail _ (.tail _ (.tail _ (.head _))))) (rgI.trans rfl)) (hS.sub (by repeat (first | exact List.Sublist.slnil | exact List.nil_sublist _ | exact List.Sublist.refl _ | apply List.Sublist.cons_cons | apply List.Sublist.cons))) ?_
      | refine wpAnyH_take (i := 0) rfl (by kernel_rfl) (by kernel_rfl) (by kernel_rfl) (fun _ _ _ h => h) (yields_row (by rfl) _ _ rfl _ _ rfl _ Try.underlying59 rfl _ (fun W hW => hW.range (.tail _ (.tail _ (.tail _ (.tail _ (.head _)))))) (rgI.trans rfl)) (hS.sub (by repeat (first | exact List.Sublist.slnil | exact List.nil_sublist _ | exact List.Sublist.refl _ | apply List.Sublist.cons_cons | apply List.Sublist.cons))) ?_
      | refine wpAnyH_take (i := 0) rfl (by kernel_rfl) (by kernel_rfl) (by kernel_rfl) (fun _ _ _ h => h) (yields_row (by rfl) _ _ rfl _ _ rfl _ Try.underlying59 rfl _ (fun W hW => hW.range (.tail _ (.tail _ (.tail _ (.tail _ (.tail _ (.head _))))))) (rgI.trans rfl)) (hS.sub (by repeat (first | exact List.Sublist.slnil | exact List.nil_sublist _ | exact List.Sublist.refl _ | apply List.Sublist.cons_cons | apply List.Sublist.cons))) ?_
    try simp only [Act.put, List.setIfInBounds_toArray, List.set_cons_zero, List.set_cons_succ, List.getElem_toArray, List.getElem_cons_succ, List.getElem_cons_zero]
    first
      | refine wpAnyH_take (i := 2) rfl (by kernel_rfl) (by kernel_rfl) (by kernel_rfl) (fun _ _ _ h => h) (yields_row (by rfl) _ _ rfl _ _ rfl _ Try.underlying62 rfl _ (fun W hW => hW.range (.head _)) (rrgI.trans rfl)) (hS.sub (by repeat (first | exact List.Sublist.slnil | exact List.nil_sublist _ | exact List.Sublist.refl _ | apply List.Sublist.cons_cons | apply List.Sublist.cons))) ?_
      | refine wpAnyH_take (i := 2) rfl (by kernel_rfl) (by kernel_rfl) (by kernel_rfl) (fun _ _ _ h => h) (yields_row (by rfl) _ _ rfl _ _ rfl _ Try.underlying62 rfl _ (fun W hW => hW.range (.tail _ (.head _))) (rrgI.trans rfl)) (hS.sub (by repeat (first | exact List.Sublist.slnil | exact List.nil_sublist _ | exact List.Sublist.refl _ | apply List.Sublist.cons_cons | apply List.Sublist.cons))) ?_
      | refine wpAnyH_take (i := 2) rfl (by kernel_rfl) (by kernel_rfl) (by kernel_rfl) (fun _ _ _ h => h) (yields_row (by rfl) _ _ rfl _ _ rfl _ Try.underlying62 rfl _ (fun W hW => hW.range (.tail _ (.tail _ (.head _)))) (rrgI.trans rfl)) (hS.sub (by repeat (first | exact List.Sublist.slnil | exact List.nil_sublist _ | exact List.Sublist.refl _ | apply List.Sublist.cons_cons | apply List.Sublist.cons))) ?_
      | refine wpAnyH_take (i := 2) rfl (by kernel_rfl) (by kernel_rfl) (by kernel_rfl) (fun _ _ _ h => h) (yields_row (by rfl) _ _ rfl _ _ rfl _ Try.underlying62 rfl _ (fun W hW => hW.range (.tail _ (.tail _ (.tail _ (.head _))))) (rrgI.trans rfl)) (hS.sub (by repeat (first | exact List.Sublist.slnil | exact List.nil_sublist _ | exact List.Sublist.refl _ | apply List.Sublist.cons_cons | apply List.Sublist.cons))) ?_
      | refine wpAnyH_take (i := 2) rfl (by kernel_rfl) (by kernel_rfl) (by kernel_rfl) (fun _ _ _ h => h) (yields_row (by rfl) _ _ rfl _ _ rfl _ Try.underlying62 rfl _ (fun W hW => hW.range (.tail _ (.tail _ (.tail _ (.tail _ (.head _)))))) (rrgI.trans rfl)) (hS.sub (by repeat (first | exact List.Sublist.slnil | exact List.nil_sublist _ | exact List.Sublist.refl _ | apply List.Sublist.cons_cons | apply List.Sublist.cons))) ?_
      | refine wpAnyH_take (i := 2) rfl (by kernel_rfl) (by kernel_rfl) (by kernel_rfl) (fun _ _ _ h => h) (yields_row (by rfl) _ _ rfl _ _ rfl _ Try.underlying62 rfl _ (fun W hW => hW.range (.tail _ (.tail _ (.tail _ (.tail _ (.tail _ (.head _))))))) (rrgI.trans rfl)) (hS.sub (by repeat (first | exact List.Sublist.slnil | exact List.nil_sublist _ | exact List.Sublist.refl _ | apply List.Sublist.cons_cons | apply List.Sublist.cons))) ?_
    try simp only [Act.put, List.setIfInBounds_toArray, List.set_cons_zero, List.set_cons_succ, List.getElem_toArray, List.getElem_cons_succ, List.getElem_cons_zero]
    refine wpAnyH_ready (rs := [1]) (by kernel_rfl) (by simp) (AllReadyH.cons rfl ?_ AllReadyH.nil)
    intro K1 hK1
    rw [if_pos (by rfl)]
    try simp only [Act.put, List.setIfInBounds_toArray, List.set_cons_zero, List.set_cons_succ, List.getElem_toArray, List.getElem_cons_succ, List.getElem_cons_zero]
    go_simp
    refine (plain_any R A1 _ c1 _).mono ?_
    rintro e1 v2 ⟨rfl, hb⟩
    replace hS := hS.call hb
    clear hb
    refine hK1.out _ _ (hS.sub (by repeat (first | exact List.Sublist.slnil | exact List.nil_sublist _ | exact List.Sublist.refl _ | apply List.Sublist.cons_cons | apply List.Sublist.cons))) (fun _ => ?_)
    clear hK1
    try simp only [Act.put, List.setIfInBounds_toArray, List.set_cons_zero, List.set_cons_succ, List.getElem_toArray, List.getElem_cons_succ, List.getElem_cons_zero]
    refine wpAnyH_ready (rs := [3]) (by kernel_rfl) (by simp) (AllReadyH.cons rfl ?_ AllReadyH.nil)
    intro K1 hK1
    rw [if_pos (by rfl)]
    try simp only [Act.put, List.setIfInBounds_toArray, List.set_cons_zero, List.set_cons_succ, List.getElem_toArray, List.getElem_cons_succ, List.getElem_cons_zero]
    go_simp
    refine (HS.out A1 c1 A5 c5 _ (hS.ls hsh1 (fun e he => .tail _ (.tail _ (n1 e he)))) (hS.ls hsh5 (fun e he => .tail _ (.tail _ (n5 e he))))).mono ?_
    rintro e1 v2 ⟨rfl, hb⟩
    replace hS := hS.call hb
    clear hb
    refine hK1.out _ _ (hS.sub (by repeat (first | exact List.Sublist.slnil | exact List.nil_sublist _ | exact List.Sublist.refl _ | apply List.Sublist.cons_cons | apply List.Sublist.cons))) (fun _ => ?_)
    clear hK1
    try simp only [Act.put, List.setIfInBounds_toArray, List.set_cons_zero, List.set_cons_succ, List.getElem_toArray, List.getElem_cons_succ, List.getElem_cons_zero]
    refine wpAnyH_take (i := 4) (v := ?_) rfl (by kernel_rfl) (by kernel_rfl) (by kernel_rfl) (fun _ _ _ h => h) (Or.inl ⟨by rfl, ?_⟩) (hS.sub (by repeat (first | exact List.Sublist.slnil | exact List.nil_sublist _ | exact List.Sublist.refl _ | apply List.Sublist.cons_cons | apply List.Sublist.cons))) ?_
    rotate_left 1
    · intro W hW
      clear hW
      go_simp
      all_goals with_reducible rfl
    try simp only [Act.put, List.setIfInBounds_toArray, List.set_cons_zero, List.set_cons_succ, List.getElem_toArray, List.getElem_cons_succ, List.getElem_cons_zero]
    refine wpAnyH_take (i := 5) (v := ?_) rfl (by kernel_rfl) (by kernel_rfl) (by kernel_rfl) (fun _ _ _ h => h) (Or.inl ⟨by rfl, ?_⟩) (hS.sub (by repeat (first | exact List.Sublist.slnil | exact List.nil_sublist _ | exact List.Sublist.refl _ | apply List.Sublist.cons_cons | apply List.Sublist.cons))) ?_
    rotate_left 1
    · intro W hW
      clear hW
      go_simp
      all_goals with_reducible rfl
    try simp only [Act.put, List.setIfInBounds_toArray, List.set_cons_zero, List.set_cons_succ, List.getElem_toArray, List.getElem_cons_succ, List.getElem_cons_zero]
    refine wpAnyH_take (i := 6) (v := .string (strOf C)) rfl (by kernel_rfl) (by kernel_rfl) (by kernel_rfl) (fun _ _ _ h => h) (Or.inl ⟨by rfl, fun W hW => by
      have hc := (hW.ls (s := .slice A3 C.length c3) (by simpa [ints_length] using hsh3) (fun e he => .tail _ (.tail _ (n3 e he)))).str
      show ((convert 52 9 (.slice A3 C.length c3)) >>= fun x => pure (Next.value x)).run Try.prog W = _
      rw [Sem.run_bind, hc]
      rfl⟩) (hS.sub (by repeat (first | exact List.Sublist.slnil | exact List.nil_sublist _ | exact List.Sublist.refl _ | apply List.Sublist.cons_cons | apply List.Sublist.cons))) ?_
    try simp only [Act.put, List.setIfInBounds_toArray, List.set_cons_zero, List.set_cons_succ, List.getElem_toArray, List.getElem_cons_succ, List.getElem_cons_zero]
    refine wpAnyH_take (i := 7) (v := ?_) rfl (by kernel_rfl) (by kernel_rfl) (by kernel_rfl) (fun _ _ _ h => h) (Or.inl ⟨by rfl, ?_⟩) (hS.sub (by repeat (first | exact List.Sublist.slnil | exact List.nil_sublist _ | exact List.Sublist.refl _ | apply List.Sublist.cons_cons | apply List.Sublist.cons))) ?_
    rotate_left 1
    · intro W hW
      clear hW
      go_simp
      all_goals with_reducible rfl
    try simp only [Act.put, List.setIfInBounds_toArray, List.set_cons_zero, List.set_cons_succ, List.getElem_toArray, List.getElem_cons_succ, List.getElem_cons_zero]
    refine wpAnyH_take (i := 8) (v := .string (strOf C)) rfl (by kernel_rfl) (by kernel_rfl) (by kernel_rfl) (fun _ _ _ h => h) (Or.inl ⟨by rfl, fun W hW => by
      have hc := (hW.ls (s := .slice A7 C.length c7) (by simpa [ints_length] using hsh7) (fun e he => .tail _ (.tail _ (n7 e he)))).str
      show ((convert 52 9 (.slice A7 C.length c7)) >>= fun x => pure (Next.value x)).run Try.prog W = _
      rw [Sem.run_bind, hc]
      rfl⟩) (hS.sub (by repeat (first | exact List.Sublist.slnil | exact List.nil_sublist _ | exact List.Sublist.refl _ | apply List.Sublist.cons_cons | apply List.Sublist.cons))) ?_
    try simp only [Act.put, List.setIfInBounds_toArray, List.set_cons_zero, List.set_cons_succ, List.getElem_toArray, List.getElem_cons_succ, List.getElem_cons_zero]
    refine wpAnyH_take (i := 9) (v := ?_) rfl (by kernel_rfl) (by kernel_rfl) (by kernel_rfl) (fun _ _ _ h => h) (Or.inl ⟨by rfl, ?_⟩) (hS.sub (by repeat (first | exact List.Sublist.slnil | exact List.nil_sublist _ | exact List.Sublist.refl _ | apply List.Sublist.cons_cons | apply List.Sublist.cons))) ?_
    rotate_left 1
    · intro W hW
      clear hW
      go_simp
      all_goals with_reducible rfl
    try simp only [Act.put, List.setIfInBounds_toArray, List.set_cons_zero, List.set_cons_succ, List.getElem_toArray, List.getElem_cons_succ, List.getElem_cons_zero]
    refine wpAnyH_take (i := 10) (v := ?_) rfl (by kernel_rfl) (by kernel_rfl) (by kernel_rfl) (fun _ _ _ h => h) (Or.inl ⟨by rfl, ?_⟩) (hS.sub (by repeat (first | exact List.Sublist.slnil | exact List.nil_sublist _ | exact List.Sublist.refl _ | apply List.Sublist.cons_cons | apply List.Sublist.cons))) ?_
    rotate_left 1
    · intro W hW
      clear hW
      go_simp
      all_goals with_reducible rfl
    try simp only [Act.put, List.setIfInBounds_toArray, List.set_cons_zero, List.set_cons_succ, List.getElem_toArray, List.getElem_cons_succ, List.getElem_cons_zero]
    refine wpAnyH_take (i := 11) (v := ?_) rfl (by kernel_rfl) (by kernel_rfl) (by kernel_rfl) (fun _ _ _ h => h) (Or.inl ⟨by rfl, ?_⟩) (hS.sub (by repeat (first | exact List.Sublist.slnil | exact List.nil_sublist _ | exact List.Sublist.refl _ | apply List.Sublist.cons_cons | apply List.Sublist.cons))) ?_
    rotate_left 1
    · intro W hW
      clear hW
      go_simp
      all_goals with_reducible rfl
    try simp only [Act.put, List.setIfInBounds_toArray, List.set_cons_zero, List.set_cons_succ, List.getElem_toArray, List.getElem_cons_succ, List.getElem_cons_zero]
    refine wpAnyH_done (by kernel_rfl) ?_ _
    go_wp2_with fail
    go_returns
    exact ⟨rfl, hS.below⟩
end Go.Proofs.Ytlpoldnidojgmaa
