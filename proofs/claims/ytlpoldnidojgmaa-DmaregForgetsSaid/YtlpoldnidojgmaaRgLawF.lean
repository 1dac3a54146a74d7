/- charabanclaw21.DmaregForgets is true at whatever bytes. -/
import Derived.Test.YtlpoldnidojgmaaRgAwake
import Derived.Test.YtlpoldnidojgmaaRgForget
namespace Go.Proofs.Ytlpoldnidojgmaa
open Go.RowKit
set_option linter.unusedVariables false
set_option linter.unusedSimpArgs false
set_option maxRecDepth 100000
theorem dall_nil' (r : M.Rg) (A : Option Addr) (n c : Nat) (A2 : Option Addr) (c2 m : Nat) (hm : m = 0) (w : World) : Calls Try.prog 31 #[.agg (r.c (.slice A n c)), .slice A2 m c2] w fun e w' => e = .returned (.tuple #[.agg (r.c (.slice A n c)), .slice none 0 0]) ∧ Below w.heap.size w w' := by
  subst hm
  exact dall_nil r A n c A2 c2 w
theorem Own.join {v : Value} {L1 L2 : List Int} {E : List Ent} (h : Own v (([] ++ ints .u8 L1) ++ ints .u8 L2) E) : Own v (ints .u8 (L1 ++ L2)) E := by
  rw [ints_append]
  exact h
theorem St.came2 {B o n : Nat} {w W W' : World} {es : List Ent} {s : Value} {vs : List Value} (h : St B o n w es W) (hb : Below W.heap.size W W') (hl : Ls W.heap.size W' s vs) (A : List Ent) (hA : es ++ entL s vs = A) : St B o n w A W' := hA ▸ h.callN hb hl
theorem Own.keepSt {v : Value} {vs : List Value} {E es : List Ent} {w W : World} {B o n : Nat} (h : Own v vs E) (hS : St B o n w (es ++ E) W) : St B o n w (es ++ E) W := hS
set_option maxHeartbeats 16000000 in
theorem dforgets_true (A1 : Option Addr) (n1 p1 : Nat) (L1 : List Int) (A2 : Option Addr) (n2 p2 : Nat) (L2 : List Int) (w : World) (hl1 : L1.length = n1) (hm1 : n1 ≤ maxLen) (r1 : Ls 0 w (.slice A1 n1 p1) (ints .u8 L1)) (hb1 : ∀ x ∈ L1, 0 ≤ x ∧ x ≤ 255) (hl2 : L2.length = n2) (hm2 : n2 ≤ maxLen) (r2 : Ls 0 w (.slice A2 n2 p2) (ints .u8 L2)) (hb2 : ∀ x ∈ L2, 0 ≤ x ∧ x ≤ 255) :
    Calls Try.prog 9 #[.slice A1 n1 p1, .slice A2 n2 p2] w fun e w' => e = .returned (.bool true) ∧ Below w.heap.size w w' := by
  subst hl1 hl2
  simp only [maxLen] at hm1 hm2
  obtain ⟨i0, hi0, hz0, hz1, hz2⟩ := info_get infoU8
  have hS := St.start w.heap.size 0 0 w
  by_cases g1 : 200 < L1.length
  · clear r1 r2 hb1 hb2
    go_enter Try.func9, Try.ntmps9
    go_wp2_with (first
  | ((with_reducible refine to_bsl ?_); refine Wl_bsl hS 5 .u8 [0, 0, 0, 0, 0, 0, 0, 0, 195] Try.underlying52 szU zU rfl (by decide) (by decide) rfl ?_; clear hS; intro bX wW hgebX hS; simp only [Act.put, List.setIfInBounds_toArray, List.set_cons_zero, List.set_cons_succ])
  | ((with_reducible refine to_alloc 59 rfl ?_); refine Wl_alloc hS (fun _ => by rfl) _ rgZ ?_; clear hS; intro b4 wW hS; simp only [Act.put, List.setIfInBounds_toArray, List.set_cons_zero, List.set_cons_succ])
  | ((with_reducible refine to_load 59 rfl ?_); refine Wl_load hS (fun _ => by rfl) _ _ rfl _ Try.underlying59 rfl ?_; (repeat (first | (refine Row.here ⟨rgI.trans rfl, ?_⟩) | refine Row.next ?_)); (with_reducible show wpList _ _ _ _ _ _); simp only [Act.put, List.setIfInBounds_toArray, List.set_cons_zero, List.set_cons_succ])
  | ((with_reducible refine to_store 59 rfl ?_); refine Wl_store hS (fun _ => by rfl) _ _ _ rfl rfl (rgI.trans rfl) (rg_one _ _ _ _) ?_; (repeat (first | refine Turn.here rfl ?_ | refine Turn.next ?_)); clear hS; intro wW hS; try simp only [Act.put, List.setIfInBounds_toArray, List.set_cons_zero, List.set_cons_succ]))
    refine (dawake_any _).mono ?_
    rintro e w1 ⟨rfl, hb⟩
    replace hS := hS.call hb
    clear hb
    go_wp2_with (first
  | ((with_reducible refine to_bsl ?_); refine Wl_bsl hS 5 .u8 [0, 0, 0, 0, 0, 0, 0, 0, 195] Try.underlying52 szU zU rfl (by decide) (by decide) rfl ?_; clear hS; intro bX wW hgebX hS; simp only [Act.put, List.setIfInBounds_toArray, List.set_cons_zero, List.set_cons_succ])
  | ((with_reducible refine to_alloc 59 rfl ?_); refine Wl_alloc hS (fun _ => by rfl) _ rgZ ?_; clear hS; intro b4 wW hS; simp only [Act.put, List.setIfInBounds_toArray, List.set_cons_zero, List.set_cons_succ])
  | ((with_reducible refine to_load 59 rfl ?_); refine Wl_load hS (fun _ => by rfl) _ _ rfl _ Try.underlying59 rfl ?_; (repeat (first | (refine Row.here ⟨rgI.trans rfl, ?_⟩) | refine Row.next ?_)); (with_reducible show wpList _ _ _ _ _ _); simp only [Act.put, List.setIfInBounds_toArray, List.set_cons_zero, List.set_cons_succ])
  | ((with_reducible refine to_store 59 rfl ?_); refine Wl_store hS (fun _ => by rfl) _ _ _ rfl rfl (rgI.trans rfl) (rg_one _ _ _ _) ?_; (repeat (first | refine Turn.here rfl ?_ | refine Turn.next ?_)); clear hS; intro wW hS; try simp only [Act.put, List.setIfInBounds_toArray, List.set_cons_zero, List.set_cons_succ]))
    go_returns
    exact ⟨rfl, hS.below⟩
  by_cases g2 : 200 < L2.length
  · clear r1 r2 hb1 hb2
    go_enter Try.func9, Try.ntmps9
    go_wp2_with (first
  | ((with_reducible refine to_bsl ?_); refine Wl_bsl hS 5 .u8 [0, 0, 0, 0, 0, 0, 0, 0, 195] Try.underlying52 szU zU rfl (by decide) (by decide) rfl ?_; clear hS; intro bX wW hgebX hS; simp only [Act.put, List.setIfInBounds_toArray, List.set_cons_zero, List.set_cons_succ])
  | ((with_reducible refine to_alloc 59 rfl ?_); refine Wl_alloc hS (fun _ => by rfl) _ rgZ ?_; clear hS; intro b4 wW hS; simp only [Act.put, List.setIfInBounds_toArray, List.set_cons_zero, List.set_cons_succ])
  | ((with_reducible refine to_load 59 rfl ?_); refine Wl_load hS (fun _ => by rfl) _ _ rfl _ Try.underlying59 rfl ?_; (repeat (first | (refine Row.here ⟨rgI.trans rfl, ?_⟩) | refine Row.next ?_)); (with_reducible show wpList _ _ _ _ _ _); simp only [Act.put, List.setIfInBounds_toArray, List.set_cons_zero, List.set_cons_succ])
  | ((with_reducible refine to_store 59 rfl ?_); refine Wl_store hS (fun _ => by rfl) _ _ _ rfl rfl (rgI.trans rfl) (rg_one _ _ _ _) ?_; (repeat (first | refine Turn.here rfl ?_ | refine Turn.next ?_)); clear hS; intro wW hS; try simp only [Act.put, List.setIfInBounds_toArray, List.set_cons_zero, List.set_cons_succ]))
    refine (dawake_any _).mono ?_
    rintro e w1 ⟨rfl, hb⟩
    replace hS := hS.call hb
    clear hb
    go_wp2_with (first
  | ((with_reducible refine to_bsl ?_); refine Wl_bsl hS 5 .u8 [0, 0, 0, 0, 0, 0, 0, 0, 195] Try.underlying52 szU zU rfl (by decide) (by decide) rfl ?_; clear hS; intro bX wW hgebX hS; simp only [Act.put, List.setIfInBounds_toArray, List.set_cons_zero, List.set_cons_succ])
  | ((with_reducible refine to_alloc 59 rfl ?_); refine Wl_alloc hS (fun _ => by rfl) _ rgZ ?_; clear hS; intro b4 wW hS; simp only [Act.put, List.setIfInBounds_toArray, List.set_cons_zero, List.set_cons_succ])
  | ((with_reducible refine to_load 59 rfl ?_); refine Wl_load hS (fun _ => by rfl) _ _ rfl _ Try.underlying59 rfl ?_; (repeat (first | (refine Row.here ⟨rgI.trans rfl, ?_⟩) | refine Row.next ?_)); (with_reducible show wpList _ _ _ _ _ _); simp only [Act.put, List.setIfInBounds_toArray, List.set_cons_zero, List.set_cons_succ])
  | ((with_reducible refine to_store 59 rfl ?_); refine Wl_store hS (fun _ => by rfl) _ _ _ rfl rfl (rgI.trans rfl) (rg_one _ _ _ _) ?_; (repeat (first | refine Turn.here rfl ?_ | refine Turn.next ?_)); clear hS; intro wW hS; try simp only [Act.put, List.setIfInBounds_toArray, List.set_cons_zero, List.set_cons_succ]))
    go_returns
    exact ⟨rfl, hS.below⟩
  have k1 : M.rReset.want.length + 4 * L1.length ≤ 8000 := by rw [show M.rReset.want = [] from rfl]; simp; omega
  have f1 := M.few_all M.few_nil (r := M.rReset) L1
  have o1 := M.rAll_ok M.rReset_ok hb1
  have l1 := M.rAllC_len M.rReset L1
  have f2 := M.few_all f1 L2
  have o2 := M.rAll_ok o1 hb2
  have l2 := M.rAllC_len (M.rAll M.rReset L1) L2
  have e1 := fun W hW => dall_any M.rReset M.rReset_ok none 0 A1 p1 L1 k1 hb1 (.inl rfl) W (Ls.nil _ _ _ _ (Nat.zero_le _)) (r1.below hW)
  have e3 := fun W A c hR => dall_any M.rReset M.rReset_ok none 0 A c (L1 ++ L2) (by rw [show M.rReset.want = [] from rfl, List.length_append]; simp; omega) (fun x hx => (List.mem_append.1 hx).elim (hb1 x) (hb2 x)) (.inl rfl) W (Ls.nil _ _ _ _ (Nat.zero_le _)) hR
  simp only [M.rAll_append, M.rAllC_append] at e3
  obtain ⟨LL, hLL⟩ : ∃ LL : List Int, LL = L1 ++ L2 := ⟨_, rfl⟩
  rw [← hLL] at e3
  have HLL := Lib.hid hLL
  clear hLL
  have e2 := fun W A c hA hW (hne : L2 ≠ []) => dall_any (M.rAll M.rReset L1) o1 A c A2 p2 L2 (by have := f1.len; omega) hb2 (.inr hne) W hA (r2.below hW)
  have e2' : L2 = [] → M.rAll (M.rAll M.rReset L1) L2 = M.rAll M.rReset L1 ∧ M.rAllC (M.rAll M.rReset L1) L2 = [] := fun h => by subst h; exact ⟨rfl, rfl⟩
  have e4 := fun W A c A9 c9 hA hR => dall_any (M.rAll (M.rAll M.rReset L1) L2) o2 A c A9 c9 [0, 0, 0, 0, 0, 0, 0, 0, 195] (by have := f2.len; simp; omega) (by decide) (.inr (by simp)) W hA hR
  rw [M.forgets _ (by have := f2.len; omega)] at e4
  have hml : (M.rAll (M.rAll M.rReset L1) L2).want.length ≤ maxLen := by have := f2.len; simp only [maxLen]; omega
  have hs := fun A c A' c' W g1 g2 => same_any (M.rAll (M.rAll M.rReset L1) L2) A c A' c' hml W g1 g2
  have hf2 := f2.len
  clear f1 f2 o1 o2 hml k1 hb1 hb2
  generalize M.rAll (M.rAll M.rReset L1) L2 = S at e2 e2' e3 e4 hs hf2
  generalize M.rAllC (M.rAll M.rReset L1) L2 = C2 at e2 e2' e3 l2
  generalize M.rAll M.rReset L1 = R at e1 e2 e2'
  generalize M.rAllC M.rReset L1 = C1 at e1 e3 l1
  generalize M.rAllC S [0, 0, 0, 0, 0, 0, 0, 0, 195] = C9 at e4
  have E1 := Lib.hid e1
  have E2 := Lib.hid e2
  have E3 := Lib.hid e3
  have E4 := Lib.hid e4
  have HS := Lib.hid hs
  have R1 := Lib.hid r1
  have R2 := Lib.hid r2
  clear e1 e2 e3 e4 hs r1 r2
  by_cases hne : L2 = []
  case' pos =>
    obtain ⟨rfl, rfl⟩ := e2' hne
    have D2 := Lib.hid (fun W A c => dall_nil' S A S.want.length c A2 p2 L2.length (by rw [hne]; rfl) W)
  all_goals
    have NE := Lib.hid hne
    have LE1 := Lib.hid l1
    have LE2 := Lib.hid l2
    have HF := Lib.hid hf2
    clear hne e2' l1 l2 hf2
    go_enter Try.func9, Try.ntmps9
    go_wp2_with (first
  | ((with_reducible refine to_bsl ?_); refine Wl_bsl hS 5 .u8 [0, 0, 0, 0, 0, 0, 0, 0, 195] Try.underlying52 szU zU rfl (by decide) (by decide) rfl ?_; clear hS; intro bX wW hgebX hS; simp only [Act.put, List.setIfInBounds_toArray, List.set_cons_zero, List.set_cons_succ])
  | ((with_reducible refine to_alloc 59 rfl ?_); refine Wl_alloc hS (fun _ => by rfl) _ rgZ ?_; clear hS; intro b4 wW hS; simp only [Act.put, List.setIfInBounds_toArray, List.set_cons_zero, List.set_cons_succ])
  | ((with_reducible refine to_load 59 rfl ?_); refine Wl_load hS (fun _ => by rfl) _ _ rfl _ Try.underlying59 rfl ?_; (repeat (first | (refine Row.here ⟨rgI.trans rfl, ?_⟩) | refine Row.next ?_)); (with_reducible show wpList _ _ _ _ _ _); simp only [Act.put, List.setIfInBounds_toArray, List.set_cons_zero, List.set_cons_succ])
  | ((with_reducible refine to_store 59 rfl ?_); refine Wl_store hS (fun _ => by rfl) _ _ _ rfl rfl (rgI.trans rfl) (rg_one _ _ _ _) ?_; (repeat (first | refine Turn.here rfl ?_ | refine Turn.next ?_)); clear hS; intro wW hS; try simp only [Act.put, List.setIfInBounds_toArray, List.set_cons_zero, List.set_cons_succ]))
    refine (dawake_any _).mono ?_
    rintro e w1 ⟨rfl, hb⟩
    replace hS := hS.call hb
    clear hb
    go_wp2_with (first
  | ((with_reducible refine to_bsl ?_); refine Wl_bsl hS 5 .u8 [0, 0, 0, 0, 0, 0, 0, 0, 195] Try.underlying52 szU zU rfl (by decide) (by decide) rfl ?_; clear hS; intro bX wW hgebX hS; simp only [Act.put, List.setIfInBounds_toArray, List.set_cons_zero, List.set_cons_succ])
  | ((with_reducible refine to_alloc 59 rfl ?_); refine Wl_alloc hS (fun _ => by rfl) _ rgZ ?_; clear hS; intro b4 wW hS; simp only [Act.put, List.setIfInBounds_toArray, List.set_cons_zero, List.set_cons_succ])
  | ((with_reducible refine to_load 59 rfl ?_); refine Wl_load hS (fun _ => by rfl) _ _ rfl _ Try.underlying59 rfl ?_; (repeat (first | (refine Row.here ⟨rgI.trans rfl, ?_⟩) | refine Row.next ?_)); (with_reducible show wpList _ _ _ _ _ _); simp only [Act.put, List.setIfInBounds_toArray, List.set_cons_zero, List.set_cons_succ])
  | ((with_reducible refine to_store 59 rfl ?_); refine Wl_store hS (fun _ => by rfl) _ _ _ rfl rfl (rgI.trans rfl) (rg_one _ _ _ _) ?_; (repeat (first | refine Turn.here rfl ?_ | refine Turn.next ?_)); clear hS; intro wW hS; try simp only [Act.put, List.setIfInBounds_toArray, List.set_cons_zero, List.set_cons_succ]))
    refine (dreset_any _).mono ?_
    rintro e w1 ⟨rfl, hb⟩
    replace hS := hS.call hb
    clear hb
    go_wp2_with (first
  | ((with_reducible refine to_bsl ?_); refine Wl_bsl hS 5 .u8 [0, 0, 0, 0, 0, 0, 0, 0, 195] Try.underlying52 szU zU rfl (by decide) (by decide) rfl ?_; clear hS; intro bX wW hgebX hS; simp only [Act.put, List.setIfInBounds_toArray, List.set_cons_zero, List.set_cons_succ])
  | ((with_reducible refine to_alloc 59 rfl ?_); refine Wl_alloc hS (fun _ => by rfl) _ rgZ ?_; clear hS; intro b4 wW hS; simp only [Act.put, List.setIfInBounds_toArray, List.set_cons_zero, List.set_cons_succ])
  | ((with_reducible refine to_load 59 rfl ?_); refine Wl_load hS (fun _ => by rfl) _ _ rfl _ Try.underlying59 rfl ?_; (repeat (first | (refine Row.here ⟨rgI.trans rfl, ?_⟩) | refine Row.next ?_)); (with_reducible show wpList _ _ _ _ _ _); simp only [Act.put, List.setIfInBounds_toArray, List.set_cons_zero, List.set_cons_succ])
  | ((with_reducible refine to_store 59 rfl ?_); refine Wl_store hS (fun _ => by rfl) _ _ _ rfl rfl (rgI.trans rfl) (rg_one _ _ _ _) ?_; (repeat (first | refine Turn.here rfl ?_ | refine Turn.next ?_)); clear hS; intro wW hS; try simp only [Act.put, List.setIfInBounds_toArray, List.set_cons_zero, List.set_cons_succ]))
    refine (E1.out _ hS.below).mono ?_
    rintro e w1 ⟨Aa, ca, Ab, cb, rfl, hl, hl3, hbl⟩
    have hsha := hl.shp
    replace hS := hS.callN hbl hl
    simp only [List.cons_append, List.nil_append] at hS
    clear hl hl3 hbl
    go_wp2_with (first
  | ((with_reducible refine to_bsl ?_); refine Wl_bsl hS 5 .u8 [0, 0, 0, 0, 0, 0, 0, 0, 195] Try.underlying52 szU zU rfl (by decide) (by decide) rfl ?_; clear hS; intro bX wW hgebX hS; simp only [Act.put, List.setIfInBounds_toArray, List.set_cons_zero, List.set_cons_succ])
  | ((with_reducible refine to_alloc 59 rfl ?_); refine Wl_alloc hS (fun _ => by rfl) _ rgZ ?_; clear hS; intro b4 wW hS; simp only [Act.put, List.setIfInBounds_toArray, List.set_cons_zero, List.set_cons_succ])
  | ((with_reducible refine to_load 59 rfl ?_); refine Wl_load hS (fun _ => by rfl) _ _ rfl _ Try.underlying59 rfl ?_; (repeat (first | (refine Row.here ⟨rgI.trans rfl, ?_⟩) | refine Row.next ?_)); (with_reducible show wpList _ _ _ _ _ _); simp only [Act.put, List.setIfInBounds_toArray, List.set_cons_zero, List.set_cons_succ])
  | ((with_reducible refine to_store 59 rfl ?_); refine Wl_store hS (fun _ => by rfl) _ _ _ rfl rfl (rgI.trans rfl) (rg_one _ _ _ _) ?_; (repeat (first | refine Turn.here rfl ?_ | refine Turn.next ?_)); clear hS; intro wW hS; try simp only [Act.put, List.setIfInBounds_toArray, List.set_cons_zero, List.set_cons_succ]))
  · refine (D2.out _ _ _).mono ?_
    rintro e w1 ⟨rfl, hbl⟩
    replace hS := hS.call hbl
    clear hbl
    have q1 : (C1.length : Int) ≤ 200 := by have := LE1.out; omega
    go_wp2_with (first | ((with_reducible refine to_app ?_); refine Wl_app hS1 hO1 5 i0 (.int .u8 0) 1 Try.underlying52 hi0 hz0 hz1 hz2 rfl rfl _ _ ((R2.out.below hS1.below).src (P := Try.prog) (tx := 52) Try.underlying52 (ints_one _ _)) (by simp [ints, maxLen]; omega) (by simp [ints]; omega) ?_; intro v2 E2' w3 hO2 hS2; replace hO2 := Own.join hO2; rw [← HLL.out] at hO2; obtain ⟨A3, c3, rfl⟩ := hO2.len; rw [ints_length] at hO2; simp only [ints_length, Act.put, List.setIfInBounds_toArray, List.set_cons_zero, List.set_cons_succ]) | ((with_reducible refine to_app ?_); refine Wl_app (E := []) (by rw [List.append_nil]; exact hS) Own.none 5 i0 (.int .u8 0) 1 Try.underlying52 hi0 hz0 hz1 hz2 rfl rfl _ _ ((R1.out.below hS.below).src (P := Try.prog) (tx := 52) Try.underlying52 (ints_one _ _)) (by simp [ints, maxLen]; omega) (by simp [ints]; omega) ?_; intro v1 E1' w2 hO1 hS1; simp only [Act.put, List.setIfInBounds_toArray, List.set_cons_zero, List.set_cons_succ]) | first
  | ((with_reducible refine to_bsl ?_); refine Wl_bsl hS 5 .u8 [0, 0, 0, 0, 0, 0, 0, 0, 195] Try.underlying52 szU zU rfl (by decide) (by decide) rfl ?_; clear hS; intro bX wW hgebX hS; simp only [Act.put, List.setIfInBounds_toArray, List.set_cons_zero, List.set_cons_succ])
  | ((with_reducible refine to_alloc 59 rfl ?_); refine Wl_alloc hS (fun _ => by rfl) _ rgZ ?_; clear hS; intro b4 wW hS; simp only [Act.put, List.setIfInBounds_toArray, List.set_cons_zero, List.set_cons_succ])
  | ((with_reducible refine to_load 59 rfl ?_); refine Wl_load hS (fun _ => by rfl) _ _ rfl _ Try.underlying59 rfl ?_; (repeat (first | (refine Row.here ⟨rgI.trans rfl, ?_⟩) | refine Row.next ?_)); (with_reducible show wpList _ _ _ _ _ _); simp only [Act.put, List.setIfInBounds_toArray, List.set_cons_zero, List.set_cons_succ])
  | ((with_reducible refine to_store 59 rfl ?_); refine Wl_store hS (fun _ => by rfl) _ _ _ rfl rfl (rgI.trans rfl) (rg_one _ _ _ _) ?_; (repeat (first | refine Turn.here rfl ?_ | refine Turn.next ?_)); clear hS; intro wW hS; try simp only [Act.put, List.setIfInBounds_toArray, List.set_cons_zero, List.set_cons_succ]))
    have hres := hO2.res hS2
    clear hS hS1 hO1
    have hS := hS2
    clear hS2
    refine (dreset_any _).mono ?_
    rintro e w1 ⟨rfl, hB3⟩
    replace hS := hS.call hB3
    simp only [List.cons_append, List.nil_append] at hS
    go_wp2_with (first
  | ((with_reducible refine to_bsl ?_); refine Wl_bsl hS 5 .u8 [0, 0, 0, 0, 0, 0, 0, 0, 195] Try.underlying52 szU zU rfl (by decide) (by decide) rfl ?_; clear hS; intro bX wW hgebX hS; simp only [Act.put, List.setIfInBounds_toArray, List.set_cons_zero, List.set_cons_succ])
  | ((with_reducible refine to_alloc 59 rfl ?_); refine Wl_alloc hS (fun _ => by rfl) _ rgZ ?_; clear hS; intro b4 wW hS; simp only [Act.put, List.setIfInBounds_toArray, List.set_cons_zero, List.set_cons_succ])
  | ((with_reducible refine to_load 59 rfl ?_); refine Wl_load hS (fun _ => by rfl) _ _ rfl _ Try.underlying59 rfl ?_; (repeat (first | (refine Row.here ⟨rgI.trans rfl, ?_⟩) | refine Row.next ?_)); (with_reducible show wpList _ _ _ _ _ _); simp only [Act.put, List.setIfInBounds_toArray, List.set_cons_zero, List.set_cons_succ])
  | ((with_reducible refine to_store 59 rfl ?_); refine Wl_store hS (fun _ => by rfl) _ _ _ rfl rfl (rgI.trans rfl) (rg_one _ _ _ _) ?_; (repeat (first | refine Turn.here rfl ?_ | refine Turn.next ?_)); clear hS; intro wW hS; try simp only [Act.put, List.setIfInBounds_toArray, List.set_cons_zero, List.set_cons_succ]))
    refine (E3.out _ _ _ ((hres.below hB3).mono (Nat.zero_le _))).mono ?_
    rintro e w1 ⟨Ae, ce, Af, cf, rfl, hl, hl3, hbl⟩
    have hshe := hl.shp
    replace hS := hS.callN hbl hl
    simp only [List.cons_append, List.nil_append] at hS
    clear hl hl3 hbl hres
    go_wp2_with (first
  | ((with_reducible refine to_bsl ?_); refine Wl_bsl hS 5 .u8 [0, 0, 0, 0, 0, 0, 0, 0, 195] Try.underlying52 szU zU rfl (by decide) (by decide) rfl ?_; clear hS; intro bX wW hgebX hS; simp only [Act.put, List.setIfInBounds_toArray, List.set_cons_zero, List.set_cons_succ])
  | ((with_reducible refine to_alloc 59 rfl ?_); refine Wl_alloc hS (fun _ => by rfl) _ rgZ ?_; clear hS; intro b4 wW hS; simp only [Act.put, List.setIfInBounds_toArray, List.set_cons_zero, List.set_cons_succ])
  | ((with_reducible refine to_load 59 rfl ?_); refine Wl_load hS (fun _ => by rfl) _ _ rfl _ Try.underlying59 rfl ?_; (repeat (first | (refine Row.here ⟨rgI.trans rfl, ?_⟩) | refine Row.next ?_)); (with_reducible show wpList _ _ _ _ _ _); simp only [Act.put, List.setIfInBounds_toArray, List.set_cons_zero, List.set_cons_succ])
  | ((with_reducible refine to_store 59 rfl ?_); refine Wl_store hS (fun _ => by rfl) _ _ _ rfl rfl (rgI.trans rfl) (rg_one _ _ _ _) ?_; (repeat (first | refine Turn.here rfl ?_ | refine Turn.next ?_)); clear hS; intro wW hS; try simp only [Act.put, List.setIfInBounds_toArray, List.set_cons_zero, List.set_cons_succ]))
    refine (HS.out _ _ _ _ _ (hS.ls hsha (fun e he => by repeat (first | exact he | exact List.mem_append_right _ he | exact List.mem_append_left _ he | exact List.mem_append_left _ (List.mem_append_right _ he) | exact List.mem_append_left _ (List.mem_append_left _ he) | exact List.mem_append_left _ (List.mem_append_left _ (List.mem_append_right _ he)) | refine List.Mem.tail _ ?_))) (hS.ls hshe (fun e he => by repeat (first | exact he | exact List.mem_append_right _ he | exact List.mem_append_left _ he | exact List.mem_append_left _ (List.mem_append_right _ he) | exact List.mem_append_left _ (List.mem_append_left _ he) | exact List.mem_append_left _ (List.mem_append_left _ (List.mem_append_right _ he)) | refine List.Mem.tail _ ?_)))).mono ?_
    rintro e w1 ⟨rfl, hbl⟩
    replace hS := hS.call hbl
    clear hbl
    go_wp2_with (first
  | ((with_reducible refine to_bsl ?_); refine Wl_bsl hS 5 .u8 [0, 0, 0, 0, 0, 0, 0, 0, 195] Try.underlying52 szU zU rfl (by decide) (by decide) rfl ?_; clear hS; intro bX wW hgebX hS; simp only [Act.put, List.setIfInBounds_toArray, List.set_cons_zero, List.set_cons_succ])
  | ((with_reducible refine to_alloc 59 rfl ?_); refine Wl_alloc hS (fun _ => by rfl) _ rgZ ?_; clear hS; intro b4 wW hS; simp only [Act.put, List.setIfInBounds_toArray, List.set_cons_zero, List.set_cons_succ])
  | ((with_reducible refine to_load 59 rfl ?_); refine Wl_load hS (fun _ => by rfl) _ _ rfl _ Try.underlying59 rfl ?_; (repeat (first | (refine Row.here ⟨rgI.trans rfl, ?_⟩) | refine Row.next ?_)); (with_reducible show wpList _ _ _ _ _ _); simp only [Act.put, List.setIfInBounds_toArray, List.set_cons_zero, List.set_cons_succ])
  | ((with_reducible refine to_store 59 rfl ?_); refine Wl_store hS (fun _ => by rfl) _ _ _ rfl rfl (rgI.trans rfl) (rg_one _ _ _ _) ?_; (repeat (first | refine Turn.here rfl ?_ | refine Turn.next ?_)); clear hS; intro wW hS; try simp only [Act.put, List.setIfInBounds_toArray, List.set_cons_zero, List.set_cons_succ]))
    refine (E4.out _ _ _ _ _ (hS.ls hsha (fun e he => by repeat (first | exact he | exact List.mem_append_right _ he | exact List.mem_append_left _ he | exact List.mem_append_left _ (List.mem_append_right _ he) | exact List.mem_append_left _ (List.mem_append_left _ he) | exact List.mem_append_left _ (List.mem_append_left _ (List.mem_append_right _ he)) | refine List.Mem.tail _ ?_))) (hS.lsOwn (F := 0) (k := .u8) (zs := [0, 0, 0, 0, 0, 0, 0, 0, 195]) (Nat.zero_le _) (.head _) (by decide))).mono ?_
    rintro e w1 ⟨Ag, cg, Ah, ch, rfl, hl, hl3, hbl⟩
    obtain ⟨A', cc', hs', _, hcm, _⟩ := hl.shp
    simp only [Value.slice.injEq] at hs'
    obtain ⟨-, -, rfl⟩ := hs'
    replace hS := hS.call hbl
    clear hl hl3 hbl
    go_wp2_with (first
  | ((with_reducible refine to_bsl ?_); refine Wl_bsl hS 5 .u8 [0, 0, 0, 0, 0, 0, 0, 0, 195] Try.underlying52 szU zU rfl (by decide) (by decide) rfl ?_; clear hS; intro bX wW hgebX hS; simp only [Act.put, List.setIfInBounds_toArray, List.set_cons_zero, List.set_cons_succ])
  | ((with_reducible refine to_alloc 59 rfl ?_); refine Wl_alloc hS (fun _ => by rfl) _ rgZ ?_; clear hS; intro b4 wW hS; simp only [Act.put, List.setIfInBounds_toArray, List.set_cons_zero, List.set_cons_succ])
  | ((with_reducible refine to_load 59 rfl ?_); refine Wl_load hS (fun _ => by rfl) _ _ rfl _ Try.underlying59 rfl ?_; (repeat (first | (refine Row.here ⟨rgI.trans rfl, ?_⟩) | refine Row.next ?_)); (with_reducible show wpList _ _ _ _ _ _); simp only [Act.put, List.setIfInBounds_toArray, List.set_cons_zero, List.set_cons_succ])
  | ((with_reducible refine to_store 59 rfl ?_); refine Wl_store hS (fun _ => by rfl) _ _ _ rfl rfl (rgI.trans rfl) (rg_one _ _ _ _) ?_; (repeat (first | refine Turn.here rfl ?_ | refine Turn.next ?_)); clear hS; intro wW hS; try simp only [Act.put, List.setIfInBounds_toArray, List.set_cons_zero, List.set_cons_succ]))
    refine wp_region_held_drew (S := fun W => St w.heap.size 0 0 w [⟨b4, 0, true, M.rReset.c (.slice Ag 0 cg)⟩] W) (by kernel_rfl) (hS.drew.sub (by repeat (first | exact List.Sublist.slnil | exact List.nil_sublist _ | apply List.Sublist.cons_cons | apply List.Sublist.cons))) ?_
    intro _
    replace hS := hS.drew
    generalize World.drew _ = wX at hS ⊢
    first
      | refine wpAnyH_take (i := 0) rfl (by kernel_rfl) (by kernel_rfl) (by kernel_rfl) (fun _ _ _ h => h) (yields_row (by rfl) _ _ rfl _ _ rfl _ Try.underlying59 rfl _ (fun W hW => hW.range (.head _)) (rgI.trans rfl)) (hS.sub (by repeat (first | exact List.Sublist.slnil | exact List.nil_sublist _ | apply List.Sublist.cons_cons | apply List.Sublist.cons))) ?_
      | refine wpAnyH_take (i := 0) rfl (by kernel_rfl) (by kernel_rfl) (by kernel_rfl) (fun _ _ _ h => h) (yields_row (by rfl) _ _ rfl _ _ rfl _ Try.underlying59 rfl _ (fun W hW => hW.range (.tail _ (.head _))) (rgI.trans rfl)) (hS.sub (by repeat (first | exact List.Sublist.slnil | exact List.nil_sublist _ | apply List.Sublist.cons_cons | apply List.Sublist.cons))) ?_
      | refine wpAnyH_take (i := 0) rfl (by kernel_rfl) (by kernel_rfl) (by kernel_rfl) (fun _ _ _ h => h) (yields_row (by rfl) _ _ rfl _ _ rfl _ Try.underlying59 rfl _ (fun W hW => hW.range (.tail _ (.tail _ (.head _)))) (rgI.trans rfl)) (hS.sub (by repeat (first | exact List.Sublist.slnil | exact List.nil_sublist _ | apply List.Sublist.cons_cons | apply List.Sublist.cons))) ?_
      | refine wpAnyH_take (i := 0) rfl (by kernel_rfl) (by kernel_rfl) (by kernel_rfl) (fun _ _ _ h => h) (yields_row (by rfl) _ _ rfl _ _ rfl _ Try.underlying59 rfl _ (fun W hW => hW.range (.tail _ (.tail _ (.tail _ (.head _))))) (rgI.trans rfl)) (hS.sub (by repeat (first | exact List.Sublist.slnil | exact List.nil_sublist _ | apply List.Sublist.cons_cons | apply List.Sublist.cons))) ?_
      | refine wpAnyH_take (i := 0) rfl (by kernel_rfl) (by kernel_rfl) (by kernel_rfl) (fun _ _ _ h => h) (yields_row (by rfl) _ _ rfl _ _ rfl _ Try.underlying59 rfl _ (fun W hW => hW.range (.tail _ (.tail _ (.tail _ (.tail _ (.head _)))))) (rgI.trans rfl)) (hS.sub (by repeat (first | exact List.Sublist.slnil | exact List.nil_sublist _ | apply List.Sublist.cons_cons | apply List.Sublist.cons))) ?_
      | refine wpAnyH_take (i := 0) rfl (by kernel_rfl) (by kernel_rfl) (by kernel_rfl) (fun _ _ _ h => h) (yields_row (by rfl) _ _ rfl _ _ rfl _ Try.underlying59 rfl _ (fun W hW => hW.range (.tail _ (.tail _ (.tail _ (.tail _ (.tail _ (.head _))))))) (rgI.trans rfl)) (hS.sub (by repeat (first | exact List.Sublist.slnil | exact List.nil_sublist _ | apply List.Sublist.cons_cons | apply List.Sublist.cons))) ?_
    try simp only [Act.put, List.setIfInBounds_toArray, List.set_cons_zero, List.set_cons_succ, List.getElem_toArray, List.getElem_cons_succ, List.getElem_cons_zero]
    refine wpAnyH_ready (rs := [1]) (by kernel_rfl) (by simp) (AllReadyH.cons rfl ?_ AllReadyH.nil)
    intro K1 hK1
    rw [if_pos (by rfl)]
    try simp only [Act.put, List.setIfInBounds_toArray, List.set_cons_zero, List.set_cons_succ, List.getElem_toArray, List.getElem_cons_succ, List.getElem_cons_zero]
    go_simp
    refine (dreset_any _).mono ?_
    rintro e1 v2 ⟨rfl, hb⟩
    replace hS := hS.call hb
    clear hb
    refine hK1.out _ _ (hS.sub (by repeat (first | exact List.Sublist.slnil | exact List.nil_sublist _ | apply List.Sublist.cons_cons | apply List.Sublist.cons))) (fun _ => ?_)
    clear hK1
    try simp only [Act.put, List.setIfInBounds_toArray, List.set_cons_zero, List.set_cons_succ, List.getElem_toArray, List.getElem_cons_succ, List.getElem_cons_zero]
    refine wpAnyH_ready (rs := [2]) (by kernel_rfl) (by simp) (AllReadyH.cons rfl ?_ AllReadyH.nil)
    intro K1 hK1
    rw [if_pos (by rfl)]
    try simp only [Act.put, List.setIfInBounds_toArray, List.set_cons_zero, List.set_cons_succ, List.getElem_toArray, List.getElem_cons_succ, List.getElem_cons_zero]
    go_simp
    refine (same_any M.rReset _ _ _ _ (by decide) _ (Ls.nil _ _ _ _ hcm) (Ls.nil _ _ _ _ (Nat.zero_le _))).mono ?_
    rintro e1 v2 ⟨rfl, hb⟩
    replace hS := hS.call hb
    clear hb
    refine hK1.out _ _ (hS.sub (by repeat (first | exact List.Sublist.slnil | exact List.nil_sublist _ | apply List.Sublist.cons_cons | apply List.Sublist.cons))) (fun _ => ?_)
    clear hK1
    try simp only [Act.put, List.setIfInBounds_toArray, List.set_cons_zero, List.set_cons_succ, List.getElem_toArray, List.getElem_cons_succ, List.getElem_cons_zero]
    refine wpAnyH_take (i := 3) (v := ?_) rfl (by kernel_rfl) (by kernel_rfl) (by kernel_rfl) (fun _ _ _ h => h) (Or.inl ⟨by rfl, ?_⟩) (hS.sub (by repeat (first | exact List.Sublist.slnil | exact List.nil_sublist _ | apply List.Sublist.cons_cons | apply List.Sublist.cons))) ?_
    rotate_left 1
    · intro W hW
      clear hW
      go_simp
      all_goals with_reducible rfl
    try simp only [Act.put, List.setIfInBounds_toArray, List.set_cons_zero, List.set_cons_succ, List.getElem_toArray, List.getElem_cons_succ, List.getElem_cons_zero]
    refine wpAnyH_take (i := 4) (v := undef) rfl (by kernel_rfl) (by kernel_rfl) (by kernel_rfl) (fun _ _ _ h => h) (Or.inr ⟨by rfl, rfl⟩) (hS.sub (by repeat (first | exact List.Sublist.slnil | exact List.nil_sublist _ | apply List.Sublist.cons_cons | apply List.Sublist.cons))) ?_
    try simp only [Act.put, List.setIfInBounds_toArray, List.set_cons_zero, List.set_cons_succ, List.getElem_toArray, List.getElem_cons_succ, List.getElem_cons_zero]
    refine wpAnyH_take (i := 5) (v := undef) rfl (by kernel_rfl) (by kernel_rfl) (by kernel_rfl) (fun _ _ _ h => h) (Or.inr ⟨by rfl, rfl⟩) (hS.sub (by repeat (first | exact List.Sublist.slnil | exact List.nil_sublist _ | apply List.Sublist.cons_cons | apply List.Sublist.cons))) ?_
    try simp only [Act.put, List.setIfInBounds_toArray, List.set_cons_zero, List.set_cons_succ, List.getElem_toArray, List.getElem_cons_succ, List.getElem_cons_zero]
    refine wpAnyH_take (i := 6) (v := undef) rfl (by kernel_rfl) (by kernel_rfl) (by kernel_rfl) (fun _ _ _ h => h) (Or.inr ⟨by rfl, rfl⟩) (hS.sub (by repeat (first | exact List.Sublist.slnil | exact List.nil_sublist _ | apply List.Sublist.cons_cons | apply List.Sublist.cons))) ?_
    try simp only [Act.put, List.setIfInBounds_toArray, List.set_cons_zero, List.set_cons_succ, List.getElem_toArray, List.getElem_cons_succ, List.getElem_cons_zero]
    refine wpAnyH_take (i := 7) (v := undef) rfl (by kernel_rfl) (by kernel_rfl) (by kernel_rfl) (fun _ _ _ h => h) (Or.inr ⟨by rfl, rfl⟩) (hS.sub (by repeat (first | exact List.Sublist.slnil | exact List.nil_sublist _ | apply List.Sublist.cons_cons | apply List.Sublist.cons))) ?_
    try simp only [Act.put, List.setIfInBounds_toArray, List.set_cons_zero, List.set_cons_succ, List.getElem_toArray, List.getElem_cons_succ, List.getElem_cons_zero]
    refine wpAnyH_take (i := 8) (v := ?_) rfl (by kernel_rfl) (by kernel_rfl) (by kernel_rfl) (fun _ _ _ h => h) (Or.inl ⟨by rfl, ?_⟩) (hS.sub (by repeat (first | exact List.Sublist.slnil | exact List.nil_sublist _ | apply List.Sublist.cons_cons | apply List.Sublist.cons))) ?_
    rotate_left 1
    · intro W hW
      clear hW
      go_simp
      all_goals with_reducible rfl
    try simp only [Act.put, List.setIfInBounds_toArray, List.set_cons_zero, List.set_cons_succ, List.getElem_toArray, List.getElem_cons_succ, List.getElem_cons_zero]
    refine wpAnyH_take (i := 9) (v := ?_) rfl (by kernel_rfl) (by kernel_rfl) (by kernel_rfl) (fun _ _ _ h => h) (Or.inl ⟨by rfl, ?_⟩) (hS.sub (by repeat (first | exact List.Sublist.slnil | exact List.nil_sublist _ | apply List.Sublist.cons_cons | apply List.Sublist.cons))) ?_
    rotate_left 1
    · intro W hW
      clear hW
      go_simp
      all_goals with_reducible rfl
    try simp only [Act.put, List.setIfInBounds_toArray, List.set_cons_zero, List.set_cons_succ, List.getElem_toArray, List.getElem_cons_succ, List.getElem_cons_zero]
    refine wpAnyH_done (by kernel_rfl) ?_ _
    go_wp2_with fail
    go_returns
    exact ⟨rfl, hS.below⟩
  · refine (E2.out _ _ _ (hS.ls hsha (fun e he => by repeat (first | exact he | exact List.mem_append_right _ he | exact List.mem_append_left _ he | exact List.mem_append_left _ (List.mem_append_right _ he) | exact List.mem_append_left _ (List.mem_append_left _ he) | exact List.mem_append_left _ (List.mem_append_left _ (List.mem_append_right _ he)) | refine List.Mem.tail _ ?_))) hS.below NE.out).mono ?_
    rintro e w1 ⟨Ac, cc, Ad, cd, rfl, hl, hl3, hbl⟩
    have hshc := hl.shp
    replace hS := hS.callN hbl hl
    simp only [List.cons_append, List.nil_append] at hS
    clear hl hl3 hbl
    have q1 : (C1.length : Int) ≤ 200 := by have := LE1.out; omega
    have q2 : (C2.length : Int) ≤ 200 := by have := LE2.out; omega
    go_wp2_with (first | ((with_reducible refine to_app ?_); refine Wl_app hS1 hO1 5 i0 (.int .u8 0) 1 Try.underlying52 hi0 hz0 hz1 hz2 rfl rfl _ _ ((R2.out.below hS1.below).src (P := Try.prog) (tx := 52) Try.underlying52 (ints_one _ _)) (by simp [ints, maxLen]; omega) (by simp [ints]; omega) ?_; intro v2 E2' w3 hO2 hS2; replace hO2 := Own.join hO2; rw [← HLL.out] at hO2; obtain ⟨A3, c3, rfl⟩ := hO2.len; rw [ints_length] at hO2; simp only [ints_length, Act.put, List.setIfInBounds_toArray, List.set_cons_zero, List.set_cons_succ]) | ((with_reducible refine to_app ?_); refine Wl_app (E := []) (by rw [List.append_nil]; exact hS) Own.none 5 i0 (.int .u8 0) 1 Try.underlying52 hi0 hz0 hz1 hz2 rfl rfl _ _ ((R1.out.below hS.below).src (P := Try.prog) (tx := 52) Try.underlying52 (ints_one _ _)) (by simp [ints, maxLen]; omega) (by simp [ints]; omega) ?_; intro v1 E1' w2 hO1 hS1; simp only [Act.put, List.setIfInBounds_toArray, List.set_cons_zero, List.set_cons_succ]) | first
  | ((with_reducible refine to_bsl ?_); refine Wl_bsl hS 5 .u8 [0, 0, 0, 0, 0, 0, 0, 0, 195] Try.underlying52 szU zU rfl (by decide) (by decide) rfl ?_; clear hS; intro bX wW hgebX hS; simp only [Act.put, List.setIfInBounds_toArray, List.set_cons_zero, List.set_cons_succ])
  | ((with_reducible refine to_alloc 59 rfl ?_); refine Wl_alloc hS (fun _ => by rfl) _ rgZ ?_; clear hS; intro b4 wW hS; simp only [Act.put, List.setIfInBounds_toArray, List.set_cons_zero, List.set_cons_succ])
  | ((with_reducible refine to_load 59 rfl ?_); refine Wl_load hS (fun _ => by rfl) _ _ rfl _ Try.underlying59 rfl ?_; (repeat (first | (refine Row.here ⟨rgI.trans rfl, ?_⟩) | refine Row.next ?_)); (with_reducible show wpList _ _ _ _ _ _); simp only [Act.put, List.setIfInBounds_toArray, List.set_cons_zero, List.set_cons_succ])
  | ((with_reducible refine to_store 59 rfl ?_); refine Wl_store hS (fun _ => by rfl) _ _ _ rfl rfl (rgI.trans rfl) (rg_one _ _ _ _) ?_; (repeat (first | refine Turn.here rfl ?_ | refine Turn.next ?_)); clear hS; intro wW hS; try simp only [Act.put, List.setIfInBounds_toArray, List.set_cons_zero, List.set_cons_succ]))
    have hres := hO2.res hS2
    clear hS hS1 hO1
    have hS := hS2
    clear hS2
    refine (dreset_any _).mono ?_
    rintro e w1 ⟨rfl, hB3⟩
    replace hS := hS.call hB3
    simp only [List.cons_append, List.nil_append] at hS
    go_wp2_with (first
  | ((with_reducible refine to_bsl ?_); refine Wl_bsl hS 5 .u8 [0, 0, 0, 0, 0, 0, 0, 0, 195] Try.underlying52 szU zU rfl (by decide) (by decide) rfl ?_; clear hS; intro bX wW hgebX hS; simp only [Act.put, List.setIfInBounds_toArray, List.set_cons_zero, List.set_cons_succ])
  | ((with_reducible refine to_alloc 59 rfl ?_); refine Wl_alloc hS (fun _ => by rfl) _ rgZ ?_; clear hS; intro b4 wW hS; simp only [Act.put, List.setIfInBounds_toArray, List.set_cons_zero, List.set_cons_succ])
  | ((with_reducible refine to_load 59 rfl ?_); refine Wl_load hS (fun _ => by rfl) _ _ rfl _ Try.underlying59 rfl ?_; (repeat (first | (refine Row.here ⟨rgI.trans rfl, ?_⟩) | refine Row.next ?_)); (with_reducible show wpList _ _ _ _ _ _); simp only [Act.put, List.setIfInBounds_toArray, List.set_cons_zero, List.set_cons_succ])
  | ((with_reducible refine to_store 59 rfl ?_); refine Wl_store hS (fun _ => by rfl) _ _ _ rfl rfl (rgI.trans rfl) (rg_one _ _ _ _) ?_; (repeat (first | refine Turn.here rfl ?_ | refine Turn.next ?_)); clear hS; intro wW hS; try simp only [Act.put, List.setIfInBounds_toArray, List.set_cons_zero, List.set_cons_succ]))
    refine (E3.out _ _ _ ((hres.below hB3).mono (Nat.zero_le _))).mono ?_
    rintro e w1 ⟨Ae, ce, Af, cf, rfl, hl, hl3, hbl⟩
    have hshe := hl.shp
    replace hS := hS.callN hbl hl
    simp only [List.cons_append, List.nil_append] at hS
    clear hl hl3 hbl hres
    go_wp2_with (first
  | ((with_reducible refine to_bsl ?_); refine Wl_bsl hS 5 .u8 [0, 0, 0, 0, 0, 0, 0, 0, 195] Try.underlying52 szU zU rfl (by decide) (by decide) rfl ?_; clear hS; intro bX wW hgebX hS; simp only [Act.put, List.setIfInBounds_toArray, List.set_cons_zero, List.set_cons_succ])
  | ((with_reducible refine to_alloc 59 rfl ?_); refine Wl_alloc hS (fun _ => by rfl) _ rgZ ?_; clear hS; intro b4 wW hS; simp only [Act.put, List.setIfInBounds_toArray, List.set_cons_zero, List.set_cons_succ])
  | ((with_reducible refine to_load 59 rfl ?_); refine Wl_load hS (fun _ => by rfl) _ _ rfl _ Try.underlying59 rfl ?_; (repeat (first | (refine Row.here ⟨rgI.trans rfl, ?_⟩) | refine Row.next ?_)); (with_reducible show wpList _ _ _ _ _ _); simp only [Act.put, List.setIfInBounds_toArray, List.set_cons_zero, List.set_cons_succ])
  | ((with_reducible refine to_store 59 rfl ?_); refine Wl_store hS (fun _ => by rfl) _ _ _ rfl rfl (rgI.trans rfl) (rg_one _ _ _ _) ?_; (repeat (first | refine Turn.here rfl ?_ | refine Turn.next ?_)); clear hS; intro wW hS; try simp only [Act.put, List.setIfInBounds_toArray, List.set_cons_zero, List.set_cons_succ]))
    refine (HS.out _ _ _ _ _ (hS.ls hshc (fun e he => by repeat (first | exact he | exact List.mem_append_right _ he | exact List.mem_append_left _ he | exact List.mem_append_left _ (List.mem_append_right _ he) | exact List.mem_append_left _ (List.mem_append_left _ he) | exact List.mem_append_left _ (List.mem_append_left _ (List.mem_append_right _ he)) | refine List.Mem.tail _ ?_))) (hS.ls hshe (fun e he => by repeat (first | exact he | exact List.mem_append_right _ he | exact List.mem_append_left _ he | exact List.mem_append_left _ (List.mem_append_right _ he) | exact List.mem_append_left _ (List.mem_append_left _ he) | exact List.mem_append_left _ (List.mem_append_left _ (List.mem_append_right _ he)) | refine List.Mem.tail _ ?_)))).mono ?_
    rintro e w1 ⟨rfl, hbl⟩
    replace hS := hS.call hbl
    clear hbl
    go_wp2_with (first
  | ((with_reducible refine to_bsl ?_); refine Wl_bsl hS 5 .u8 [0, 0, 0, 0, 0, 0, 0, 0, 195] Try.underlying52 szU zU rfl (by decide) (by decide) rfl ?_; clear hS; intro bX wW hgebX hS; simp only [Act.put, List.setIfInBounds_toArray, List.set_cons_zero, List.set_cons_succ])
  | ((with_reducible refine to_alloc 59 rfl ?_); refine Wl_alloc hS (fun _ => by rfl) _ rgZ ?_; clear hS; intro b4 wW hS; simp only [Act.put, List.setIfInBounds_toArray, List.set_cons_zero, List.set_cons_succ])
  | ((with_reducible refine to_load 59 rfl ?_); refine Wl_load hS (fun _ => by rfl) _ _ rfl _ Try.underlying59 rfl ?_; (repeat (first | (refine Row.here ⟨rgI.trans rfl, ?_⟩) | refine Row.next ?_)); (with_reducible show wpList _ _ _ _ _ _); simp only [Act.put, List.setIfInBounds_toArray, List.set_cons_zero, List.set_cons_succ])
  | ((with_reducible refine to_store 59 rfl ?_); refine Wl_store hS (fun _ => by rfl) _ _ _ rfl rfl (rgI.trans rfl) (rg_one _ _ _ _) ?_; (repeat (first | refine Turn.here rfl ?_ | refine Turn.next ?_)); clear hS; intro wW hS; try simp only [Act.put, List.setIfInBounds_toArray, List.set_cons_zero, List.set_cons_succ]))
    refine (E4.out _ _ _ _ _ (hS.ls hshc (fun e he => by repeat (first | exact he | exact List.mem_append_right _ he | exact List.mem_append_left _ he | exact List.mem_append_left _ (List.mem_append_right _ he) | exact List.mem_append_left _ (List.mem_append_left _ he) | exact List.mem_append_left _ (List.mem_append_left _ (List.mem_append_right _ he)) | refine List.Mem.tail _ ?_))) (hS.lsOwn (F := 0) (k := .u8) (zs := [0, 0, 0, 0, 0, 0, 0, 0, 195]) (Nat.zero_le _) (.head _) (by decide))).mono ?_
    rintro e w1 ⟨Ag, cg, Ah, ch, rfl, hl, hl3, hbl⟩
    obtain ⟨A', cc', hs', _, hcm, _⟩ := hl.shp
    simp only [Value.slice.injEq] at hs'
    obtain ⟨-, -, rfl⟩ := hs'
    replace hS := hS.call hbl
    clear hl hl3 hbl
    go_wp2_with (first
  | ((with_reducible refine to_bsl ?_); refine Wl_bsl hS 5 .u8 [0, 0, 0, 0, 0, 0, 0, 0, 195] Try.underlying52 szU zU rfl (by decide) (by decide) rfl ?_; clear hS; intro bX wW hgebX hS; simp only [Act.put, List.setIfInBounds_toArray, List.set_cons_zero, List.set_cons_succ])
  | ((with_reducible refine to_alloc 59 rfl ?_); refine Wl_alloc hS (fun _ => by rfl) _ rgZ ?_; clear hS; intro b4 wW hS; simp only [Act.put, List.setIfInBounds_toArray, List.set_cons_zero, List.set_cons_succ])
  | ((with_reducible refine to_load 59 rfl ?_); refine Wl_load hS (fun _ => by rfl) _ _ rfl _ Try.underlying59 rfl ?_; (repeat (first | (refine Row.here ⟨rgI.trans rfl, ?_⟩) | refine Row.next ?_)); (with_reducible show wpList _ _ _ _ _ _); simp only [Act.put, List.setIfInBounds_toArray, List.set_cons_zero, List.set_cons_succ])
  | ((with_reducible refine to_store 59 rfl ?_); refine Wl_store hS (fun _ => by rfl) _ _ _ rfl rfl (rgI.trans rfl) (rg_one _ _ _ _) ?_; (repeat (first | refine Turn.here rfl ?_ | refine Turn.next ?_)); clear hS; intro wW hS; try simp only [Act.put, List.setIfInBounds_toArray, List.set_cons_zero, List.set_cons_succ]))
    refine wp_region_held_drew (S := fun W => St w.heap.size 0 0 w [⟨b4, 0, true, M.rReset.c (.slice Ag 0 cg)⟩] W) (by kernel_rfl) (hS.drew.sub (by repeat (first | exact List.Sublist.slnil | exact List.nil_sublist _ | apply List.Sublist.cons_cons | apply List.Sublist.cons))) ?_
    intro _
    replace hS := hS.drew
    generalize World.drew _ = wX at hS ⊢
    first
      | refine wpAnyH_take (i := 0) rfl (by kernel_rfl) (by kernel_rfl) (by kernel_rfl) (fun _ _ _ h => h) (yields_row (by rfl) _ _ rfl _ _ rfl _ Try.underlying59 rfl _ (fun W hW => hW.range (.head _)) (rgI.trans rfl)) (hS.sub (by repeat (first | exact List.Sublist.slnil | exact List.nil_sublist _ | apply List.Sublist.cons_cons | apply List.Sublist.cons))) ?_
      | refine wpAnyH_take (i := 0) rfl (by kernel_rfl) (by kernel_rfl) (by kernel_rfl) (fun _ _ _ h => h) (yields_row (by rfl) _ _ rfl _ _ rfl _ Try.underlying59 rfl _ (fun W hW => hW.range (.tail _ (.head _))) (rgI.trans rfl)) (hS.sub (by repeat (first | exact List.Sublist.slnil | exact List.nil_sublist _ | apply List.Sublist.cons_cons | apply List.Sublist.cons))) ?_
      | refine wpAnyH_take (i := 0) rfl (by kernel_rfl) (by kernel_rfl) (by kernel_rfl) (fun _ _ _ h => h) (yields_row (by rfl) _ _ rfl _ _ rfl _ Try.underlying59 rfl _ (fun W hW => hW.range (.tail _ (.tail _ (.head _)))) (rgI.trans rfl)) (hS.sub (by repeat (first | exact List.Sublist.slnil | exact List.nil_sublist _ | apply List.Sublist.cons_cons | apply List.Sublist.cons))) ?_
      | refine wpAnyH_take (i := 0) rfl (by kernel_rfl) (by kernel_rfl) (by kernel_rfl) (fun _ _ _ h => h) (yields_row (by rfl) _ _ rfl _ _ rfl _ Try.underlying59 rfl _ (fun W hW => hW.range (.tail _ (.tail _ (.tail _ (.head _))))) (rgI.trans rfl)) (hS.sub (by repeat (first | exact List.Sublist.slnil | exact List.nil_sublist _ | apply List.Sublist.cons_cons | apply List.Sublist.cons))) ?_
      | refine wpAnyH_take (i := 0) rfl (by kernel_rfl) (by kernel_rfl) (by kernel_rfl) (fun _ _ _ h => h) (yields_row (by rfl) _ _ rfl _ _ rfl _ Try.underlying59 rfl _ (fun W hW => hW.range (.tail _ (.tail _ (.tail _ (.tail _ (.head _)))))) (rgI.trans rfl)) (hS.sub (by repeat (first | exact List.Sublist.slnil | exact List.nil_sublist _ | apply List.Sublist.cons_cons | apply List.Sublist.cons))) ?_
      | refine wpAnyH_take (i := 0) rfl (by kernel_rfl) (by kernel_rfl) (by kernel_rfl) (fun _ _ _ h => h) (yields_row (by rfl) _ _ rfl _ _ rfl _ Try.underlying59 rfl _ (fun W hW => hW.range (.tail _ (.tail _ (.tail _ (.tail _ (.tail _ (.head _))))))) (rgI.trans rfl)) (hS.sub (by repeat (first | exact List.Sublist.slnil | exact List.nil_sublist _ | apply List.Sublist.cons_cons | apply List.Sublist.cons))) ?_
    try simp only [Act.put, List.setIfInBounds_toArray, List.set_cons_zero, List.set_cons_succ, List.getElem_toArray, List.getElem_cons_succ, List.getElem_cons_zero]
    refine wpAnyH_ready (rs := [1]) (by kernel_rfl) (by simp) (AllReadyH.cons rfl ?_ AllReadyH.nil)
    intro K1 hK1
    rw [if_pos (by rfl)]
    try simp only [Act.put, List.setIfInBounds_toArray, List.set_cons_zero, List.set_cons_succ, List.getElem_toArray, List.getElem_cons_succ, List.getElem_cons_zero]
    go_simp
    refine (dreset_any _).mono ?_
    rintro e1 v2 ⟨rfl, hb⟩
    replace hS := hS.call hb
    clear hb
    refine hK1.out _ _ (hS.sub (by repeat (first | exact List.Sublist.slnil | exact List.nil_sublist _ | apply List.Sublist.cons_cons | apply List.Sublist.cons))) (fun _ => ?_)
    clear hK1
    try simp only [Act.put, List.setIfInBounds_toArray, List.set_cons_zero, List.set_cons_succ, List.getElem_toArray, List.getElem_cons_succ, List.getElem_cons_zero]
    refine wpAnyH_ready (rs := [2]) (by kernel_rfl) (by simp) (AllReadyH.cons rfl ?_ AllReadyH.nil)
    intro K1 hK1
    rw [if_pos (by rfl)]
    try simp only [Act.put, List.setIfInBounds_toArray, List.set_cons_zero, List.set_cons_succ, List.getElem_toArray, List.getElem_cons_succ, List.getElem_cons_zero]
    go_simp
    refine (same_any M.rReset _ _ _ _ (by decide) _ (Ls.nil _ _ _ _ hcm) (Ls.nil _ _ _ _ (Nat.zero_le _))).mono ?_
    rintro e1 v2 ⟨rfl, hb⟩
    replace hS := hS.call hb
    clear hb
    refine hK1.out _ _ (hS.sub (by repeat (first | exact List.Sublist.slnil | exact List.nil_sublist _ | apply List.Sublist.cons_cons | apply List.Sublist.cons))) (fun _ => ?_)
    clear hK1
    try simp only [Act.put, List.setIfInBounds_toArray, List.set_cons_zero, List.set_cons_succ, List.getElem_toArray, List.getElem_cons_succ, List.getElem_cons_zero]
    refine wpAnyH_take (i := 3) (v := ?_) rfl (by kernel_rfl) (by kernel_rfl) (by kernel_rfl) (fun _ _ _ h => h) (Or.inl ⟨by rfl, ?_⟩) (hS.sub (by repeat (first | exact List.Sublist.slnil | exact List.nil_sublist _ | apply List.Sublist.cons_cons | apply List.Sublist.cons))) ?_
    rotate_left 1
    · intro W hW
      clear hW
      go_simp
      all_goals with_reducible rfl
    try simp only [Act.put, List.setIfInBounds_toArray, List.set_cons_zero, List.set_cons_succ, List.getElem_toArray, List.getElem_cons_succ, List.getElem_cons_zero]
    refine wpAnyH_take (i := 4) (v := undef) rfl (by kernel_rfl) (by kernel_rfl) (by kernel_rfl) (fun _ _ _ h => h) (Or.inr ⟨by rfl, rfl⟩) (hS.sub (by repeat (first | exact List.Sublist.slnil | exact List.nil_sublist _ | apply List.Sublist.cons_cons | apply List.Sublist.cons))) ?_
    try simp only [Act.put, List.setIfInBounds_toArray, List.set_cons_zero, List.set_cons_succ, List.getElem_toArray, List.getElem_cons_succ, List.getElem_cons_zero]
    refine wpAnyH_take (i := 5) (v := undef) rfl (by kernel_rfl) (by kernel_rfl) (by kernel_rfl) (fun _ _ _ h => h) (Or.inr ⟨by rfl, rfl⟩) (hS.sub (by repeat (first | exact List.Sublist.slnil | exact List.nil_sublist _ | apply List.Sublist.cons_cons | apply List.Sublist.cons))) ?_
    try simp only [Act.put, List.setIfInBounds_toArray, List.set_cons_zero, List.set_cons_succ, List.getElem_toArray, List.getElem_cons_succ, List.getElem_cons_zero]
    refine wpAnyH_take (i := 6) (v := undef) rfl (by kernel_rfl) (by kernel_rfl) (by kernel_rfl) (fun _ _ _ h => h) (Or.inr ⟨by rfl, rfl⟩) (hS.sub (by repeat (first | exact List.Sublist.slnil | exact List.nil_sublist _ | apply List.Sublist.cons_cons | apply List.Sublist.cons))) ?_
    try simp only [Act.put, List.setIfInBounds_toArray, List.set_cons_zero, List.set_cons_succ, List.getElem_toArray, List.getElem_cons_succ, List.getElem_cons_zero]
    refine wpAnyH_take (i := 7) (v := undef) rfl (by kernel_rfl) (by kernel_rfl) (by kernel_rfl) (fun _ _ _ h => h) (Or.inr ⟨by rfl, rfl⟩) (hS.sub (by repeat (first | exact List.Sublist.slnil | exact List.nil_sublist _ | apply List.Sublist.cons_cons | apply List.Sublist.cons))) ?_
    try simp only [Act.put, List.setIfInBounds_toArray, List.set_cons_zero, List.set_cons_succ, List.getElem_toArray, List.getElem_cons_succ, List.getElem_cons_zero]
    refine wpAnyH_take (i := 8) (v := ?_) rfl (by kernel_rfl) (by kernel_rfl) (by kernel_rfl) (fun _ _ _ h => h) (Or.inl ⟨by rfl, ?_⟩) (hS.sub (by repeat (first | exact List.Sublist.slnil | exact List.nil_sublist _ | apply List.Sublist.cons_cons | apply List.Sublist.cons))) ?_
    rotate_left 1
    · intro W hW
      clear hW
      go_simp
      all_goals with_reducible rfl
    try simp only [Act.put, List.setIfInBounds_toArray, List.set_cons_zero, List.set_cons_succ, List.getElem_toArray, List.getElem_cons_succ, List.getElem_cons_zero]
    refine wpAnyH_take (i := 9) (v := ?_) rfl (by kernel_rfl) (by kernel_rfl) (by kernel_rfl) (fun _ _ _ h => h) (Or.inl ⟨by rfl, ?_⟩) (hS.sub (by repeat (first | exact List.Sublist.slnil | exact List.nil_sublist _ | apply List.Sublist.cons_cons | apply List.Sublist.cons))) ?_
    rotate_left 1
    · intro W hW
      clear hW
      go_simp
      all_goals with_reducible rfl
    try simp only [Act.put, List.setIfInBounds_toArray, List.set_cons_zero, List.set_cons_succ, List.getElem_toArray, List.getElem_cons_succ, List.getElem_cons_zero]
    refine wpAnyH_done (by kernel_rfl) ?_ _
    go_wp2_with fail
    go_returns
    exact ⟨rfl, hS.below⟩
end Go.Proofs.Ytlpoldnidojgmaa
