/- Write of a DMA (dma), by its contract. -/
import Derived.Test.YtkkkjdbcckaedaaZDm
import Derived.Test.YtkkkjdbcckaedaaRgWrite
import Derived.Test.YtkkkjdbcckaedaaMaps
import Derived.Test.YtkkkjdbcckaedaaRgReg
namespace Go.Proofs.Ytkkkjdbcckaedaa
open Go.RowKit
set_option linter.unusedVariables false
set_option linter.unusedSimpArgs false
set_option maxRecDepth 100000
theorem umapD : Try.prog.underlying 81 = some (.map 5 78) := by kernel_rfl
theorem uu8D : Try.prog.underlying 5 = some (.int .u8) := by kernel_rfl
theorem zfnD (w : World) : (zeroValue 78).run Try.prog w = .ok .nilFunc w := by kernel_rfl
def M.cmdEs : Array MapEntry := #[⟨.int .u8 195, .func (.func 46) #[] #[], 0⟩, ⟨.int .u8 207, .func (.func 47) #[] #[], 1⟩, ⟨.int .u8 211, .func (.func 48) #[] #[], 2⟩, ⟨.int .u8 179, .func (.func 49) #[] #[], 3⟩, ⟨.int .u8 131, .func (.func 50) #[] #[], 4⟩, ⟨.int .u8 139, .func (.func 51) #[] #[], 5⟩, ⟨.int .u8 163, .func (.func 52) #[] #[], 6⟩, ⟨.int .u8 167, .func (.func 53) #[] #[], 7⟩, ⟨.int .u8 191, .func (.func 54) #[] #[], 8⟩]
theorem M.cmd_miss (C : Int) : C ≠ 195 → C ≠ 207 → C ≠ 211 → C ≠ 179 → C ≠ 131 → C ≠ 139 → C ≠ 163 → C ≠ 167 → C ≠ 191 → Instr.findNow (.int .u8) (.int .u8 C) M.cmdEs.toList 0 = some none := by
  intro h1 h2 h3 h4 h5 h6 h7 h8 h9
  have k1 : (C == 195) = false := by simpa using h1
  have k2 : (C == 207) = false := by simpa using h2
  have k3 : (C == 211) = false := by simpa using h3
  have k4 : (C == 179) = false := by simpa using h4
  have k5 : (C == 131) = false := by simpa using h5
  have k6 : (C == 139) = false := by simpa using h6
  have k7 : (C == 163) = false := by simpa using h7
  have k8 : (C == 167) = false := by simpa using h8
  have k9 : (C == 191) = false := by simpa using h9
  simp only [M.cmdEs, Instr.findNow, Instr.sameNow, k1, k2, k3, k4, k5, k6, k7, k8, k9, if_true]
theorem M.cmd_cases (C : Int) : C = 195 ∨ C = 207 ∨ C = 211 ∨ C = 179 ∨ C = 131 ∨ C = 139 ∨ C = 163 ∨ C = 167 ∨ C = 191 ∨ (Instr.findNow (.int .u8) (.int .u8 C) M.cmdEs.toList 0 = some none ∧ ∀ x, M.dCmd x C = x) := by
  by_cases h1 : C = 195
  · exact .inl h1
  by_cases h2 : C = 207
  · exact .inr (.inl h2)
  by_cases h3 : C = 211
  · exact .inr (.inr (.inl h3))
  by_cases h4 : C = 179
  · exact .inr (.inr (.inr (.inl h4)))
  by_cases h5 : C = 131
  · exact .inr (.inr (.inr (.inr (.inl h5))))
  by_cases h6 : C = 139
  · exact .inr (.inr (.inr (.inr (.inr (.inl h6)))))
  by_cases h7 : C = 163
  · exact .inr (.inr (.inr (.inr (.inr (.inr (.inl h7))))))
  by_cases h8 : C = 167
  · exact .inr (.inr (.inr (.inr (.inr (.inr (.inr (.inl h8)))))))
  by_cases h9 : C = 191
  · exact .inr (.inr (.inr (.inr (.inr (.inr (.inr (.inr (.inl h9))))))))
  · exact .inr (.inr (.inr (.inr (.inr (.inr (.inr (.inr (.inr ⟨M.cmd_miss C h1 h2 h3 h4 h5 h6 h7 h8 h9, fun x => by simp [M.dCmd, h1, h2, h3, h4, h5, h6, h7, h8, h9]⟩))))))))
set_option maxHeartbeats 16000000 in
theorem dmwrite_core (d : M.Dm) (R : M.Rg) (C : Int) (x : M.Dm) (hx : Hid (x = { d with p := R })) (hok : x.ok) (A : Option Addr) (c : Nat) (b : Int) (h0 : 0 ≤ b) (h1 : b ≤ 255) (w : World)
    (HT : Hid (∀ W, Below w.heap.size w W → Calls Try.prog 45 #[.agg (d.p.c (.slice A d.p.want.length c)), .int .u8 b] W fun e w' => ∃ A' c', e = .returned (.tuple #[.agg (R.c (.slice A' R.want.length c')), .int .u8 C]) ∧ Ls W.heap.size w' (.slice A' R.want.length c') (ints .i64 R.want) ∧ Below W.heap.size W w')) :
    Calls Try.prog 19 #[.agg (d.c (.slice A d.p.want.length c)), .int .u8 b] w fun e w' => ∃ A' c', e = .returned (.agg ((M.dCmd x C).c (.slice A' (M.dCmd x C).p.want.length c'))) ∧ Ls w.heap.size w' (.slice A' (M.dCmd x C).p.want.length c') (ints .i64 (M.dCmd x C).p.want) ∧ Below w.heap.size w w' := by
  have hS := St.start w.heap.size 0 0 w
  go_enter Try.func19, Try.ntmps19
  go_wp2_with (first
  | ((with_reducible refine to_boxT 29 rfl ?_); refine Wl_box hS (fun _ => by rfl) _ rfl ?_; clear hS; intro b2 wW hS; simp only [nA])
  | ((with_reducible refine to_alloc 29 rfl ?_); refine Wl_alloc hS (fun _ => by rfl) _ dmZ ?_; clear hS; intro b4 wW hS; simp only [nA])
  | ((with_reducible refine to_load 27 rfl ?_); refine Wl_load_sub hS (fun _ => by rfl) _ _ rfl _ Try.underlying27 rfl (d.p.c (.slice A d.p.want.length c)) (rgI.trans rfl) ?_; (repeat (first | (refine Sub.here (of_decide_eq_true rfl) rfl ?_) | refine Sub.next ?_)); (with_reducible show wpList _ _ _ _ _ _); simp only [nA]))
  refine (HT.out _ hS.below).mono ?_
  rintro e w1 ⟨A1, c1, rfl, hl, hb⟩
  have hfA1 := fun e he => Nat.le_trans hS.size (hl.ent e he).1
  replace hS := hS.callN hb hl
  simp only [List.cons_append, List.nil_append] at hS
  have hshA1 := hl.shp
  clear hb hl HT
  go_wp2_with (first
  | ((with_reducible refine to_store 27 rfl ?_); refine Wl_store_sub hS (fun _ => by rfl) _ _ _ (({ d with p := R } : M.Dm).c (.slice A1 R.want.length c1)) rfl rfl (rgI.trans rfl) (rg_one _ _ _ _) ?_; (repeat (first | refine SubTurn.here (of_decide_eq_true rfl) (of_decide_eq_true rfl) rfl ?_ | refine SubTurn.next ?_)); clear hS; intro wW hS; rw [← hx.out] at hS; try simp only [nA])
  | ((with_reducible refine to_mkmap ?_); refine Wl_mkmap hS ?_; clear hS; intro m wW hge hM hS; simp only [nA])
  | ((with_reducible refine is_insert ?_); refine wpList_insert _ rfl _ _ _ _ rfl _ _ _ umapD uu8D _ _ _ rfl hM _ _ rfl rfl rfl ?_; intro W1 hm1 hg1; replace hS := hS.touch0 (touch_map hM hm1 hg1) hge; replace hM := hm1; clear hm1 hg1; simp only [nA])
  | ((with_reducible refine is_lookup ?_); rcases M.cmd_cases C with rfl | rfl | rfl | rfl | rfl | rfl | rfl | rfl | rfl | hm; (refine wpList_look _ rfl _ _ _ rfl _ _ _ umapD uu8D m 9 M.cmdEs rfl hM _ rfl 0 _ rfl ?_; clear hM; simp only [nA]); rotate_left; (refine wpList_look _ rfl _ _ _ rfl _ _ _ umapD uu8D m 9 M.cmdEs rfl hM _ rfl 1 _ rfl ?_; clear hM; simp only [nA]); rotate_left; (refine wpList_look _ rfl _ _ _ rfl _ _ _ umapD uu8D m 9 M.cmdEs rfl hM _ rfl 2 _ rfl ?_; clear hM; simp only [nA]); rotate_left; (refine wpList_look _ rfl _ _ _ rfl _ _ _ umapD uu8D m 9 M.cmdEs rfl hM _ rfl 3 _ rfl ?_; clear hM; simp only [nA]); rotate_left; (refine wpList_look _ rfl _ _ _ rfl _ _ _ umapD uu8D m 9 M.cmdEs rfl hM _ rfl 4 _ rfl ?_; clear hM; simp only [nA]); rotate_left; (refine wpList_look _ rfl _ _ _ rfl _ _ _ umapD uu8D m 9 M.cmdEs rfl hM _ rfl 5 _ rfl ?_; clear hM; simp only [nA]); rotate_left; (refine wpList_look _ rfl _ _ _ rfl _ _ _ umapD uu8D m 9 M.cmdEs rfl hM _ rfl 6 _ rfl ?_; clear hM; simp only [nA]); rotate_left; (refine wpList_look _ rfl _ _ _ rfl _ _ _ umapD uu8D m 9 M.cmdEs rfl hM _ rfl 7 _ rfl ?_; clear hM; simp only [nA]); rotate_left; (refine wpList_look _ rfl _ _ _ rfl _ _ _ umapD uu8D m 9 M.cmdEs rfl hM _ rfl 8 _ rfl ?_; clear hM; simp only [nA]); rotate_left; (refine wpList_miss _ rfl _ _ _ rfl _ _ _ umapD uu8D m 9 M.cmdEs rfl hM _ rfl _ hm.1 (zfnD _) ?_; clear hM; simp only [nA]); rotate_left)
  | ((with_reducible refine to_load 29 rfl ?_); refine Wl_load hS (fun _ => by rfl) _ _ rfl _ Try.underlying29 rfl ?_; (repeat (first | (refine Row.here ⟨(dmI.trans rfl), ?_⟩) | refine Row.next ?_)); (with_reducible show wpList _ _ _ _ _ _); simp only [nA])
  | ((with_reducible refine to_store 29 rfl ?_); refine Wl_store hS (fun _ => by rfl) _ _ _ rfl rfl (dmI.trans rfl) (dm_one _ _ _ _) ?_; (repeat (first | refine Turn.here rfl ?_)); clear hS; intro wW hS; try simp only [nA]))
  · have hc : M.dCmd x 195 = M.dmNew := by simp [M.dCmd]
    go_at_call 46
    refine (dreset1_any b2 x _ _ (hS.dmAt (.tail _ (.head _))) _ _ _ rfl).mono ?_
    rintro e w1 ⟨rfl, hr, ht⟩
    replace hS := hS.callT (.tail _ (.head _ _ _ _ _)) hr ht rfl
    clear hr ht
    go_wp2_with (first
  | ((with_reducible refine to_load 29 rfl ?_); refine Wl_load hS (fun _ => by rfl) _ _ rfl _ Try.underlying29 rfl ?_; (repeat (first | (refine Row.here ⟨(dmI.trans rfl), ?_⟩) | refine Row.next ?_)); (with_reducible show wpList _ _ _ _ _ _); simp only [nA])
  | ((with_reducible refine to_store 29 rfl ?_); refine Wl_store hS (fun _ => by rfl) _ _ _ rfl rfl (dmI.trans rfl) (dm_one _ _ _ _) ?_; (repeat (first | refine Turn.here rfl ?_)); clear hS; intro wW hS; try simp only [nA]))
    refine ret_st hS rfl _ _ rfl rfl _ Try.underlying29 rfl ?_
    repeat (first | (refine Row.here ⟨dmI.trans rfl, ?_⟩))
    rw [hc]
    exact ⟨none, 0, rfl, Ls.nil _ _ _ _ (Nat.zero_le _), hS.below⟩
  · have hc : M.dCmd x 207 = { M.dBlock x with done := false, forced := false } := by simp [M.dCmd]
    go_at_call 47
    refine (dload_any b2 x hok _ _ (hS.dmAt (.tail _ (.head _))) _ _ _ rfl).mono ?_
    rintro e w1 ⟨rfl, hr, ht⟩
    replace hS := hS.callT (.tail _ (.head _ _ _ _ _)) hr ht rfl
    clear hr ht
    go_wp2_with (first
  | ((with_reducible refine to_load 29 rfl ?_); refine Wl_load hS (fun _ => by rfl) _ _ rfl _ Try.underlying29 rfl ?_; (repeat (first | (refine Row.here ⟨(dmI.trans rfl), ?_⟩) | refine Row.next ?_)); (with_reducible show wpList _ _ _ _ _ _); simp only [nA])
  | ((with_reducible refine to_store 29 rfl ?_); refine Wl_store hS (fun _ => by rfl) _ _ _ rfl rfl (dmI.trans rfl) (dm_one _ _ _ _) ?_; (repeat (first | refine Turn.here rfl ?_)); clear hS; intro wW hS; try simp only [nA]))
    refine ret_st hS rfl _ _ rfl rfl _ Try.underlying29 rfl ?_
    repeat (first | (refine Row.here ⟨dmI.trans rfl, ?_⟩))
    rw [hc]
    have hR : R = x.p := by rw [hx.out]
    clear hx
    subst hR
    exact ⟨A1, c1, rfl, hS.lsF hshA1 hfA1 (fun e he => by repeat (first | exact he | refine List.Mem.tail _ ?_)), hS.below⟩
  · have hc : M.dCmd x 211 = { x with left := M.dLen x, done := false } := by simp [M.dCmd]
    go_at_call 48
    refine (dgoOn_any b2 x hok _ _ (hS.dmAt (.tail _ (.head _)))).mono ?_
    rintro e w1 ⟨rfl, hr, ht⟩
    replace hS := hS.callT (.tail _ (.head _ _ _ _ _)) hr ht rfl
    clear hr ht
    go_wp2_with (first
  | ((with_reducible refine to_load 29 rfl ?_); refine Wl_load hS (fun _ => by rfl) _ _ rfl _ Try.underlying29 rfl ?_; (repeat (first | (refine Row.here ⟨(dmI.trans rfl), ?_⟩) | refine Row.next ?_)); (with_reducible show wpList _ _ _ _ _ _); simp only [nA])
  | ((with_reducible refine to_store 29 rfl ?_); refine Wl_store hS (fun _ => by rfl) _ _ _ rfl rfl (dmI.trans rfl) (dm_one _ _ _ _) ?_; (repeat (first | refine Turn.here rfl ?_)); clear hS; intro wW hS; try simp only [nA]))
    refine ret_st hS rfl _ _ rfl rfl _ Try.underlying29 rfl ?_
    repeat (first | (refine Row.here ⟨dmI.trans rfl, ?_⟩))
    rw [hc]
    have hR : R = x.p := by rw [hx.out]
    clear hx
    subst hR
    exact ⟨A1, c1, rfl, hS.lsF hshA1 hfA1 (fun e he => by repeat (first | exact he | refine List.Mem.tail _ ?_)), hS.below⟩
  · have hc : M.dCmd x 179 = { x with forced := true } := by simp [M.dCmd]
    go_at_call 49
    refine (dforce_any b2 x hok _ _ (hS.dmAt (.tail _ (.head _)))).mono ?_
    rintro e w1 ⟨rfl, hr, ht⟩
    replace hS := hS.callT (.tail _ (.head _ _ _ _ _)) hr ht rfl
    clear hr ht
    go_wp2_with (first
  | ((with_reducible refine to_load 29 rfl ?_); refine Wl_load hS (fun _ => by rfl) _ _ rfl _ Try.underlying29 rfl ?_; (repeat (first | (refine Row.here ⟨(dmI.trans rfl), ?_⟩) | refine Row.next ?_)); (with_reducible show wpList _ _ _ _ _ _); simp only [nA])
  | ((with_reducible refine to_store 29 rfl ?_); refine Wl_store hS (fun _ => by rfl) _ _ _ rfl rfl (dmI.trans rfl) (dm_one _ _ _ _) ?_; (repeat (first | refine Turn.here rfl ?_)); clear hS; intro wW hS; try simp only [nA]))
    refine ret_st hS rfl _ _ rfl rfl _ Try.underlying29 rfl ?_
    repeat (first | (refine Row.here ⟨dmI.trans rfl, ?_⟩))
    rw [hc]
    have hR : R = x.p := by rw [hx.out]
    clear hx
    subst hR
    exact ⟨A1, c1, rfl, hS.lsF hshA1 hfA1 (fun e he => by repeat (first | exact he | refine List.Mem.tail _ ?_)), hS.below⟩
  · have hc : M.dCmd x 131 = { x with forced := false } := by simp [M.dCmd]
    go_at_call 50
    refine (drelease_any b2 x hok _ _ (hS.dmAt (.tail _ (.head _)))).mono ?_
    rintro e w1 ⟨rfl, hr, ht⟩
    replace hS := hS.callT (.tail _ (.head _ _ _ _ _)) hr ht rfl
    clear hr ht
    go_wp2_with (first
  | ((with_reducible refine to_load 29 rfl ?_); refine Wl_load hS (fun _ => by rfl) _ _ rfl _ Try.underlying29 rfl ?_; (repeat (first | (refine Row.here ⟨(dmI.trans rfl), ?_⟩) | refine Row.next ?_)); (with_reducible show wpList _ _ _ _ _ _); simp only [nA])
  | ((with_reducible refine to_store 29 rfl ?_); refine Wl_store hS (fun _ => by rfl) _ _ _ rfl rfl (dmI.trans rfl) (dm_one _ _ _ _) ?_; (repeat (first | refine Turn.here rfl ?_)); clear hS; intro wW hS; try simp only [nA]))
    refine ret_st hS rfl _ _ rfl rfl _ Try.underlying29 rfl ?_
    repeat (first | (refine Row.here ⟨dmI.trans rfl, ?_⟩))
    rw [hc]
    have hR : R = x.p := by rw [hx.out]
    clear hx
    subst hR
    exact ⟨A1, c1, rfl, hS.lsF hshA1 hfA1 (fun e he => by repeat (first | exact he | refine List.Mem.tail _ ?_)), hS.below⟩
  · have hc : M.dCmd x 139 = { x with matched := false, done := false, pending := false } := by simp [M.dCmd]
    go_at_call 51
    refine (dforget_any b2 x hok _ _ (hS.dmAt (.tail _ (.head _)))).mono ?_
    rintro e w1 ⟨rfl, hr, ht⟩
    replace hS := hS.callT (.tail _ (.head _ _ _ _ _)) hr ht rfl
    clear hr ht
    go_wp2_with (first
  | ((with_reducible refine to_load 29 rfl ?_); refine Wl_load hS (fun _ => by rfl) _ _ rfl _ Try.underlying29 rfl ?_; (repeat (first | (refine Row.here ⟨(dmI.trans rfl), ?_⟩) | refine Row.next ?_)); (with_reducible show wpList _ _ _ _ _ _); simp only [nA])
  | ((with_reducible refine to_store 29 rfl ?_); refine Wl_store hS (fun _ => by rfl) _ _ _ rfl rfl (dmI.trans rfl) (dm_one _ _ _ _) ?_; (repeat (first | refine Turn.here rfl ?_)); clear hS; intro wW hS; try simp only [nA]))
    refine ret_st hS rfl _ _ rfl rfl _ Try.underlying29 rfl ?_
    repeat (first | (refine Row.here ⟨dmI.trans rfl, ?_⟩))
    rw [hc]
    have hR : R = x.p := by rw [hx.out]
    clear hx
    subst hR
    exact ⟨A1, c1, rfl, hS.lsF hshA1 hfA1 (fun e he => by repeat (first | exact he | refine List.Mem.tail _ ?_)), hS.below⟩
  · have hc : M.dCmd x 163 = { x with pending := false, forced := false } := by simp [M.dCmd]
    go_at_call 52
    refine (dclear_any b2 x hok _ _ (hS.dmAt (.tail _ (.head _)))).mono ?_
    rintro e w1 ⟨rfl, hr, ht⟩
    replace hS := hS.callT (.tail _ (.head _ _ _ _ _)) hr ht rfl
    clear hr ht
    go_wp2_with (first
  | ((with_reducible refine to_load 29 rfl ?_); refine Wl_load hS (fun _ => by rfl) _ _ rfl _ Try.underlying29 rfl ?_; (repeat (first | (refine Row.here ⟨(dmI.trans rfl), ?_⟩) | refine Row.next ?_)); (with_reducible show wpList _ _ _ _ _ _); simp only [nA])
  | ((with_reducible refine to_store 29 rfl ?_); refine Wl_store hS (fun _ => by rfl) _ _ _ rfl rfl (dmI.trans rfl) (dm_one _ _ _ _) ?_; (repeat (first | refine Turn.here rfl ?_)); clear hS; intro wW hS; try simp only [nA]))
    refine ret_st hS rfl _ _ rfl rfl _ Try.underlying29 rfl ?_
    repeat (first | (refine Row.here ⟨dmI.trans rfl, ?_⟩))
    rw [hc]
    have hR : R = x.p := by rw [hx.out]
    clear hx
    subst hR
    exact ⟨A1, c1, rfl, hS.lsF hshA1 hfA1 (fun e he => by repeat (first | exact he | refine List.Mem.tail _ ?_)), hS.below⟩
  · have hc : M.dCmd x 167 = { x with ask := x.p.rmask } := by simp [M.dCmd]
    go_at_call 53
    refine (daskAll_any b2 x hok _ _ (hS.dmAt (.tail _ (.head _)))).mono ?_
    rintro e w1 ⟨rfl, hr, ht⟩
    replace hS := hS.callT (.tail _ (.head _ _ _ _ _)) hr ht rfl
    clear hr ht
    go_wp2_with (first
  | ((with_reducible refine to_load 29 rfl ?_); refine Wl_load hS (fun _ => by rfl) _ _ rfl _ Try.underlying29 rfl ?_; (repeat (first | (refine Row.here ⟨(dmI.trans rfl), ?_⟩) | refine Row.next ?_)); (with_reducible show wpList _ _ _ _ _ _); simp only [nA])
  | ((with_reducible refine to_store 29 rfl ?_); refine Wl_store hS (fun _ => by rfl) _ _ _ rfl rfl (dmI.trans rfl) (dm_one _ _ _ _) ?_; (repeat (first | refine Turn.here rfl ?_)); clear hS; intro wW hS; try simp only [nA]))
    refine ret_st hS rfl _ _ rfl rfl _ Try.underlying29 rfl ?_
    repeat (first | (refine Row.here ⟨dmI.trans rfl, ?_⟩))
    rw [hc]
    have hR : R = x.p := by rw [hx.out]
    clear hx
    subst hR
    exact ⟨A1, c1, rfl, hS.lsF hshA1 hfA1 (fun e he => by repeat (first | exact he | refine List.Mem.tail _ ?_)), hS.below⟩
  · have hc : M.dCmd x 191 = { x with ask := 1 } := by simp [M.dCmd]
    go_at_call 54
    refine (daskOne_any b2 x hok _ _ (hS.dmAt (.tail _ (.head _)))).mono ?_
    rintro e w1 ⟨rfl, hr, ht⟩
    replace hS := hS.callT (.tail _ (.head _ _ _ _ _)) hr ht rfl
    clear hr ht
    go_wp2_with (first
  | ((with_reducible refine to_load 29 rfl ?_); refine Wl_load hS (fun _ => by rfl) _ _ rfl _ Try.underlying29 rfl ?_; (repeat (first | (refine Row.here ⟨(dmI.trans rfl), ?_⟩) | refine Row.next ?_)); (with_reducible show wpList _ _ _ _ _ _); simp only [nA])
  | ((with_reducible refine to_store 29 rfl ?_); refine Wl_store hS (fun _ => by rfl) _ _ _ rfl rfl (dmI.trans rfl) (dm_one _ _ _ _) ?_; (repeat (first | refine Turn.here rfl ?_)); clear hS; intro wW hS; try simp only [nA]))
    refine ret_st hS rfl _ _ rfl rfl _ Try.underlying29 rfl ?_
    repeat (first | (refine Row.here ⟨dmI.trans rfl, ?_⟩))
    rw [hc]
    have hR : R = x.p := by rw [hx.out]
    clear hx
    subst hR
    exact ⟨A1, c1, rfl, hS.lsF hshA1 hfA1 (fun e he => by repeat (first | exact he | refine List.Mem.tail _ ?_)), hS.below⟩
  · refine ret_st hS rfl _ _ rfl rfl _ Try.underlying29 rfl ?_
    repeat (first | (refine Row.here ⟨dmI.trans rfl, ?_⟩))
    rw [hm.2 x]
    have hR : R = x.p := by rw [hx.out]
    clear hx
    subst hR
    exact ⟨A1, c1, rfl, hS.lsF hshA1 hfA1 (fun e he => by repeat (first | exact he | refine List.Mem.tail _ ?_)), hS.below⟩
theorem dmwrite_any (d : M.Dm) (hd : d.ok) (hL : d.p.want.length ≤ 9000) (A : Option Addr) (c : Nat) (b : Int) (h0 : 0 ≤ b) (h1 : b ≤ 255) (w : World) (r1 : Ls 0 w (.slice A d.p.want.length c) (ints .i64 d.p.want)) :
    Calls Try.prog 19 #[.agg (d.c (.slice A d.p.want.length c)), .int .u8 b] w fun e w' => ∃ A' c', e = .returned (.agg ((M.dWrite d b).c (.slice A' (M.dWrite d b).p.want.length c'))) ∧ Ls w.heap.size w' (.slice A' (M.dWrite d b).p.want.length c') (ints .i64 (M.dWrite d b).p.want) ∧ Below w.heap.size w w' :=
  dmwrite_core d (M.rWrite d.p b) (M.rWriteC d.p b) { d with p := M.rWrite d.p b } (Lib.hid rfl) ⟨M.rWrite_ok hd.p h0 h1, hd.a, hd.b, hd.left, hd.hold, hd.ask⟩ A c b h0 h1 w (Lib.hid fun W hW => dwrite_any d.p hd.p hL A c b h0 h1 W (Ls.below r1 hW))
end Go.Proofs.Ytkkkjdbcckaedaa
