/- charabanclaw24.PioLines is true at whatever ports, port and byte. -/
import Derived.Test.YtmoafjgogbcoeaaPioAwake
import Derived.Test.YtmoafjgogbcoeaaPioPlain
import Derived.Test.YtmoafjgogbcoeaaPioEq
import Derived.Test.YtmoafjgogbcoeaaPioRef6
namespace Go.Proofs.Ytmoafjgogbcoeaa
open Go.RowKit
set_option linter.unusedVariables false
set_option linter.unusedSimpArgs false
set_option maxRecDepth 100000
set_option maxHeartbeats 8000000 in
theorem plines_true (p : M.Pi2) (hp : p.ok) (k b : Int) (h0 : 0 ≤ b) (h1 : b ≤ 255) (w : World) : Calls Try.prog 12 #[.agg p.a, .int .i64 k, .int .u8 b] w fun e w' => e = .returned (.bool true) ∧ Below w.heap.size w w' := by
  have c1 := fun W => pack_any p W
  have c2 := fun W => rpack_any p W
  have c3 := fun W => pstrobe_any p hp k b h0 h1 W
  have r3 := fun W => rpstrobe_any p hp k b h0 h1 W
  have c5 := fun W => plines_any p hp k b h0 h1 W
  have r5 := fun W => rplines_any p hp k b h0 h1 W
  have pe := fun W => ppend_any p W
  have rpe := fun W => rppend_any p W
  have d1 := fun W => pplain_any (M.pAck p) W
  have d3 := fun W => pplain_any (M.pStrobe p k b) W
  have d5 := fun W => pplain_any (M.pLines p k b) W
  have d4 := fun W => pplain_any p W
  have e1 := fun W => eqlR (M.pAck p) W
  have e2 := fun W => eqlR (M.pStrobe p k b) W
  have e3 := fun W => eqlR (M.pLines p k b) W
  generalize M.pAck p = P1 at c1 c2 e1 d1
  generalize M.pAckV p = v1 at c1 c2
  generalize M.pStrobe p k b = P2 at c3 r3 e2 d3
  generalize M.pLines p k b = P3 at c5 r5 e3 d5
  generalize M.pPend p = v2 at pe rpe
  have C1 := Lib.hid c1
  have C2 := Lib.hid c2
  have C3 := Lib.hid c3
  have R3 := Lib.hid r3
  have C5 := Lib.hid c5
  have R5 := Lib.hid r5
  have PE := Lib.hid pe
  have RPE := Lib.hid rpe
  have D1 := Lib.hid d1
  have D3 := Lib.hid d3
  have D5 := Lib.hid d5
  have D4 := Lib.hid d4
  clear c1 c2 c3 r3 c5 r5 pe rpe d1 d3 d5 d4
  have hS := St.start w.heap.size 0 0 w
  go_enter Try.func12, Try.ntmps12
  go_wp2_with (first
  | ((with_reducible refine to_box ?_); (first | refine Wl_box hS (fun _ => by rfl) _ rfl ?_ | refine Wl_box1 hS (fun _ => by rfl) (.int _ _) rfl rfl ?_ | refine Wl_box1 hS (fun _ => by rfl) (.bool _) rfl rfl ?_ | refine Wl_box1 hS (fun _ => by rfl) (.slice _ _ _) rfl rfl ?_ | refine Wl_box1 hS (fun _ => by rfl) (.pointer _) rfl rfl ?_); clear hS; intro b3 wW hS; simp only [Act.put, List.setIfInBounds_toArray, List.set_cons_zero, List.set_cons_succ])
  | ((with_reducible refine to_alloc 80 rfl ?_); refine Wl_alloc hS (fun _ => by rfl) _ zero80r ?_; clear hS; intro b8 wW hS; simp only [Act.put, List.setIfInBounds_toArray, List.set_cons_zero, List.set_cons_succ])
  | ((with_reducible refine to_alloc 86 rfl ?_); refine Wl_alloc hS (fun _ => by rfl) _ zero86r ?_; clear hS; intro b10 wW hS; simp only [Act.put, List.setIfInBounds_toArray, List.set_cons_zero, List.set_cons_succ])
  | ((with_reducible refine to_load 80 rfl ?_); refine Wl_load hS (fun _ => by rfl) _ _ rfl _ Try.underlying80 rfl ?_; (repeat (first | (refine Row.here ⟨info80c _, ?_⟩) | refine Row.next ?_)); (with_reducible show wpList _ _ _ _ _ _); simp only [Act.put, List.setIfInBounds_toArray, List.set_cons_zero, List.set_cons_succ])
  | ((with_reducible refine to_store 80 rfl ?_); refine Wl_store hS (fun _ => by rfl) _ _ _ rfl rfl (info80c _) (pi_one _) ?_; (repeat (first | refine Turn.here rfl ?_ | refine Turn.next ?_)); clear hS; intro wW hS; try simp only [Act.put, List.setIfInBounds_toArray, List.set_cons_zero, List.set_cons_succ])
  | ((with_reducible refine to_store 86 rfl ?_); refine Wl_store hS (fun _ => by rfl) _ _ _ rfl rfl (info86c _) (pi_one _) ?_; (repeat (first | refine Turn.here rfl ?_ | refine Turn.next ?_)); clear hS; intro wW hS; try simp only [Act.put, List.setIfInBounds_toArray, List.set_cons_zero, List.set_cons_succ]))
  refine (pawake_any _).mono ?_
  rintro e w1 ⟨rfl, hb⟩
  replace hS := hS.call hb
  clear hb
  go_wp2_with (first
  | ((with_reducible refine to_box ?_); (first | refine Wl_box hS (fun _ => by rfl) _ rfl ?_ | refine Wl_box1 hS (fun _ => by rfl) (.int _ _) rfl rfl ?_ | refine Wl_box1 hS (fun _ => by rfl) (.bool _) rfl rfl ?_ | refine Wl_box1 hS (fun _ => by rfl) (.slice _ _ _) rfl rfl ?_ | refine Wl_box1 hS (fun _ => by rfl) (.pointer _) rfl rfl ?_); clear hS; intro b3 wW hS; simp only [Act.put, List.setIfInBounds_toArray, List.set_cons_zero, List.set_cons_succ])
  | ((with_reducible refine to_alloc 80 rfl ?_); refine Wl_alloc hS (fun _ => by rfl) _ zero80r ?_; clear hS; intro b8 wW hS; simp only [Act.put, List.setIfInBounds_toArray, List.set_cons_zero, List.set_cons_succ])
  | ((with_reducible refine to_alloc 86 rfl ?_); refine Wl_alloc hS (fun _ => by rfl) _ zero86r ?_; clear hS; intro b10 wW hS; simp only [Act.put, List.setIfInBounds_toArray, List.set_cons_zero, List.set_cons_succ])
  | ((with_reducible refine to_load 80 rfl ?_); refine Wl_load hS (fun _ => by rfl) _ _ rfl _ Try.underlying80 rfl ?_; (repeat (first | (refine Row.here ⟨info80c _, ?_⟩) | refine Row.next ?_)); (with_reducible show wpList _ _ _ _ _ _); simp only [Act.put, List.setIfInBounds_toArray, List.set_cons_zero, List.set_cons_succ])
  | ((with_reducible refine to_store 80 rfl ?_); refine Wl_store hS (fun _ => by rfl) _ _ _ rfl rfl (info80c _) (pi_one _) ?_; (repeat (first | refine Turn.here rfl ?_ | refine Turn.next ?_)); clear hS; intro wW hS; try simp only [Act.put, List.setIfInBounds_toArray, List.set_cons_zero, List.set_cons_succ])
  | ((with_reducible refine to_store 86 rfl ?_); refine Wl_store hS (fun _ => by rfl) _ _ _ rfl rfl (info86c _) (pi_one _) ?_; (repeat (first | refine Turn.here rfl ?_ | refine Turn.next ?_)); clear hS; intro wW hS; try simp only [Act.put, List.setIfInBounds_toArray, List.set_cons_zero, List.set_cons_succ]))
  refine (C1.out _).mono ?_
  rintro e w1 ⟨rfl, hb⟩
  replace hS := hS.call hb
  clear hb
  go_wp2_with (first
  | ((with_reducible refine to_box ?_); (first | refine Wl_box hS (fun _ => by rfl) _ rfl ?_ | refine Wl_box1 hS (fun _ => by rfl) (.int _ _) rfl rfl ?_ | refine Wl_box1 hS (fun _ => by rfl) (.bool _) rfl rfl ?_ | refine Wl_box1 hS (fun _ => by rfl) (.slice _ _ _) rfl rfl ?_ | refine Wl_box1 hS (fun _ => by rfl) (.pointer _) rfl rfl ?_); clear hS; intro b3 wW hS; simp only [Act.put, List.setIfInBounds_toArray, List.set_cons_zero, List.set_cons_succ])
  | ((with_reducible refine to_alloc 80 rfl ?_); refine Wl_alloc hS (fun _ => by rfl) _ zero80r ?_; clear hS; intro b8 wW hS; simp only [Act.put, List.setIfInBounds_toArray, List.set_cons_zero, List.set_cons_succ])
  | ((with_reducible refine to_alloc 86 rfl ?_); refine Wl_alloc hS (fun _ => by rfl) _ zero86r ?_; clear hS; intro b10 wW hS; simp only [Act.put, List.setIfInBounds_toArray, List.set_cons_zero, List.set_cons_succ])
  | ((with_reducible refine to_load 80 rfl ?_); refine Wl_load hS (fun _ => by rfl) _ _ rfl _ Try.underlying80 rfl ?_; (repeat (first | (refine Row.here ⟨info80c _, ?_⟩) | refine Row.next ?_)); (with_reducible show wpList _ _ _ _ _ _); simp only [Act.put, List.setIfInBounds_toArray, List.set_cons_zero, List.set_cons_succ])
  | ((with_reducible refine to_store 80 rfl ?_); refine Wl_store hS (fun _ => by rfl) _ _ _ rfl rfl (info80c _) (pi_one _) ?_; (repeat (first | refine Turn.here rfl ?_ | refine Turn.next ?_)); clear hS; intro wW hS; try simp only [Act.put, List.setIfInBounds_toArray, List.set_cons_zero, List.set_cons_succ])
  | ((with_reducible refine to_store 86 rfl ?_); refine Wl_store hS (fun _ => by rfl) _ _ _ rfl rfl (info86c _) (pi_one _) ?_; (repeat (first | refine Turn.here rfl ?_ | refine Turn.next ?_)); clear hS; intro wW hS; try simp only [Act.put, List.setIfInBounds_toArray, List.set_cons_zero, List.set_cons_succ]))
  refine (D4.out _).mono ?_
  rintro e w1 ⟨rfl, hb⟩
  replace hS := hS.call hb
  clear hb
  go_wp2_with (first
  | ((with_reducible refine to_box ?_); (first | refine Wl_box hS (fun _ => by rfl) _ rfl ?_ | refine Wl_box1 hS (fun _ => by rfl) (.int _ _) rfl rfl ?_ | refine Wl_box1 hS (fun _ => by rfl) (.bool _) rfl rfl ?_ | refine Wl_box1 hS (fun _ => by rfl) (.slice _ _ _) rfl rfl ?_ | refine Wl_box1 hS (fun _ => by rfl) (.pointer _) rfl rfl ?_); clear hS; intro b3 wW hS; simp only [Act.put, List.setIfInBounds_toArray, List.set_cons_zero, List.set_cons_succ])
  | ((with_reducible refine to_alloc 80 rfl ?_); refine Wl_alloc hS (fun _ => by rfl) _ zero80r ?_; clear hS; intro b8 wW hS; simp only [Act.put, List.setIfInBounds_toArray, List.set_cons_zero, List.set_cons_succ])
  | ((with_reducible refine to_alloc 86 rfl ?_); refine Wl_alloc hS (fun _ => by rfl) _ zero86r ?_; clear hS; intro b10 wW hS; simp only [Act.put, List.setIfInBounds_toArray, List.set_cons_zero, List.set_cons_succ])
  | ((with_reducible refine to_load 80 rfl ?_); refine Wl_load hS (fun _ => by rfl) _ _ rfl _ Try.underlying80 rfl ?_; (repeat (first | (refine Row.here ⟨info80c _, ?_⟩) | refine Row.next ?_)); (with_reducible show wpList _ _ _ _ _ _); simp only [Act.put, List.setIfInBounds_toArray, List.set_cons_zero, List.set_cons_succ])
  | ((with_reducible refine to_store 80 rfl ?_); refine Wl_store hS (fun _ => by rfl) _ _ _ rfl rfl (info80c _) (pi_one _) ?_; (repeat (first | refine Turn.here rfl ?_ | refine Turn.next ?_)); clear hS; intro wW hS; try simp only [Act.put, List.setIfInBounds_toArray, List.set_cons_zero, List.set_cons_succ])
  | ((with_reducible refine to_store 86 rfl ?_); refine Wl_store hS (fun _ => by rfl) _ _ _ rfl rfl (info86c _) (pi_one _) ?_; (repeat (first | refine Turn.here rfl ?_ | refine Turn.next ?_)); clear hS; intro wW hS; try simp only [Act.put, List.setIfInBounds_toArray, List.set_cons_zero, List.set_cons_succ]))
  refine (C2.out _).mono ?_
  rintro e w1 ⟨rfl, hb⟩
  replace hS := hS.call hb
  clear hb
  go_wp2_with (first
  | ((with_reducible refine to_box ?_); (first | refine Wl_box hS (fun _ => by rfl) _ rfl ?_ | refine Wl_box1 hS (fun _ => by rfl) (.int _ _) rfl rfl ?_ | refine Wl_box1 hS (fun _ => by rfl) (.bool _) rfl rfl ?_ | refine Wl_box1 hS (fun _ => by rfl) (.slice _ _ _) rfl rfl ?_ | refine Wl_box1 hS (fun _ => by rfl) (.pointer _) rfl rfl ?_); clear hS; intro b3 wW hS; simp only [Act.put, List.setIfInBounds_toArray, List.set_cons_zero, List.set_cons_succ])
  | ((with_reducible refine to_alloc 80 rfl ?_); refine Wl_alloc hS (fun _ => by rfl) _ zero80r ?_; clear hS; intro b8 wW hS; simp only [Act.put, List.setIfInBounds_toArray, List.set_cons_zero, List.set_cons_succ])
  | ((with_reducible refine to_alloc 86 rfl ?_); refine Wl_alloc hS (fun _ => by rfl) _ zero86r ?_; clear hS; intro b10 wW hS; simp only [Act.put, List.setIfInBounds_toArray, List.set_cons_zero, List.set_cons_succ])
  | ((with_reducible refine to_load 80 rfl ?_); refine Wl_load hS (fun _ => by rfl) _ _ rfl _ Try.underlying80 rfl ?_; (repeat (first | (refine Row.here ⟨info80c _, ?_⟩) | refine Row.next ?_)); (with_reducible show wpList _ _ _ _ _ _); simp only [Act.put, List.setIfInBounds_toArray, List.set_cons_zero, List.set_cons_succ])
  | ((with_reducible refine to_store 80 rfl ?_); refine Wl_store hS (fun _ => by rfl) _ _ _ rfl rfl (info80c _) (pi_one _) ?_; (repeat (first | refine Turn.here rfl ?_ | refine Turn.next ?_)); clear hS; intro wW hS; try simp only [Act.put, List.setIfInBounds_toArray, List.set_cons_zero, List.set_cons_succ])
  | ((with_reducible refine to_store 86 rfl ?_); refine Wl_store hS (fun _ => by rfl) _ _ _ rfl rfl (info86c _) (pi_one _) ?_; (repeat (first | refine Turn.here rfl ?_ | refine Turn.next ?_)); clear hS; intro wW hS; try simp only [Act.put, List.setIfInBounds_toArray, List.set_cons_zero, List.set_cons_succ]))
  refine wp_region_held_drew (S := fun W => St w.heap.size 0 0 w [⟨b10, 0, true, P1.a⟩, ⟨b8, 0, true, P1.a⟩, ⟨b3, 0, true, p.a⟩] W) (by kernel_rfl) (hS.drew.sub (by repeat (first | exact List.Sublist.slnil | apply List.Sublist.cons_cons | apply List.Sublist.cons))) ?_
  intro _
  replace hS := hS.drew
  generalize World.drew _ = wX at hS ⊢
  first
    | refine wpAnyH_take (i := 0) rfl (by kernel_rfl) (by kernel_rfl) (by kernel_rfl) (fun _ _ _ h => h) (yields_row (by rfl) _ _ rfl _ _ rfl _ Try.underlying80 rfl _ (fun W hW => hW.range (.head _)) (info80c _)) (hS.sub (by repeat (first | exact List.Sublist.slnil | apply List.Sublist.cons_cons | apply List.Sublist.cons))) ?_
    | refine wpAnyH_take (i := 0) rfl (by kernel_rfl) (by kernel_rfl) (by kernel_rfl) (fun _ _ _ h => h) (yields_row (by rfl) _ _ rfl _ _ rfl _ Try.underlying80 rfl _ (fun W hW => hW.range (.tail _ (.head _))) (info80c _)) (hS.sub (by repeat (first | exact List.Sublist.slnil | apply List.Sublist.cons_cons | apply List.Sublist.cons))) ?_
    | refine wpAnyH_take (i := 0) rfl (by kernel_rfl) (by kernel_rfl) (by kernel_rfl) (fun _ _ _ h => h) (yields_row (by rfl) _ _ rfl _ _ rfl _ Try.underlying80 rfl _ (fun W hW => hW.range (.tail _ (.tail _ (.head _)))) (info80c _)) (hS.sub (by repeat (first | exact List.Sublist.slnil | apply List.Sublist.cons_cons | apply List.Sublist.cons))) ?_
    | refine wpAnyH_take (i := 0) rfl (by kernel_rfl) (by kernel_rfl) (by kernel_rfl) (fun _ _ _ h => h) (yields_row (by rfl) _ _ rfl _ _ rfl _ Try.underlying80 rfl _ (fun W hW => hW.range (.tail _ (.tail _ (.tail _ (.head _))))) (info80c _)) (hS.sub (by repeat (first | exact List.Sublist.slnil | apply List.Sublist.cons_cons | apply List.Sublist.cons))) ?_
    | refine wpAnyH_take (i := 0) rfl (by kernel_rfl) (by kernel_rfl) (by kernel_rfl) (fun _ _ _ h => h) (yields_row (by rfl) _ _ rfl _ _ rfl _ Try.underlying80 rfl _ (fun W hW => hW.range (.tail _ (.tail _ (.tail _ (.tail _ (.head _)))))) (info80c _)) (hS.sub (by repeat (first | exact List.Sublist.slnil | apply List.Sublist.cons_cons | apply List.Sublist.cons))) ?_
    | refine wpAnyH_take (i := 0) rfl (by kernel_rfl) (by kernel_rfl) (by kernel_rfl) (fun _ _ _ h => h) (yields_row (by rfl) _ _ rfl _ _ rfl _ Try.underlying80 rfl _ (fun W hW => hW.range (.tail _ (.tail _ (.tail _ (.tail _ (.tail _ (.head _))))))) (info80c _)) (hS.sub (by repeat (first | exact List.Sublist.slnil | apply List.Sublist.cons_cons | apply List.Sublist.cons))) ?_
  try simp only [Act.put, List.setIfInBounds_toArray, List.set_cons_zero, List.set_cons_succ, List.getElem_toArray, List.getElem_cons_succ, List.getElem_cons_zero]
  refine wpAnyH_take (i := 1) (v := ?_) rfl (by kernel_rfl) (by kernel_rfl) (by kernel_rfl) (fun _ _ _ h => h) (Or.inl ⟨by rfl, ?_⟩) (hS.sub (by repeat (first | exact List.Sublist.slnil | apply List.Sublist.cons_cons | apply List.Sublist.cons))) ?_
  rotate_left 1
  · intro W hW
    clear hW
    go_simp
    all_goals with_reducible rfl
  try simp only [Act.put, List.setIfInBounds_toArray, List.set_cons_zero, List.set_cons_succ, List.getElem_toArray, List.getElem_cons_succ, List.getElem_cons_zero]
  refine wpAnyH_take (i := 2) (v := ?_) rfl (by kernel_rfl) (by kernel_rfl) (by kernel_rfl) (fun _ _ _ h => h) (Or.inl ⟨by rfl, ?_⟩) (hS.sub (by repeat (first | exact List.Sublist.slnil | apply List.Sublist.cons_cons | apply List.Sublist.cons))) ?_
  rotate_left 1
  · intro W hW
    clear hW
    go_simp
    all_goals with_reducible rfl
  try simp only [Act.put, List.setIfInBounds_toArray, List.set_cons_zero, List.set_cons_succ, List.getElem_toArray, List.getElem_cons_succ, List.getElem_cons_zero]
  first
    | refine wpAnyH_take (i := 5) rfl (by kernel_rfl) (by kernel_rfl) (by kernel_rfl) (fun _ _ _ h => h) (yields_row (by rfl) _ _ rfl _ _ rfl _ Try.underlying80 rfl _ (fun W hW => hW.range (.head _)) (info80c _)) (hS.sub (by repeat (first | exact List.Sublist.slnil | apply List.Sublist.cons_cons | apply List.Sublist.cons))) ?_
    | refine wpAnyH_take (i := 5) rfl (by kernel_rfl) (by kernel_rfl) (by kernel_rfl) (fun _ _ _ h => h) (yields_row (by rfl) _ _ rfl _ _ rfl _ Try.underlying80 rfl _ (fun W hW => hW.range (.tail _ (.head _))) (info80c _)) (hS.sub (by repeat (first | exact List.Sublist.slnil | apply List.Sublist.cons_cons | apply List.Sublist.cons))) ?_
    | refine wpAnyH_take (i := 5) rfl (by kernel_rfl) (by kernel_rfl) (by kernel_rfl) (fun _ _ _ h => h) (yields_row (by rfl) _ _ rfl _ _ rfl _ Try.underlying80 rfl _ (fun W hW => hW.range (.tail _ (.tail _ (.head _)))) (info80c _)) (hS.sub (by repeat (first | exact List.Sublist.slnil | apply List.Sublist.cons_cons | apply List.Sublist.cons))) ?_
    | refine wpAnyH_take (i := 5) rfl (by kernel_rfl) (by kernel_rfl) (by kernel_rfl) (fun _ _ _ h => h) (yields_row (by rfl) _ _ rfl _ _ rfl _ Try.underlying80 rfl _ (fun W hW => hW.range (.tail _ (.tail _ (.tail _ (.head _))))) (info80c _)) (hS.sub (by repeat (first | exact List.Sublist.slnil | apply List.Sublist.cons_cons | apply List.Sublist.cons))) ?_
    | refine wpAnyH_take (i := 5) rfl (by kernel_rfl) (by kernel_rfl) (by kernel_rfl) (fun _ _ _ h => h) (yields_row (by rfl) _ _ rfl _ _ rfl _ Try.underlying80 rfl _ (fun W hW => hW.range (.tail _ (.tail _ (.tail _ (.tail _ (.head _)))))) (info80c _)) (hS.sub (by repeat (first | exact List.Sublist.slnil | apply List.Sublist.cons_cons | apply List.Sublist.cons))) ?_
    | refine wpAnyH_take (i := 5) rfl (by kernel_rfl) (by kernel_rfl) (by kernel_rfl) (fun _ _ _ h => h) (yields_row (by rfl) _ _ rfl _ _ rfl _ Try.underlying80 rfl _ (fun W hW => hW.range (.tail _ (.tail _ (.tail _ (.tail _ (.tail _ (.head _))))))) (info80c _)) (hS.sub (by repeat (first | exact List.Sublist.slnil | apply List.Sublist.cons_cons | apply List.Sublist.cons))) ?_
  try simp only [Act.put, List.setIfInBounds_toArray, List.set_cons_zero, List.set_cons_succ, List.getElem_toArray, List.getElem_cons_succ, List.getElem_cons_zero]
  refine wpAnyH_take (i := 7) (v := ?_) rfl (by kernel_rfl) (by kernel_rfl) (by kernel_rfl) (fun _ _ _ h => h) (Or.inl ⟨by rfl, ?_⟩) (hS.sub (by repeat (first | exact List.Sublist.slnil | apply List.Sublist.cons_cons | apply List.Sublist.cons))) ?_
  rotate_left 1
  · intro W hW
    clear hW
    go_simp
    all_goals with_reducible rfl
  try simp only [Act.put, List.setIfInBounds_toArray, List.set_cons_zero, List.set_cons_succ, List.getElem_toArray, List.getElem_cons_succ, List.getElem_cons_zero]
  refine wpAnyH_take (i := 8) (v := ?_) rfl (by kernel_rfl) (by kernel_rfl) (by kernel_rfl) (fun _ _ _ h => h) (Or.inl ⟨by rfl, ?_⟩) (hS.sub (by repeat (first | exact List.Sublist.slnil | apply List.Sublist.cons_cons | apply List.Sublist.cons))) ?_
  rotate_left 1
  · intro W hW
    clear hW
    go_simp
    all_goals with_reducible rfl
  try simp only [Act.put, List.setIfInBounds_toArray, List.set_cons_zero, List.set_cons_succ, List.getElem_toArray, List.getElem_cons_succ, List.getElem_cons_zero]
  refine wpAnyH_ready (rs := [3]) (by kernel_rfl) (by simp) (AllReadyH.cons rfl ?_ AllReadyH.nil)
  intro K1 hK1
  rw [if_pos (by rfl)]
  try simp only [Act.put, List.setIfInBounds_toArray, List.set_cons_zero, List.set_cons_succ, List.getElem_toArray, List.getElem_cons_succ, List.getElem_cons_zero]
  go_simp
  refine (C3.out _).mono ?_
  rintro e1 v2 ⟨rfl, hb⟩
  replace hS := hS.call hb
  clear hb
  refine hK1.out _ _ (hS.sub (by repeat (first | exact List.Sublist.slnil | apply List.Sublist.cons_cons | apply List.Sublist.cons))) (fun _ => ?_)
  clear hK1
  try simp only [Act.put, List.setIfInBounds_toArray, List.set_cons_zero, List.set_cons_succ, List.getElem_toArray, List.getElem_cons_succ, List.getElem_cons_zero]
  refine wpAnyH_ready (rs := [4]) (by kernel_rfl) (by simp) (AllReadyH.cons rfl ?_ AllReadyH.nil)
  intro K1 hK1
  rw [if_pos (by rfl)]
  try simp only [Act.put, List.setIfInBounds_toArray, List.set_cons_zero, List.set_cons_succ, List.getElem_toArray, List.getElem_cons_succ, List.getElem_cons_zero]
  go_simp
  refine (D3.out _).mono ?_
  rintro e1 v2 ⟨rfl, hb⟩
  replace hS := hS.call hb
  clear hb
  refine hK1.out _ _ (hS.sub (by repeat (first | exact List.Sublist.slnil | apply List.Sublist.cons_cons | apply List.Sublist.cons))) (fun _ => ?_)
  clear hK1
  try simp only [Act.put, List.setIfInBounds_toArray, List.set_cons_zero, List.set_cons_succ, List.getElem_toArray, List.getElem_cons_succ, List.getElem_cons_zero]
  refine wpAnyH_ready (rs := [6]) (by kernel_rfl) (by simp) (AllReadyH.cons rfl ?_ AllReadyH.nil)
  intro K1 hK1
  rw [if_pos (by rfl)]
  try simp only [Act.put, List.setIfInBounds_toArray, List.set_cons_zero, List.set_cons_succ, List.getElem_toArray, List.getElem_cons_succ, List.getElem_cons_zero]
  go_simp
  refine (D4.out _).mono ?_
  rintro e1 v2 ⟨rfl, hb⟩
  replace hS := hS.call hb
  clear hb
  refine hK1.out _ _ (hS.sub (by repeat (first | exact List.Sublist.slnil | apply List.Sublist.cons_cons | apply List.Sublist.cons))) (fun _ => ?_)
  clear hK1
  try simp only [Act.put, List.setIfInBounds_toArray, List.set_cons_zero, List.set_cons_succ, List.getElem_toArray, List.getElem_cons_succ, List.getElem_cons_zero]
  refine wpAnyH_ready (rs := [9]) (by kernel_rfl) (by simp) (AllReadyH.cons rfl ?_ AllReadyH.nil)
  intro K1 hK1
  rw [if_pos (by rfl)]
  try simp only [Act.put, List.setIfInBounds_toArray, List.set_cons_zero, List.set_cons_succ, List.getElem_toArray, List.getElem_cons_succ, List.getElem_cons_zero]
  go_simp
  refine (R3.out _).mono ?_
  rintro e1 v2 ⟨rfl, hb⟩
  replace hS := hS.call hb
  clear hb
  refine hK1.out _ _ (hS.sub (by repeat (first | exact List.Sublist.slnil | apply List.Sublist.cons_cons | apply List.Sublist.cons))) (fun _ => ?_)
  clear hK1
  try simp only [Act.put, List.setIfInBounds_toArray, List.set_cons_zero, List.set_cons_succ, List.getElem_toArray, List.getElem_cons_succ, List.getElem_cons_zero]
  refine wpAnyH_take (i := 10) (v := ?_) rfl (by kernel_rfl) (by kernel_rfl) (by kernel_rfl) (fun _ _ _ h => h) (Or.inl ⟨by rfl, ?_⟩) (hS.sub (by repeat (first | exact List.Sublist.slnil | apply List.Sublist.cons_cons | apply List.Sublist.cons))) ?_
  rotate_left 1
  · intro W hW
    clear hW
    go_simp
    all_goals with_reducible rfl
  try simp only [Act.put, List.setIfInBounds_toArray, List.set_cons_zero, List.set_cons_succ, List.getElem_toArray, List.getElem_cons_succ, List.getElem_cons_zero]
  refine wpAnyH_take (i := 11) (v := ?_) rfl (by kernel_rfl) (by kernel_rfl) (by kernel_rfl) (fun _ _ _ h => h) (Or.inl ⟨by rfl, ?_⟩) (hS.sub (by repeat (first | exact List.Sublist.slnil | apply List.Sublist.cons_cons | apply List.Sublist.cons))) ?_
  rotate_left 1
  · intro W hW
    clear hW
    go_simp
    all_goals with_reducible rfl
  try simp only [Act.put, List.setIfInBounds_toArray, List.set_cons_zero, List.set_cons_succ, List.getElem_toArray, List.getElem_cons_succ, List.getElem_cons_zero]
  first
    | refine wpAnyH_take (i := 12) rfl (by kernel_rfl) (by kernel_rfl) (by kernel_rfl) (fun _ _ _ h => h) (yields_row (by rfl) _ _ rfl _ _ rfl _ Try.underlying80 rfl _ (fun W hW => hW.range (.head _)) (info80c _)) (hS.sub (by repeat (first | exact List.Sublist.slnil | apply List.Sublist.cons_cons | apply List.Sublist.cons))) ?_
    | refine wpAnyH_take (i := 12) rfl (by kernel_rfl) (by kernel_rfl) (by kernel_rfl) (fun _ _ _ h => h) (yields_row (by rfl) _ _ rfl _ _ rfl _ Try.underlying80 rfl _ (fun W hW => hW.range (.tail _ (.head _))) (info80c _)) (hS.sub (by repeat (first | exact List.Sublist.slnil | apply List.Sublist.cons_cons | apply List.Sublist.cons))) ?_
    | refine wpAnyH_take (i := 12) rfl (by kernel_rfl) (by kernel_rfl) (by kernel_rfl) (fun _ _ _ h => h) (yields_row (by rfl) _ _ rfl _ _ rfl _ Try.underlying80 rfl _ (fun W hW => hW.range (.tail _ (.tail _ (.head _)))) (info80c _)) (hS.sub (by repeat (first | exact List.Sublist.slnil | apply List.Sublist.cons_cons | apply List.Sublist.cons))) ?_
    | refine wpAnyH_take (i := 12) rfl (by kernel_rfl) (by kernel_rfl) (by kernel_rfl) (fun _ _ _ h => h) (yields_row (by rfl) _ _ rfl _ _ rfl _ Try.underlying80 rfl _ (fun W hW => hW.range (.tail _ (.tail _ (.tail _ (.head _))))) (info80c _)) (hS.sub (by repeat (first | exact List.Sublist.slnil | apply List.Sublist.cons_cons | apply List.Sublist.cons))) ?_
    | refine wpAnyH_take (i := 12) rfl (by kernel_rfl) (by kernel_rfl) (by kernel_rfl) (fun _ _ _ h => h) (yields_row (by rfl) _ _ rfl _ _ rfl _ Try.underlying80 rfl _ (fun W hW => hW.range (.tail _ (.tail _ (.tail _ (.tail _ (.head _)))))) (info80c _)) (hS.sub (by repeat (first | exact List.Sublist.slnil | apply List.Sublist.cons_cons | apply List.Sublist.cons))) ?_
    | refine wpAnyH_take (i := 12) rfl (by kernel_rfl) (by kernel_rfl) (by kernel_rfl) (fun _ _ _ h => h) (yields_row (by rfl) _ _ rfl _ _ rfl _ Try.underlying80 rfl _ (fun W hW => hW.range (.tail _ (.tail _ (.tail _ (.tail _ (.tail _ (.head _))))))) (info80c _)) (hS.sub (by repeat (first | exact List.Sublist.slnil | apply List.Sublist.cons_cons | apply List.Sublist.cons))) ?_
  try simp only [Act.put, List.setIfInBounds_toArray, List.set_cons_zero, List.set_cons_succ, List.getElem_toArray, List.getElem_cons_succ, List.getElem_cons_zero]
  refine wpAnyH_take (i := 13) (v := ?_) rfl (by kernel_rfl) (by kernel_rfl) (by kernel_rfl) (fun _ _ _ h => h) (Or.inl ⟨by rfl, ?_⟩) (hS.sub (by repeat (first | exact List.Sublist.slnil | apply List.Sublist.cons_cons | apply List.Sublist.cons))) ?_
  rotate_left 1
  · intro W hW
    clear hW
    go_simp
    all_goals with_reducible rfl
  try simp only [Act.put, List.setIfInBounds_toArray, List.set_cons_zero, List.set_cons_succ, List.getElem_toArray, List.getElem_cons_succ, List.getElem_cons_zero]
  refine wpAnyH_take (i := 14) (v := ?_) rfl (by kernel_rfl) (by kernel_rfl) (by kernel_rfl) (fun _ _ _ h => h) (Or.inl ⟨by rfl, ?_⟩) (hS.sub (by repeat (first | exact List.Sublist.slnil | apply List.Sublist.cons_cons | apply List.Sublist.cons))) ?_
  rotate_left 1
  · intro W hW
    clear hW
    go_simp
    all_goals with_reducible rfl
  try simp only [Act.put, List.setIfInBounds_toArray, List.set_cons_zero, List.set_cons_succ, List.getElem_toArray, List.getElem_cons_succ, List.getElem_cons_zero]
  first
    | refine wpAnyH_take (i := 17) rfl (by kernel_rfl) (by kernel_rfl) (by kernel_rfl) (fun _ _ _ h => h) (yields_row (by rfl) _ _ rfl _ _ rfl _ Try.underlying80 rfl _ (fun W hW => hW.range (.head _)) (info80c _)) (hS.sub (by repeat (first | exact List.Sublist.slnil | apply List.Sublist.cons_cons | apply List.Sublist.cons))) ?_
    | refine wpAnyH_take (i := 17) rfl (by kernel_rfl) (by kernel_rfl) (by kernel_rfl) (fun _ _ _ h => h) (yields_row (by rfl) _ _ rfl _ _ rfl _ Try.underlying80 rfl _ (fun W hW => hW.range (.tail _ (.head _))) (info80c _)) (hS.sub (by repeat (first | exact List.Sublist.slnil | apply List.Sublist.cons_cons | apply List.Sublist.cons))) ?_
    | refine wpAnyH_take (i := 17) rfl (by kernel_rfl) (by kernel_rfl) (by kernel_rfl) (fun _ _ _ h => h) (yields_row (by rfl) _ _ rfl _ _ rfl _ Try.underlying80 rfl _ (fun W hW => hW.range (.tail _ (.tail _ (.head _)))) (info80c _)) (hS.sub (by repeat (first | exact List.Sublist.slnil | apply List.Sublist.cons_cons | apply List.Sublist.cons))) ?_
    | refine wpAnyH_take (i := 17) rfl (by kernel_rfl) (by kernel_rfl) (by kernel_rfl) (fun _ _ _ h => h) (yields_row (by rfl) _ _ rfl _ _ rfl _ Try.underlying80 rfl _ (fun W hW => hW.range (.tail _ (.tail _ (.tail _ (.head _))))) (info80c _)) (hS.sub (by repeat (first | exact List.Sublist.slnil | apply List.Sublist.cons_cons | apply List.Sublist.cons))) ?_
    | refine wpAnyH_take (i := 17) rfl (by kernel_rfl) (by kernel_rfl) (by kernel_rfl) (fun _ _ _ h => h) (yields_row (by rfl) _ _ rfl _ _ rfl _ Try.underlying80 rfl _ (fun W hW => hW.range (.tail _ (.tail _ (.tail _ (.tail _ (.head _)))))) (info80c _)) (hS.sub (by repeat (first | exact List.Sublist.slnil | apply List.Sublist.cons_cons | apply List.Sublist.cons))) ?_
    | refine wpAnyH_take (i := 17) rfl (by kernel_rfl) (by kernel_rfl) (by kernel_rfl) (fun _ _ _ h => h) (yields_row (by rfl) _ _ rfl _ _ rfl _ Try.underlying80 rfl _ (fun W hW => hW.range (.tail _ (.tail _ (.tail _ (.tail _ (.tail _ (.head _))))))) (info80c _)) (hS.sub (by repeat (first | exact List.Sublist.slnil | apply List.Sublist.cons_cons | apply List.Sublist.cons))) ?_
  try simp only [Act.put, List.setIfInBounds_toArray, List.set_cons_zero, List.set_cons_succ, List.getElem_toArray, List.getElem_cons_succ, List.getElem_cons_zero]
  refine wpAnyH_take (i := 19) (v := ?_) rfl (by kernel_rfl) (by kernel_rfl) (by kernel_rfl) (fun _ _ _ h => h) (Or.inl ⟨by rfl, ?_⟩) (hS.sub (by repeat (first | exact List.Sublist.slnil | apply List.Sublist.cons_cons | apply List.Sublist.cons))) ?_
  rotate_left 1
  · intro W hW
    clear hW
    go_simp
    all_goals with_reducible rfl
  try simp only [Act.put, List.setIfInBounds_toArray, List.set_cons_zero, List.set_cons_succ, List.getElem_toArray, List.getElem_cons_succ, List.getElem_cons_zero]
  refine wpAnyH_take (i := 20) (v := ?_) rfl (by kernel_rfl) (by kernel_rfl) (by kernel_rfl) (fun _ _ _ h => h) (Or.inl ⟨by rfl, ?_⟩) (hS.sub (by repeat (first | exact List.Sublist.slnil | apply List.Sublist.cons_cons | apply List.Sublist.cons))) ?_
  rotate_left 1
  · intro W hW
    clear hW
    go_simp
    all_goals with_reducible rfl
  try simp only [Act.put, List.setIfInBounds_toArray, List.set_cons_zero, List.set_cons_succ, List.getElem_toArray, List.getElem_cons_succ, List.getElem_cons_zero]
  refine wpAnyH_ready (rs := [15]) (by kernel_rfl) (by simp) (AllReadyH.cons rfl ?_ AllReadyH.nil)
  intro K1 hK1
  rw [if_pos (by rfl)]
  try simp only [Act.put, List.setIfInBounds_toArray, List.set_cons_zero, List.set_cons_succ, List.getElem_toArray, List.getElem_cons_succ, List.getElem_cons_zero]
  go_simp
  refine (C5.out _).mono ?_
  rintro e1 v2 ⟨rfl, hb⟩
  replace hS := hS.call hb
  clear hb
  refine hK1.out _ _ (hS.sub (by repeat (first | exact List.Sublist.slnil | apply List.Sublist.cons_cons | apply List.Sublist.cons))) (fun _ => ?_)
  clear hK1
  try simp only [Act.put, List.setIfInBounds_toArray, List.set_cons_zero, List.set_cons_succ, List.getElem_toArray, List.getElem_cons_succ, List.getElem_cons_zero]
  refine wpAnyH_ready (rs := [16]) (by kernel_rfl) (by simp) (AllReadyH.cons rfl ?_ AllReadyH.nil)
  intro K1 hK1
  rw [if_pos (by rfl)]
  try simp only [Act.put, List.setIfInBounds_toArray, List.set_cons_zero, List.set_cons_succ, List.getElem_toArray, List.getElem_cons_succ, List.getElem_cons_zero]
  go_simp
  refine (D5.out _).mono ?_
  rintro e1 v2 ⟨rfl, hb⟩
  replace hS := hS.call hb
  clear hb
  refine hK1.out _ _ (hS.sub (by repeat (first | exact List.Sublist.slnil | apply List.Sublist.cons_cons | apply List.Sublist.cons))) (fun _ => ?_)
  clear hK1
  try simp only [Act.put, List.setIfInBounds_toArray, List.set_cons_zero, List.set_cons_succ, List.getElem_toArray, List.getElem_cons_succ, List.getElem_cons_zero]
  refine wpAnyH_ready (rs := [18]) (by kernel_rfl) (by simp) (AllReadyH.cons rfl ?_ AllReadyH.nil)
  intro K1 hK1
  rw [if_pos (by rfl)]
  try simp only [Act.put, List.setIfInBounds_toArray, List.set_cons_zero, List.set_cons_succ, List.getElem_toArray, List.getElem_cons_succ, List.getElem_cons_zero]
  go_simp
  refine (D4.out _).mono ?_
  rintro e1 v2 ⟨rfl, hb⟩
  replace hS := hS.call hb
  clear hb
  refine hK1.out _ _ (hS.sub (by repeat (first | exact List.Sublist.slnil | apply List.Sublist.cons_cons | apply List.Sublist.cons))) (fun _ => ?_)
  clear hK1
  try simp only [Act.put, List.setIfInBounds_toArray, List.set_cons_zero, List.set_cons_succ, List.getElem_toArray, List.getElem_cons_succ, List.getElem_cons_zero]
  refine wpAnyH_ready (rs := [21]) (by kernel_rfl) (by simp) (AllReadyH.cons rfl ?_ AllReadyH.nil)
  intro K1 hK1
  rw [if_pos (by rfl)]
  try simp only [Act.put, List.setIfInBounds_toArray, List.set_cons_zero, List.set_cons_succ, List.getElem_toArray, List.getElem_cons_succ, List.getElem_cons_zero]
  go_simp
  refine (R5.out _).mono ?_
  rintro e1 v2 ⟨rfl, hb⟩
  replace hS := hS.call hb
  clear hb
  refine hK1.out _ _ (hS.sub (by repeat (first | exact List.Sublist.slnil | apply List.Sublist.cons_cons | apply List.Sublist.cons))) (fun _ => ?_)
  clear hK1
  try simp only [Act.put, List.setIfInBounds_toArray, List.set_cons_zero, List.set_cons_succ, List.getElem_toArray, List.getElem_cons_succ, List.getElem_cons_zero]
  refine wpAnyH_take (i := 22) (v := ?_) rfl (by kernel_rfl) (by kernel_rfl) (by kernel_rfl) (fun _ _ _ h => h) (Or.inl ⟨by rfl, ?_⟩) (hS.sub (by repeat (first | exact List.Sublist.slnil | apply List.Sublist.cons_cons | apply List.Sublist.cons))) ?_
  rotate_left 1
  · intro W hW
    clear hW
    go_simp
    all_goals with_reducible rfl
  try simp only [Act.put, List.setIfInBounds_toArray, List.set_cons_zero, List.set_cons_succ, List.getElem_toArray, List.getElem_cons_succ, List.getElem_cons_zero]
  refine wpAnyH_take (i := 23) (v := ?_) rfl (by kernel_rfl) (by kernel_rfl) (by kernel_rfl) (fun _ _ _ h => h) (Or.inl ⟨by rfl, ?_⟩) (hS.sub (by repeat (first | exact List.Sublist.slnil | apply List.Sublist.cons_cons | apply List.Sublist.cons))) ?_
  rotate_left 1
  · intro W hW
    clear hW
    go_simp
    all_goals with_reducible rfl
  try simp only [Act.put, List.setIfInBounds_toArray, List.set_cons_zero, List.set_cons_succ, List.getElem_toArray, List.getElem_cons_succ, List.getElem_cons_zero]
  refine wpAnyH_take (i := 24) (v := ?_) rfl (by kernel_rfl) (by kernel_rfl) (by kernel_rfl) (fun _ _ _ h => h) (Or.inl ⟨by rfl, ?_⟩) (hS.sub (by repeat (first | exact List.Sublist.slnil | apply List.Sublist.cons_cons | apply List.Sublist.cons))) ?_
  rotate_left 1
  · intro W hW
    clear hW
    go_simp
    all_goals with_reducible rfl
  try simp only [Act.put, List.setIfInBounds_toArray, List.set_cons_zero, List.set_cons_succ, List.getElem_toArray, List.getElem_cons_succ, List.getElem_cons_zero]
  first
    | refine wpAnyH_take (i := 25) rfl (by kernel_rfl) (by kernel_rfl) (by kernel_rfl) (fun _ _ _ h => h) (yields_row (by rfl) _ _ rfl _ _ rfl _ Try.underlying80 rfl _ (fun W hW => hW.range (.head _)) (info80c _)) (hS.sub (by repeat (first | exact List.Sublist.slnil | apply List.Sublist.cons_cons | apply List.Sublist.cons))) ?_
    | refine wpAnyH_take (i := 25) rfl (by kernel_rfl) (by kernel_rfl) (by kernel_rfl) (fun _ _ _ h => h) (yields_row (by rfl) _ _ rfl _ _ rfl _ Try.underlying80 rfl _ (fun W hW => hW.range (.tail _ (.head _))) (info80c _)) (hS.sub (by repeat (first | exact List.Sublist.slnil | apply List.Sublist.cons_cons | apply List.Sublist.cons))) ?_
    | refine wpAnyH_take (i := 25) rfl (by kernel_rfl) (by kernel_rfl) (by kernel_rfl) (fun _ _ _ h => h) (yields_row (by rfl) _ _ rfl _ _ rfl _ Try.underlying80 rfl _ (fun W hW => hW.range (.tail _ (.tail _ (.head _)))) (info80c _)) (hS.sub (by repeat (first | exact List.Sublist.slnil | apply List.Sublist.cons_cons | apply List.Sublist.cons))) ?_
    | refine wpAnyH_take (i := 25) rfl (by kernel_rfl) (by kernel_rfl) (by kernel_rfl) (fun _ _ _ h => h) (yields_row (by rfl) _ _ rfl _ _ rfl _ Try.underlying80 rfl _ (fun W hW => hW.range (.tail _ (.tail _ (.tail _ (.head _))))) (info80c _)) (hS.sub (by repeat (first | exact List.Sublist.slnil | apply List.Sublist.cons_cons | apply List.Sublist.cons))) ?_
    | refine wpAnyH_take (i := 25) rfl (by kernel_rfl) (by kernel_rfl) (by kernel_rfl) (fun _ _ _ h => h) (yields_row (by rfl) _ _ rfl _ _ rfl _ Try.underlying80 rfl _ (fun W hW => hW.range (.tail _ (.tail _ (.tail _ (.tail _ (.head _)))))) (info80c _)) (hS.sub (by repeat (first | exact List.Sublist.slnil | apply List.Sublist.cons_cons | apply List.Sublist.cons))) ?_
    | refine wpAnyH_take (i := 25) rfl (by kernel_rfl) (by kernel_rfl) (by kernel_rfl) (fun _ _ _ h => h) (yields_row (by rfl) _ _ rfl _ _ rfl _ Try.underlying80 rfl _ (fun W hW => hW.range (.tail _ (.tail _ (.tail _ (.tail _ (.tail _ (.head _))))))) (info80c _)) (hS.sub (by repeat (first | exact List.Sublist.slnil | apply List.Sublist.cons_cons | apply List.Sublist.cons))) ?_
  try simp only [Act.put, List.setIfInBounds_toArray, List.set_cons_zero, List.set_cons_succ, List.getElem_toArray, List.getElem_cons_succ, List.getElem_cons_zero]
  first
    | refine wpAnyH_take (i := 27) rfl (by kernel_rfl) (by kernel_rfl) (by kernel_rfl) (fun _ _ _ h => h) (yields_row (by rfl) _ _ rfl _ _ rfl _ Try.underlying86 rfl _ (fun W hW => hW.range (.head _)) (info86c _)) (hS.sub (by repeat (first | exact List.Sublist.slnil | apply List.Sublist.cons_cons | apply List.Sublist.cons))) ?_
    | refine wpAnyH_take (i := 27) rfl (by kernel_rfl) (by kernel_rfl) (by kernel_rfl) (fun _ _ _ h => h) (yields_row (by rfl) _ _ rfl _ _ rfl _ Try.underlying86 rfl _ (fun W hW => hW.range (.tail _ (.head _))) (info86c _)) (hS.sub (by repeat (first | exact List.Sublist.slnil | apply List.Sublist.cons_cons | apply List.Sublist.cons))) ?_
    | refine wpAnyH_take (i := 27) rfl (by kernel_rfl) (by kernel_rfl) (by kernel_rfl) (fun _ _ _ h => h) (yields_row (by rfl) _ _ rfl _ _ rfl _ Try.underlying86 rfl _ (fun W hW => hW.range (.tail _ (.tail _ (.head _)))) (info86c _)) (hS.sub (by repeat (first | exact List.Sublist.slnil | apply List.Sublist.cons_cons | apply List.Sublist.cons))) ?_
    | refine wpAnyH_take (i := 27) rfl (by kernel_rfl) (by kernel_rfl) (by kernel_rfl) (fun _ _ _ h => h) (yields_row (by rfl) _ _ rfl _ _ rfl _ Try.underlying86 rfl _ (fun W hW => hW.range (.tail _ (.tail _ (.tail _ (.head _))))) (info86c _)) (hS.sub (by repeat (first | exact List.Sublist.slnil | apply List.Sublist.cons_cons | apply List.Sublist.cons))) ?_
    | refine wpAnyH_take (i := 27) rfl (by kernel_rfl) (by kernel_rfl) (by kernel_rfl) (fun _ _ _ h => h) (yields_row (by rfl) _ _ rfl _ _ rfl _ Try.underlying86 rfl _ (fun W hW => hW.range (.tail _ (.tail _ (.tail _ (.tail _ (.head _)))))) (info86c _)) (hS.sub (by repeat (first | exact List.Sublist.slnil | apply List.Sublist.cons_cons | apply List.Sublist.cons))) ?_
    | refine wpAnyH_take (i := 27) rfl (by kernel_rfl) (by kernel_rfl) (by kernel_rfl) (fun _ _ _ h => h) (yields_row (by rfl) _ _ rfl _ _ rfl _ Try.underlying86 rfl _ (fun W hW => hW.range (.tail _ (.tail _ (.tail _ (.tail _ (.tail _ (.head _))))))) (info86c _)) (hS.sub (by repeat (first | exact List.Sublist.slnil | apply List.Sublist.cons_cons | apply List.Sublist.cons))) ?_
  try simp only [Act.put, List.setIfInBounds_toArray, List.set_cons_zero, List.set_cons_succ, List.getElem_toArray, List.getElem_cons_succ, List.getElem_cons_zero]
  refine wpAnyH_ready (rs := [26]) (by kernel_rfl) (by simp) (AllReadyH.cons rfl ?_ AllReadyH.nil)
  intro K1 hK1
  rw [if_pos (by rfl)]
  try simp only [Act.put, List.setIfInBounds_toArray, List.set_cons_zero, List.set_cons_succ, List.getElem_toArray, List.getElem_cons_succ, List.getElem_cons_zero]
  go_simp
  refine (D1.out _).mono ?_
  rintro e1 v2 ⟨rfl, hb⟩
  replace hS := hS.call hb
  clear hb
  refine hK1.out _ _ (hS.sub (by repeat (first | exact List.Sublist.slnil | apply List.Sublist.cons_cons | apply List.Sublist.cons))) (fun _ => ?_)
  clear hK1
  try simp only [Act.put, List.setIfInBounds_toArray, List.set_cons_zero, List.set_cons_succ, List.getElem_toArray, List.getElem_cons_succ, List.getElem_cons_zero]
  refine wpAnyH_take (i := 28) (v := ?_) rfl (by kernel_rfl) (by kernel_rfl) (by kernel_rfl) (fun _ _ _ h => h) (Or.inl ⟨by rfl, ?_⟩) (hS.sub (by repeat (first | exact List.Sublist.slnil | apply List.Sublist.cons_cons | apply List.Sublist.cons))) ?_
  rotate_left 1
  · intro W hW
    clear hW
    go_simp
    all_goals with_reducible rfl
  try simp only [Act.put, List.setIfInBounds_toArray, List.set_cons_zero, List.set_cons_succ, List.getElem_toArray, List.getElem_cons_succ, List.getElem_cons_zero]
  refine wpAnyH_take (i := 29) (v := ?_) rfl (by kernel_rfl) (by kernel_rfl) (by kernel_rfl) (fun _ _ _ h => h) (Or.inl ⟨by rfl, ?_⟩) (hS.sub (by repeat (first | exact List.Sublist.slnil | apply List.Sublist.cons_cons | apply List.Sublist.cons))) ?_
  rotate_left 1
  · intro W hW
    clear hW
    go_simp
    all_goals with_reducible rfl
  try simp only [Act.put, List.setIfInBounds_toArray, List.set_cons_zero, List.set_cons_succ, List.getElem_toArray, List.getElem_cons_succ, List.getElem_cons_zero]
  refine wpAnyH_take (i := 30) (v := ?_) rfl (by kernel_rfl) (by kernel_rfl) (by kernel_rfl) (fun _ _ _ h => h) (Or.inl ⟨by rfl, ?_⟩) (hS.sub (by repeat (first | exact List.Sublist.slnil | apply List.Sublist.cons_cons | apply List.Sublist.cons))) ?_
  rotate_left 1
  · intro W hW
    clear hW
    go_simp
    all_goals with_reducible rfl
  try simp only [Act.put, List.setIfInBounds_toArray, List.set_cons_zero, List.set_cons_succ, List.getElem_toArray, List.getElem_cons_succ, List.getElem_cons_zero]
  refine wpAnyH_take (i := 31) (v := ?_) rfl (by kernel_rfl) (by kernel_rfl) (by kernel_rfl) (fun _ _ _ h => h) (Or.inl ⟨by rfl, ?_⟩) (hS.sub (by repeat (first | exact List.Sublist.slnil | apply List.Sublist.cons_cons | apply List.Sublist.cons))) ?_
  rotate_left 1
  · intro W hW
    clear hW
    go_simp
    all_goals with_reducible rfl
  try simp only [Act.put, List.setIfInBounds_toArray, List.set_cons_zero, List.set_cons_succ, List.getElem_toArray, List.getElem_cons_succ, List.getElem_cons_zero]
  refine wpAnyH_take (i := 32) (v := ?_) rfl (by kernel_rfl) (by kernel_rfl) (by kernel_rfl) (fun _ _ _ h => h) (Or.inl ⟨by rfl, ?_⟩) (hS.sub (by repeat (first | exact List.Sublist.slnil | apply List.Sublist.cons_cons | apply List.Sublist.cons))) ?_
  rotate_left 1
  · intro W hW
    clear hW
    go_simp
    all_goals with_reducible rfl
  try simp only [Act.put, List.setIfInBounds_toArray, List.set_cons_zero, List.set_cons_succ, List.getElem_toArray, List.getElem_cons_succ, List.getElem_cons_zero]
  refine wpAnyH_take (i := 33) (v := ?_) rfl (by kernel_rfl) (by kernel_rfl) (by kernel_rfl) (fun _ _ _ h => h) (Or.inl ⟨by rfl, ?_⟩) (hS.sub (by repeat (first | exact List.Sublist.slnil | apply List.Sublist.cons_cons | apply List.Sublist.cons))) ?_
  rotate_left 1
  · intro W hW
    clear hW
    go_simp
    all_goals with_reducible rfl
  try simp only [Act.put, List.setIfInBounds_toArray, List.set_cons_zero, List.set_cons_succ, List.getElem_toArray, List.getElem_cons_succ, List.getElem_cons_zero]
  refine wpAnyH_take (i := 34) (v := ?_) rfl (by kernel_rfl) (by kernel_rfl) (by kernel_rfl) (fun _ _ _ h => h) (Or.inl ⟨by rfl, ?_⟩) (hS.sub (by repeat (first | exact List.Sublist.slnil | apply List.Sublist.cons_cons | apply List.Sublist.cons))) ?_
  rotate_left 1
  · intro W hW
    clear hW
    go_simp
    all_goals with_reducible rfl
  try simp only [Act.put, List.setIfInBounds_toArray, List.set_cons_zero, List.set_cons_succ, List.getElem_toArray, List.getElem_cons_succ, List.getElem_cons_zero]
  refine wpAnyH_take (i := 35) (v := ?_) rfl (by kernel_rfl) (by kernel_rfl) (by kernel_rfl) (fun _ _ _ h => h) (Or.inl ⟨by rfl, ?_⟩) (hS.sub (by repeat (first | exact List.Sublist.slnil | apply List.Sublist.cons_cons | apply List.Sublist.cons))) ?_
  rotate_left 1
  · intro W hW
    clear hW
    go_simp
    all_goals with_reducible rfl
  try simp only [Act.put, List.setIfInBounds_toArray, List.set_cons_zero, List.set_cons_succ, List.getElem_toArray, List.getElem_cons_succ, List.getElem_cons_zero]
  first
    | refine wpAnyH_take (i := 36) rfl (by kernel_rfl) (by kernel_rfl) (by kernel_rfl) (fun _ _ _ h => h) (yields_row (by rfl) _ _ rfl _ _ rfl _ Try.underlying80 rfl _ (fun W hW => hW.range (.head _)) (info80c _)) (hS.sub (by repeat (first | exact List.Sublist.slnil | apply List.Sublist.cons_cons | apply List.Sublist.cons))) ?_
    | refine wpAnyH_take (i := 36) rfl (by kernel_rfl) (by kernel_rfl) (by kernel_rfl) (fun _ _ _ h => h) (yields_row (by rfl) _ _ rfl _ _ rfl _ Try.underlying80 rfl _ (fun W hW => hW.range (.tail _ (.head _))) (info80c _)) (hS.sub (by repeat (first | exact List.Sublist.slnil | apply List.Sublist.cons_cons | apply List.Sublist.cons))) ?_
    | refine wpAnyH_take (i := 36) rfl (by kernel_rfl) (by kernel_rfl) (by kernel_rfl) (fun _ _ _ h => h) (yields_row (by rfl) _ _ rfl _ _ rfl _ Try.underlying80 rfl _ (fun W hW => hW.range (.tail _ (.tail _ (.head _)))) (info80c _)) (hS.sub (by repeat (first | exact List.Sublist.slnil | apply List.Sublist.cons_cons | apply List.Sublist.cons))) ?_
    | refine wpAnyH_take (i := 36) rfl (by kernel_rfl) (by kernel_rfl) (by kernel_rfl) (fun _ _ _ h => h) (yields_row (by rfl) _ _ rfl _ _ rfl _ Try.underlying80 rfl _ (fun W hW => hW.range (.tail _ (.tail _ (.tail _ (.head _))))) (info80c _)) (hS.sub (by repeat (first | exact List.Sublist.slnil | apply List.Sublist.cons_cons | apply List.Sublist.cons))) ?_
    | refine wpAnyH_take (i := 36) rfl (by kernel_rfl) (by kernel_rfl) (by kernel_rfl) (fun _ _ _ h => h) (yields_row (by rfl) _ _ rfl _ _ rfl _ Try.underlying80 rfl _ (fun W hW => hW.range (.tail _ (.tail _ (.tail _ (.tail _ (.head _)))))) (info80c _)) (hS.sub (by repeat (first | exact List.Sublist.slnil | apply List.Sublist.cons_cons | apply List.Sublist.cons))) ?_
    | refine wpAnyH_take (i := 36) rfl (by kernel_rfl) (by kernel_rfl) (by kernel_rfl) (fun _ _ _ h => h) (yields_row (by rfl) _ _ rfl _ _ rfl _ Try.underlying80 rfl _ (fun W hW => hW.range (.tail _ (.tail _ (.tail _ (.tail _ (.tail _ (.head _))))))) (info80c _)) (hS.sub (by repeat (first | exact List.Sublist.slnil | apply List.Sublist.cons_cons | apply List.Sublist.cons))) ?_
  try simp only [Act.put, List.setIfInBounds_toArray, List.set_cons_zero, List.set_cons_succ, List.getElem_toArray, List.getElem_cons_succ, List.getElem_cons_zero]
  first
    | refine wpAnyH_take (i := 38) rfl (by kernel_rfl) (by kernel_rfl) (by kernel_rfl) (fun _ _ _ h => h) (yields_row (by rfl) _ _ rfl _ _ rfl _ Try.underlying80 rfl _ (fun W hW => hW.range (.head _)) (info80c _)) (hS.sub (by repeat (first | exact List.Sublist.slnil | apply List.Sublist.cons_cons | apply List.Sublist.cons))) ?_
    | refine wpAnyH_take (i := 38) rfl (by kernel_rfl) (by kernel_rfl) (by kernel_rfl) (fun _ _ _ h => h) (yields_row (by rfl) _ _ rfl _ _ rfl _ Try.underlying80 rfl _ (fun W hW => hW.range (.tail _ (.head _))) (info80c _)) (hS.sub (by repeat (first | exact List.Sublist.slnil | apply List.Sublist.cons_cons | apply List.Sublist.cons))) ?_
    | refine wpAnyH_take (i := 38) rfl (by kernel_rfl) (by kernel_rfl) (by kernel_rfl) (fun _ _ _ h => h) (yields_row (by rfl) _ _ rfl _ _ rfl _ Try.underlying80 rfl _ (fun W hW => hW.range (.tail _ (.tail _ (.head _)))) (info80c _)) (hS.sub (by repeat (first | exact List.Sublist.slnil | apply List.Sublist.cons_cons | apply List.Sublist.cons))) ?_
    | refine wpAnyH_take (i := 38) rfl (by kernel_rfl) (by kernel_rfl) (by kernel_rfl) (fun _ _ _ h => h) (yields_row (by rfl) _ _ rfl _ _ rfl _ Try.underlying80 rfl _ (fun W hW => hW.range (.tail _ (.tail _ (.tail _ (.head _))))) (info80c _)) (hS.sub (by repeat (first | exact List.Sublist.slnil | apply List.Sublist.cons_cons | apply List.Sublist.cons))) ?_
    | refine wpAnyH_take (i := 38) rfl (by kernel_rfl) (by kernel_rfl) (by kernel_rfl) (fun _ _ _ h => h) (yields_row (by rfl) _ _ rfl _ _ rfl _ Try.underlying80 rfl _ (fun W hW => hW.range (.tail _ (.tail _ (.tail _ (.tail _ (.head _)))))) (info80c _)) (hS.sub (by repeat (first | exact List.Sublist.slnil | apply List.Sublist.cons_cons | apply List.Sublist.cons))) ?_
    | refine wpAnyH_take (i := 38) rfl (by kernel_rfl) (by kernel_rfl) (by kernel_rfl) (fun _ _ _ h => h) (yields_row (by rfl) _ _ rfl _ _ rfl _ Try.underlying80 rfl _ (fun W hW => hW.range (.tail _ (.tail _ (.tail _ (.tail _ (.tail _ (.head _))))))) (info80c _)) (hS.sub (by repeat (first | exact List.Sublist.slnil | apply List.Sublist.cons_cons | apply List.Sublist.cons))) ?_
  try simp only [Act.put, List.setIfInBounds_toArray, List.set_cons_zero, List.set_cons_succ, List.getElem_toArray, List.getElem_cons_succ, List.getElem_cons_zero]
  refine wpAnyH_ready (rs := [37]) (by kernel_rfl) (by simp) (AllReadyH.cons rfl ?_ AllReadyH.nil)
  intro K1 hK1
  rw [if_pos (by rfl)]
  try simp only [Act.put, List.setIfInBounds_toArray, List.set_cons_zero, List.set_cons_succ, List.getElem_toArray, List.getElem_cons_succ, List.getElem_cons_zero]
  go_simp
  refine (PE.out _).mono ?_
  rintro e1 v2 ⟨rfl, hb⟩
  replace hS := hS.call hb
  clear hb
  refine hK1.out _ _ (hS.sub (by repeat (first | exact List.Sublist.slnil | apply List.Sublist.cons_cons | apply List.Sublist.cons))) (fun _ => ?_)
  clear hK1
  try simp only [Act.put, List.setIfInBounds_toArray, List.set_cons_zero, List.set_cons_succ, List.getElem_toArray, List.getElem_cons_succ, List.getElem_cons_zero]
  refine wpAnyH_ready (rs := [39]) (by kernel_rfl) (by simp) (AllReadyH.cons rfl ?_ AllReadyH.nil)
  intro K1 hK1
  rw [if_pos (by rfl)]
  try simp only [Act.put, List.setIfInBounds_toArray, List.set_cons_zero, List.set_cons_succ, List.getElem_toArray, List.getElem_cons_succ, List.getElem_cons_zero]
  go_simp
  refine (D4.out _).mono ?_
  rintro e1 v2 ⟨rfl, hb⟩
  replace hS := hS.call hb
  clear hb
  refine hK1.out _ _ (hS.sub (by repeat (first | exact List.Sublist.slnil | apply List.Sublist.cons_cons | apply List.Sublist.cons))) (fun _ => ?_)
  clear hK1
  try simp only [Act.put, List.setIfInBounds_toArray, List.set_cons_zero, List.set_cons_succ, List.getElem_toArray, List.getElem_cons_succ, List.getElem_cons_zero]
  refine wpAnyH_ready (rs := [40]) (by kernel_rfl) (by simp) (AllReadyH.cons rfl ?_ AllReadyH.nil)
  intro K1 hK1
  rw [if_pos (by rfl)]
  try simp only [Act.put, List.setIfInBounds_toArray, List.set_cons_zero, List.set_cons_succ, List.getElem_toArray, List.getElem_cons_succ, List.getElem_cons_zero]
  go_simp
  refine (RPE.out _).mono ?_
  rintro e1 v2 ⟨rfl, hb⟩
  replace hS := hS.call hb
  clear hb
  refine hK1.out _ _ (hS.sub (by repeat (first | exact List.Sublist.slnil | apply List.Sublist.cons_cons | apply List.Sublist.cons))) (fun _ => ?_)
  clear hK1
  try simp only [Act.put, List.setIfInBounds_toArray, List.set_cons_zero, List.set_cons_succ, List.getElem_toArray, List.getElem_cons_succ, List.getElem_cons_zero]
  refine wpAnyH_take (i := 41) (v := ?_) rfl (by kernel_rfl) (by kernel_rfl) (by kernel_rfl) (fun _ _ _ h => h) (Or.inl ⟨by rfl, ?_⟩) (hS.sub (by repeat (first | exact List.Sublist.slnil | apply List.Sublist.cons_cons | apply List.Sublist.cons))) ?_
  rotate_left 1
  · intro W hW
    clear hW
    go_simp
    all_goals with_reducible rfl
  try simp only [Act.put, List.setIfInBounds_toArray, List.set_cons_zero, List.set_cons_succ, List.getElem_toArray, List.getElem_cons_succ, List.getElem_cons_zero]
  refine wpAnyH_take (i := 42) (v := ?_) rfl (by kernel_rfl) (by kernel_rfl) (by kernel_rfl) (fun _ _ _ h => h) (Or.inl ⟨by rfl, ?_⟩) (hS.sub (by repeat (first | exact List.Sublist.slnil | apply List.Sublist.cons_cons | apply List.Sublist.cons))) ?_
  rotate_left 1
  · intro W hW
    clear hW
    go_simp
    all_goals with_reducible rfl
  try simp only [Act.put, List.setIfInBounds_toArray, List.set_cons_zero, List.set_cons_succ, List.getElem_toArray, List.getElem_cons_succ, List.getElem_cons_zero]
  refine wpAnyH_take (i := 43) (v := ?_) rfl (by kernel_rfl) (by kernel_rfl) (by kernel_rfl) (fun _ _ _ h => h) (Or.inl ⟨by rfl, ?_⟩) (hS.sub (by repeat (first | exact List.Sublist.slnil | apply List.Sublist.cons_cons | apply List.Sublist.cons))) ?_
  rotate_left 1
  · intro W hW
    clear hW
    go_simp
    all_goals with_reducible rfl
  try simp only [Act.put, List.setIfInBounds_toArray, List.set_cons_zero, List.set_cons_succ, List.getElem_toArray, List.getElem_cons_succ, List.getElem_cons_zero]
  refine wpAnyH_done (by kernel_rfl) ?_ _

  go_wp2_with fail
  go_returns
  exact ⟨rfl, hS.below⟩
end Go.Proofs.Ytmoafjgogbcoeaa
