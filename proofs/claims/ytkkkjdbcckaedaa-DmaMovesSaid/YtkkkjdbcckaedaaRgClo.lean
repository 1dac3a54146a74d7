/- The closures of the program's take (dmareg), each by its contract. -/
import Derived.Test.YtkkkjdbcckaedaaRgBas
import Derived.Test.YtkkkjdbcckaedaaZRg
namespace Go.Proofs.Ytkkkjdbcckaedaa
open Go.RowKit
set_option linter.unusedVariables false
set_option linter.unusedSimpArgs false
set_option maxRecDepth 100000
theorem scQ : Scalar Try.prog 64 := ⟨⟨_, Try.underlying64, rfl⟩, by kernel_rfl⟩
theorem scB : Scalar Try.prog 108 := ⟨⟨_, Try.underlying108, rfl⟩, by kernel_rfl⟩
theorem St.giv {B o n b : Nat} {w W : World} {es : List Ent} {v : Value} (h : St B o n w es W) (hc : W.cell? ⟨b, 0, none⟩ = some v) (hne : ∀ y, y ∈ es → y.fr = true → y.b ≠ b) : St B o n w (es ++ [⟨b, 0, false, #[v]⟩]) W :=
  h.snoc rfl (World.block_lt_of_cell? W _ hc) (fun j u hu => by
    match j with
    | 0 => simp at hu; subst hu; exact hc
    | j + 1 => simp at hu) (fun y hy hf => .inl (hne y hy hf))
theorem clo_st {B P Q : Nat} {r : M.Rg} {s p q : Value} {w : World} (h : RgAt B r s w) (hP : w.cell? ⟨P, 0, none⟩ = some p) (hQ : w.cell? ⟨Q, 0, none⟩ = some q) (hPB : B ≠ P) (hQB : B ≠ Q) : St B 0 24 w [⟨B, 0, true, r.c s⟩, ⟨P, 0, false, #[p]⟩, ⟨Q, 0, false, #[q]⟩] w := by
  refine (h.st.giv hP ?_).giv hQ ?_
  · intro y hy hf
    rcases List.mem_singleton.1 hy with rfl
    exact hPB
  · intro y hy hf
    simp only [List.cons_append, List.nil_append, List.mem_cons, List.not_mem_nil, or_false] at hy
    rcases hy with rfl | rfl
    · exact hQB
    · cases hf
/-- What such a closure leaves. -/
def CloOut (B : Nat) (r' : M.Rg) (s : Value) (w : World) (e : Ending) (w' : World) : Prop := e = .returned (.tuple #[]) ∧ w'.rangeAt B 0 (r'.c s).toList ∧ Touch B 0 24 w w'
set_option maxHeartbeats 4000000 in
theorem low_a (B P Q : Nat) (r : M.Rg) (s : Value) (b : Int) (hx : 0 ≤ r.a ∧ r.a ≤ 65535) (h0 : 0 ≤ b) (h1 : b ≤ 255) (w : World) (h : RgAt B r s w) (hP : w.cell? ⟨P, 0, none⟩ = some (.pointer (some ⟨B, 2, none⟩))) (hQ : w.cell? ⟨Q, 0, none⟩ = some (.int .u8 b)) (hPB : B ≠ P) (hQB : B ≠ Q) :
    Calls Try.prog 81 #[.pointer (some ⟨P, 0, none⟩), .pointer (some ⟨Q, 0, none⟩)] w (CloOut B { r with a := M.lowW r.a b } s w) := by
  have hS := clo_st h hP hQ hPB hQB
  clear h hP hQ hPB hQB
  go_enter Try.func81, Try.ntmps81
  refine wp_region_held_drew (S := fun W => St B 0 24 w [⟨P, 0, false, #[.pointer (some ⟨B, 2, none⟩)]⟩, ⟨Q, 0, false, #[.int .u8 b]⟩] W) (by kernel_rfl) (hS.drew.sub (by repeat (first | exact List.Sublist.slnil | apply List.Sublist.cons_cons | apply List.Sublist.cons))) ?_
  intro _
  replace hS := hS.drew
  generalize World.drew _ = wX at hS ⊢
  first
    | refine wpAnyH_take (i := 0) rfl (by kernel_rfl) (by kernel_rfl) (by kernel_rfl) (fun _ _ _ h => h) (yields_one (by rfl) _ _ rfl _ _ rfl scQ _ (fun W hW => hW.cell0 (.head _) rfl)) (hS.sub (by repeat (first | exact List.Sublist.slnil | apply List.Sublist.cons_cons | apply List.Sublist.cons))) ?_
    
  try simp only [nR]
  first
    | refine wpAnyH_take (i := 1) rfl (by kernel_rfl) (by kernel_rfl) (by kernel_rfl) (fun _ _ _ h => h) (yields_one (by rfl) _ _ rfl _ _ rfl scQ _ (fun W hW => hW.cell0 (.head _) rfl)) (hS.sub (by repeat (first | exact List.Sublist.slnil | apply List.Sublist.cons_cons | apply List.Sublist.cons))) ?_
    
  try simp only [nR]
  refine wpAnyH_take (i := 2) (v := ?_) rfl (by kernel_rfl) (by kernel_rfl) (by kernel_rfl) (fun _ _ _ h => h) (Or.inl ⟨by rfl, ?_⟩) (hS.sub (by repeat (first | exact List.Sublist.slnil | apply List.Sublist.cons_cons | apply List.Sublist.cons))) ?_
  rotate_left 1
  · intro W hW
    clear hW
    go_simp
    all_goals with_reducible rfl
  try simp only [nR]
  first
    | refine wpAnyH_take (i := 5) rfl (by kernel_rfl) (by kernel_rfl) (by kernel_rfl) (fun _ _ _ h => h) (yields_one (by rfl) _ _ rfl _ _ rfl sc5 _ (fun W hW => hW.cell0 (.tail _ (.head _)) rfl)) (hS.sub (by repeat (first | exact List.Sublist.slnil | apply List.Sublist.cons_cons | apply List.Sublist.cons))) ?_
    
  try simp only [nR]
  refine wpAnyH_ready (rs := [3]) (by kernel_rfl) (by simp) (AllReadyH.cons rfl ?_ AllReadyH.nil)
  intro K1 hK1
  rw [if_pos (by rfl)]
  try simp only [nR]
  refine wp_load1_sc hS _ _ rfl _ _ rfl scW ?_
  repeat (first | refine Look.here (of_decide_eq_true rfl) rfl ?_)
  refine hK1.out _ _ (hS.sub (by repeat (first | exact List.Sublist.slnil | apply List.Sublist.cons_cons | apply List.Sublist.cons))) (fun _ => ?_)
  clear hK1
  try simp only [nR]
  refine wpAnyH_ready (rs := [4]) (by kernel_rfl) (by simp) (AllReadyH.cons rfl ?_ AllReadyH.nil)
  intro K1 hK1
  rw [if_pos (by rfl)]
  try simp only [nR]
  go_simp
  refine (hi_any r.a hx.1 hx.2 _).mono ?_
  rintro e1 v2 ⟨rfl, rfl⟩
  refine hK1.out _ _ (hS.sub (by repeat (first | exact List.Sublist.slnil | apply List.Sublist.cons_cons | apply List.Sublist.cons))) (fun _ => ?_)
  clear hK1
  try simp only [nR]
  refine wpAnyH_ready (rs := [6]) (by kernel_rfl) (by simp) (AllReadyH.cons rfl ?_ AllReadyH.nil)
  intro K1 hK1
  rw [if_pos (by rfl)]
  try simp only [nR]
  go_simp
  refine (word_any _ _ (by omega) (by omega) h0 h1 _).mono ?_
  rintro e1 v2 ⟨rfl, rfl⟩
  refine hK1.out _ _ (hS.sub (by repeat (first | exact List.Sublist.slnil | apply List.Sublist.cons_cons | apply List.Sublist.cons))) (fun _ => ?_)
  clear hK1
  try simp only [nR]
  refine wpAnyH_take (i := 7) (v := ?_) rfl (by kernel_rfl) (by kernel_rfl) (by kernel_rfl) (fun _ _ _ h => h) (Or.inl ⟨by rfl, ?_⟩) (hS.sub (by repeat (first | exact List.Sublist.slnil | apply List.Sublist.cons_cons | apply List.Sublist.cons))) ?_
  rotate_left 1
  · intro W hW
    clear hW
    go_simp
    all_goals with_reducible rfl
  try simp only [nR]
  refine wpAnyH_ready (rs := [8]) (by kernel_rfl) (by simp) (AllReadyH.cons rfl ?_ AllReadyH.nil)
  intro K1 hK1
  rw [if_pos (by rfl)]
  try simp only [nR]
  refine wp_store1_sc hS _ _ _ rfl _ _ (.int _ _) rfl rfl scW rfl rfl ?_
  repeat (first | refine Turn1.here (of_decide_eq_true rfl) (of_decide_eq_true rfl) ?_)
  clear hS
  intro wW hS
  try simp only [Nat.sub_zero, Nat.add_zero, Nat.zero_add, Nat.reduceSub, Nat.add_sub_cancel_left, rg_ss] at hS
  refine hK1.out _ _ (hS.sub (by repeat (first | exact List.Sublist.slnil | apply List.Sublist.cons_cons | apply List.Sublist.cons))) (fun _ => ?_)
  clear hK1
  try simp only [nR]
  refine wpAnyH_done (by kernel_rfl) ?_ _
  try simp only [Nat.sub_zero, Nat.add_zero, Nat.zero_add, Nat.reduceSub, Nat.add_sub_cancel_left, rg_ss] at hS
  go_wp2_with fail
  go_returns
  exact ⟨rfl, hS.range (.head _), hS.touch⟩
set_option maxHeartbeats 4000000 in
theorem low_len (B P Q : Nat) (r : M.Rg) (s : Value) (b : Int) (hx : 0 ≤ r.len ∧ r.len ≤ 65535) (h0 : 0 ≤ b) (h1 : b ≤ 255) (w : World) (h : RgAt B r s w) (hP : w.cell? ⟨P, 0, none⟩ = some (.pointer (some ⟨B, 4, none⟩))) (hQ : w.cell? ⟨Q, 0, none⟩ = some (.int .u8 b)) (hPB : B ≠ P) (hQB : B ≠ Q) :
    Calls Try.prog 81 #[.pointer (some ⟨P, 0, none⟩), .pointer (some ⟨Q, 0, none⟩)] w (CloOut B { r with len := M.lowW r.len b } s w) := by
  have hS := clo_st h hP hQ hPB hQB
  clear h hP hQ hPB hQB
  go_enter Try.func81, Try.ntmps81
  refine wp_region_held_drew (S := fun W => St B 0 24 w [⟨P, 0, false, #[.pointer (some ⟨B, 4, none⟩)]⟩, ⟨Q, 0, false, #[.int .u8 b]⟩] W) (by kernel_rfl) (hS.drew.sub (by repeat (first | exact List.Sublist.slnil | apply List.Sublist.cons_cons | apply List.Sublist.cons))) ?_
  intro _
  replace hS := hS.drew
  generalize World.drew _ = wX at hS ⊢
  first
    | refine wpAnyH_take (i := 0) rfl (by kernel_rfl) (by kernel_rfl) (by kernel_rfl) (fun _ _ _ h => h) (yields_one (by rfl) _ _ rfl _ _ rfl scQ _ (fun W hW => hW.cell0 (.head _) rfl)) (hS.sub (by repeat (first | exact List.Sublist.slnil | apply List.Sublist.cons_cons | apply List.Sublist.cons))) ?_
    
  try simp only [nR]
  first
    | refine wpAnyH_take (i := 1) rfl (by kernel_rfl) (by kernel_rfl) (by kernel_rfl) (fun _ _ _ h => h) (yields_one (by rfl) _ _ rfl _ _ rfl scQ _ (fun W hW => hW.cell0 (.head _) rfl)) (hS.sub (by repeat (first | exact List.Sublist.slnil | apply List.Sublist.cons_cons | apply List.Sublist.cons))) ?_
    
  try simp only [nR]
  refine wpAnyH_take (i := 2) (v := ?_) rfl (by kernel_rfl) (by kernel_rfl) (by kernel_rfl) (fun _ _ _ h => h) (Or.inl ⟨by rfl, ?_⟩) (hS.sub (by repeat (first | exact List.Sublist.slnil | apply List.Sublist.cons_cons | apply List.Sublist.cons))) ?_
  rotate_left 1
  · intro W hW
    clear hW
    go_simp
    all_goals with_reducible rfl
  try simp only [nR]
  first
    | refine wpAnyH_take (i := 5) rfl (by kernel_rfl) (by kernel_rfl) (by kernel_rfl) (fun _ _ _ h => h) (yields_one (by rfl) _ _ rfl _ _ rfl sc5 _ (fun W hW => hW.cell0 (.tail _ (.head _)) rfl)) (hS.sub (by repeat (first | exact List.Sublist.slnil | apply List.Sublist.cons_cons | apply List.Sublist.cons))) ?_
    
  try simp only [nR]
  refine wpAnyH_ready (rs := [3]) (by kernel_rfl) (by simp) (AllReadyH.cons rfl ?_ AllReadyH.nil)
  intro K1 hK1
  rw [if_pos (by rfl)]
  try simp only [nR]
  refine wp_load1_sc hS _ _ rfl _ _ rfl scW ?_
  repeat (first | refine Look.here (of_decide_eq_true rfl) rfl ?_)
  refine hK1.out _ _ (hS.sub (by repeat (first | exact List.Sublist.slnil | apply List.Sublist.cons_cons | apply List.Sublist.cons))) (fun _ => ?_)
  clear hK1
  try simp only [nR]
  refine wpAnyH_ready (rs := [4]) (by kernel_rfl) (by simp) (AllReadyH.cons rfl ?_ AllReadyH.nil)
  intro K1 hK1
  rw [if_pos (by rfl)]
  try simp only [nR]
  go_simp
  refine (hi_any r.len hx.1 hx.2 _).mono ?_
  rintro e1 v2 ⟨rfl, rfl⟩
  refine hK1.out _ _ (hS.sub (by repeat (first | exact List.Sublist.slnil | apply List.Sublist.cons_cons | apply List.Sublist.cons))) (fun _ => ?_)
  clear hK1
  try simp only [nR]
  refine wpAnyH_ready (rs := [6]) (by kernel_rfl) (by simp) (AllReadyH.cons rfl ?_ AllReadyH.nil)
  intro K1 hK1
  rw [if_pos (by rfl)]
  try simp only [nR]
  go_simp
  refine (word_any _ _ (by omega) (by omega) h0 h1 _).mono ?_
  rintro e1 v2 ⟨rfl, rfl⟩
  refine hK1.out _ _ (hS.sub (by repeat (first | exact List.Sublist.slnil | apply List.Sublist.cons_cons | apply List.Sublist.cons))) (fun _ => ?_)
  clear hK1
  try simp only [nR]
  refine wpAnyH_take (i := 7) (v := ?_) rfl (by kernel_rfl) (by kernel_rfl) (by kernel_rfl) (fun _ _ _ h => h) (Or.inl ⟨by rfl, ?_⟩) (hS.sub (by repeat (first | exact List.Sublist.slnil | apply List.Sublist.cons_cons | apply List.Sublist.cons))) ?_
  rotate_left 1
  · intro W hW
    clear hW
    go_simp
    all_goals with_reducible rfl
  try simp only [nR]
  refine wpAnyH_ready (rs := [8]) (by kernel_rfl) (by simp) (AllReadyH.cons rfl ?_ AllReadyH.nil)
  intro K1 hK1
  rw [if_pos (by rfl)]
  try simp only [nR]
  refine wp_store1_sc hS _ _ _ rfl _ _ (.int _ _) rfl rfl scW rfl rfl ?_
  repeat (first | refine Turn1.here (of_decide_eq_true rfl) (of_decide_eq_true rfl) ?_)
  clear hS
  intro wW hS
  try simp only [Nat.sub_zero, Nat.add_zero, Nat.zero_add, Nat.reduceSub, Nat.add_sub_cancel_left, rg_ss] at hS
  refine hK1.out _ _ (hS.sub (by repeat (first | exact List.Sublist.slnil | apply List.Sublist.cons_cons | apply List.Sublist.cons))) (fun _ => ?_)
  clear hK1
  try simp only [nR]
  refine wpAnyH_done (by kernel_rfl) ?_ _
  try simp only [Nat.sub_zero, Nat.add_zero, Nat.zero_add, Nat.reduceSub, Nat.add_sub_cancel_left, rg_ss] at hS
  go_wp2_with fail
  go_returns
  exact ⟨rfl, hS.range (.head _), hS.touch⟩
set_option maxHeartbeats 4000000 in
theorem low_b (B P Q : Nat) (r : M.Rg) (s : Value) (b : Int) (hx : 0 ≤ r.b ∧ r.b ≤ 65535) (h0 : 0 ≤ b) (h1 : b ≤ 255) (w : World) (h : RgAt B r s w) (hP : w.cell? ⟨P, 0, none⟩ = some (.pointer (some ⟨B, 3, none⟩))) (hQ : w.cell? ⟨Q, 0, none⟩ = some (.int .u8 b)) (hPB : B ≠ P) (hQB : B ≠ Q) :
    Calls Try.prog 81 #[.pointer (some ⟨P, 0, none⟩), .pointer (some ⟨Q, 0, none⟩)] w (CloOut B { r with b := M.lowW r.b b } s w) := by
  have hS := clo_st h hP hQ hPB hQB
  clear h hP hQ hPB hQB
  go_enter Try.func81, Try.ntmps81
  refine wp_region_held_drew (S := fun W => St B 0 24 w [⟨P, 0, false, #[.pointer (some ⟨B, 3, none⟩)]⟩, ⟨Q, 0, false, #[.int .u8 b]⟩] W) (by kernel_rfl) (hS.drew.sub (by repeat (first | exact List.Sublist.slnil | apply List.Sublist.cons_cons | apply List.Sublist.cons))) ?_
  intro _
  replace hS := hS.drew
  generalize World.drew _ = wX at hS ⊢
  first
    | refine wpAnyH_take (i := 0) rfl (by kernel_rfl) (by kernel_rfl) (by kernel_rfl) (fun _ _ _ h => h) (yields_one (by rfl) _ _ rfl _ _ rfl scQ _ (fun W hW => hW.cell0 (.head _) rfl)) (hS.sub (by repeat (first | exact List.Sublist.slnil | apply List.Sublist.cons_cons | apply List.Sublist.cons))) ?_
    
  try simp only [nR]
  first
    | refine wpAnyH_take (i := 1) rfl (by kernel_rfl) (by kernel_rfl) (by kernel_rfl) (fun _ _ _ h => h) (yields_one (by rfl) _ _ rfl _ _ rfl scQ _ (fun W hW => hW.cell0 (.head _) rfl)) (hS.sub (by repeat (first | exact List.Sublist.slnil | apply List.Sublist.cons_cons | apply List.Sublist.cons))) ?_
    
  try simp only [nR]
  refine wpAnyH_take (i := 2) (v := ?_) rfl (by kernel_rfl) (by kernel_rfl) (by kernel_rfl) (fun _ _ _ h => h) (Or.inl ⟨by rfl, ?_⟩) (hS.sub (by repeat (first | exact List.Sublist.slnil | apply List.Sublist.cons_cons | apply List.Sublist.cons))) ?_
  rotate_left 1
  · intro W hW
    clear hW
    go_simp
    all_goals with_reducible rfl
  try simp only [nR]
  first
    | refine wpAnyH_take (i := 5) rfl (by kernel_rfl) (by kernel_rfl) (by kernel_rfl) (fun _ _ _ h => h) (yields_one (by rfl) _ _ rfl _ _ rfl sc5 _ (fun W hW => hW.cell0 (.tail _ (.head _)) rfl)) (hS.sub (by repeat (first | exact List.Sublist.slnil | apply List.Sublist.cons_cons | apply List.Sublist.cons))) ?_
    
  try simp only [nR]
  refine wpAnyH_ready (rs := [3]) (by kernel_rfl) (by simp) (AllReadyH.cons rfl ?_ AllReadyH.nil)
  intro K1 hK1
  rw [if_pos (by rfl)]
  try simp only [nR]
  refine wp_load1_sc hS _ _ rfl _ _ rfl scW ?_
  repeat (first | refine Look.here (of_decide_eq_true rfl) rfl ?_)
  refine hK1.out _ _ (hS.sub (by repeat (first | exact List.Sublist.slnil | apply List.Sublist.cons_cons | apply List.Sublist.cons))) (fun _ => ?_)
  clear hK1
  try simp only [nR]
  refine wpAnyH_ready (rs := [4]) (by kernel_rfl) (by simp) (AllReadyH.cons rfl ?_ AllReadyH.nil)
  intro K1 hK1
  rw [if_pos (by rfl)]
  try simp only [nR]
  go_simp
  refine (hi_any r.b hx.1 hx.2 _).mono ?_
  rintro e1 v2 ⟨rfl, rfl⟩
  refine hK1.out _ _ (hS.sub (by repeat (first | exact List.Sublist.slnil | apply List.Sublist.cons_cons | apply List.Sublist.cons))) (fun _ => ?_)
  clear hK1
  try simp only [nR]
  refine wpAnyH_ready (rs := [6]) (by kernel_rfl) (by simp) (AllReadyH.cons rfl ?_ AllReadyH.nil)
  intro K1 hK1
  rw [if_pos (by rfl)]
  try simp only [nR]
  go_simp
  refine (word_any _ _ (by omega) (by omega) h0 h1 _).mono ?_
  rintro e1 v2 ⟨rfl, rfl⟩
  refine hK1.out _ _ (hS.sub (by repeat (first | exact List.Sublist.slnil | apply List.Sublist.cons_cons | apply List.Sublist.cons))) (fun _ => ?_)
  clear hK1
  try simp only [nR]
  refine wpAnyH_take (i := 7) (v := ?_) rfl (by kernel_rfl) (by kernel_rfl) (by kernel_rfl) (fun _ _ _ h => h) (Or.inl ⟨by rfl, ?_⟩) (hS.sub (by repeat (first | exact List.Sublist.slnil | apply List.Sublist.cons_cons | apply List.Sublist.cons))) ?_
  rotate_left 1
  · intro W hW
    clear hW
    go_simp
    all_goals with_reducible rfl
  try simp only [nR]
  refine wpAnyH_ready (rs := [8]) (by kernel_rfl) (by simp) (AllReadyH.cons rfl ?_ AllReadyH.nil)
  intro K1 hK1
  rw [if_pos (by rfl)]
  try simp only [nR]
  refine wp_store1_sc hS _ _ _ rfl _ _ (.int _ _) rfl rfl scW rfl rfl ?_
  repeat (first | refine Turn1.here (of_decide_eq_true rfl) (of_decide_eq_true rfl) ?_)
  clear hS
  intro wW hS
  try simp only [Nat.sub_zero, Nat.add_zero, Nat.zero_add, Nat.reduceSub, Nat.add_sub_cancel_left, rg_ss] at hS
  refine hK1.out _ _ (hS.sub (by repeat (first | exact List.Sublist.slnil | apply List.Sublist.cons_cons | apply List.Sublist.cons))) (fun _ => ?_)
  clear hK1
  try simp only [nR]
  refine wpAnyH_done (by kernel_rfl) ?_ _
  try simp only [Nat.sub_zero, Nat.add_zero, Nat.zero_add, Nat.reduceSub, Nat.add_sub_cancel_left, rg_ss] at hS
  go_wp2_with fail
  go_returns
  exact ⟨rfl, hS.range (.head _), hS.touch⟩
set_option maxHeartbeats 4000000 in
theorem high_a (B P Q : Nat) (r : M.Rg) (s : Value) (b : Int) (hx : 0 ≤ r.a ∧ r.a ≤ 65535) (h0 : 0 ≤ b) (h1 : b ≤ 255) (w : World) (h : RgAt B r s w) (hP : w.cell? ⟨P, 0, none⟩ = some (.pointer (some ⟨B, 2, none⟩))) (hQ : w.cell? ⟨Q, 0, none⟩ = some (.int .u8 b)) (hPB : B ≠ P) (hQB : B ≠ Q) :
    Calls Try.prog 84 #[.pointer (some ⟨Q, 0, none⟩), .pointer (some ⟨P, 0, none⟩)] w (CloOut B { r with a := M.highW r.a b } s w) := by
  have hS := clo_st h hP hQ hPB hQB
  clear h hP hQ hPB hQB
  go_enter Try.func84, Try.ntmps84
  refine wp_region_held_drew (S := fun W => St B 0 24 w [⟨P, 0, false, #[.pointer (some ⟨B, 2, none⟩)]⟩, ⟨Q, 0, false, #[.int .u8 b]⟩] W) (by kernel_rfl) (hS.drew.sub (by repeat (first | exact List.Sublist.slnil | apply List.Sublist.cons_cons | apply List.Sublist.cons))) ?_
  intro _
  replace hS := hS.drew
  generalize World.drew _ = wX at hS ⊢
  first
    | refine wpAnyH_take (i := 0) rfl (by kernel_rfl) (by kernel_rfl) (by kernel_rfl) (fun _ _ _ h => h) (yields_one (by rfl) _ _ rfl _ _ rfl scQ _ (fun W hW => hW.cell0 (.head _) rfl)) (hS.sub (by repeat (first | exact List.Sublist.slnil | apply List.Sublist.cons_cons | apply List.Sublist.cons))) ?_
    
  try simp only [nR]
  first
    | refine wpAnyH_take (i := 1) rfl (by kernel_rfl) (by kernel_rfl) (by kernel_rfl) (fun _ _ _ h => h) (yields_one (by rfl) _ _ rfl _ _ rfl sc5 _ (fun W hW => hW.cell0 (.tail _ (.head _)) rfl)) (hS.sub (by repeat (first | exact List.Sublist.slnil | apply List.Sublist.cons_cons | apply List.Sublist.cons))) ?_
    
  try simp only [nR]
  first
    | refine wpAnyH_take (i := 2) rfl (by kernel_rfl) (by kernel_rfl) (by kernel_rfl) (fun _ _ _ h => h) (yields_one (by rfl) _ _ rfl _ _ rfl scQ _ (fun W hW => hW.cell0 (.head _) rfl)) (hS.sub (by repeat (first | exact List.Sublist.slnil | apply List.Sublist.cons_cons | apply List.Sublist.cons))) ?_
    
  try simp only [nR]
  refine wpAnyH_take (i := 3) (v := ?_) rfl (by kernel_rfl) (by kernel_rfl) (by kernel_rfl) (fun _ _ _ h => h) (Or.inl ⟨by rfl, ?_⟩) (hS.sub (by repeat (first | exact List.Sublist.slnil | apply List.Sublist.cons_cons | apply List.Sublist.cons))) ?_
  rotate_left 1
  · intro W hW
    clear hW
    go_simp
    all_goals with_reducible rfl
  try simp only [nR]
  refine wpAnyH_ready (rs := [4]) (by kernel_rfl) (by simp) (AllReadyH.cons rfl ?_ AllReadyH.nil)
  intro K1 hK1
  rw [if_pos (by rfl)]
  try simp only [nR]
  refine wp_load1_sc hS _ _ rfl _ _ rfl scW ?_
  repeat (first | refine Look.here (of_decide_eq_true rfl) rfl ?_)
  refine hK1.out _ _ (hS.sub (by repeat (first | exact List.Sublist.slnil | apply List.Sublist.cons_cons | apply List.Sublist.cons))) (fun _ => ?_)
  clear hK1
  try simp only [nR]
  refine wpAnyH_ready (rs := [5]) (by kernel_rfl) (by simp) (AllReadyH.cons rfl ?_ AllReadyH.nil)
  intro K1 hK1
  rw [if_pos (by rfl)]
  try simp only [nR]
  go_simp
  refine (lo_any r.a hx.1 hx.2 _).mono ?_
  rintro e1 v2 ⟨rfl, rfl⟩
  refine hK1.out _ _ (hS.sub (by repeat (first | exact List.Sublist.slnil | apply List.Sublist.cons_cons | apply List.Sublist.cons))) (fun _ => ?_)
  clear hK1
  try simp only [nR]
  refine wpAnyH_ready (rs := [6]) (by kernel_rfl) (by simp) (AllReadyH.cons rfl ?_ AllReadyH.nil)
  intro K1 hK1
  rw [if_pos (by rfl)]
  try simp only [nR]
  go_simp
  refine (word_any _ _ h0 h1 (by omega) (by omega) _).mono ?_
  rintro e1 v2 ⟨rfl, rfl⟩
  refine hK1.out _ _ (hS.sub (by repeat (first | exact List.Sublist.slnil | apply List.Sublist.cons_cons | apply List.Sublist.cons))) (fun _ => ?_)
  clear hK1
  try simp only [nR]
  refine wpAnyH_take (i := 7) (v := ?_) rfl (by kernel_rfl) (by kernel_rfl) (by kernel_rfl) (fun _ _ _ h => h) (Or.inl ⟨by rfl, ?_⟩) (hS.sub (by repeat (first | exact List.Sublist.slnil | apply List.Sublist.cons_cons | apply List.Sublist.cons))) ?_
  rotate_left 1
  · intro W hW
    clear hW
    go_simp
    all_goals with_reducible rfl
  try simp only [nR]
  refine wpAnyH_ready (rs := [8]) (by kernel_rfl) (by simp) (AllReadyH.cons rfl ?_ AllReadyH.nil)
  intro K1 hK1
  rw [if_pos (by rfl)]
  try simp only [nR]
  refine wp_store1_sc hS _ _ _ rfl _ _ (.int _ _) rfl rfl scW rfl rfl ?_
  repeat (first | refine Turn1.here (of_decide_eq_true rfl) (of_decide_eq_true rfl) ?_)
  clear hS
  intro wW hS
  try simp only [Nat.sub_zero, Nat.add_zero, Nat.zero_add, Nat.reduceSub, Nat.add_sub_cancel_left, rg_ss] at hS
  refine hK1.out _ _ (hS.sub (by repeat (first | exact List.Sublist.slnil | apply List.Sublist.cons_cons | apply List.Sublist.cons))) (fun _ => ?_)
  clear hK1
  try simp only [nR]
  refine wpAnyH_done (by kernel_rfl) ?_ _
  try simp only [Nat.sub_zero, Nat.add_zero, Nat.zero_add, Nat.reduceSub, Nat.add_sub_cancel_left, rg_ss] at hS
  go_wp2_with fail
  go_returns
  exact ⟨rfl, hS.range (.head _), hS.touch⟩
set_option maxHeartbeats 4000000 in
theorem high_len (B P Q : Nat) (r : M.Rg) (s : Value) (b : Int) (hx : 0 ≤ r.len ∧ r.len ≤ 65535) (h0 : 0 ≤ b) (h1 : b ≤ 255) (w : World) (h : RgAt B r s w) (hP : w.cell? ⟨P, 0, none⟩ = some (.pointer (some ⟨B, 4, none⟩))) (hQ : w.cell? ⟨Q, 0, none⟩ = some (.int .u8 b)) (hPB : B ≠ P) (hQB : B ≠ Q) :
    Calls Try.prog 84 #[.pointer (some ⟨Q, 0, none⟩), .pointer (some ⟨P, 0, none⟩)] w (CloOut B { r with len := M.highW r.len b } s w) := by
  have hS := clo_st h hP hQ hPB hQB
  clear h hP hQ hPB hQB
  go_enter Try.func84, Try.ntmps84
  refine wp_region_held_drew (S := fun W => St B 0 24 w [⟨P, 0, false, #[.pointer (some ⟨B, 4, none⟩)]⟩, ⟨Q, 0, false, #[.int .u8 b]⟩] W) (by kernel_rfl) (hS.drew.sub (by repeat (first | exact List.Sublist.slnil | apply List.Sublist.cons_cons | apply List.Sublist.cons))) ?_
  intro _
  replace hS := hS.drew
  generalize World.drew _ = wX at hS ⊢
  first
    | refine wpAnyH_take (i := 0) rfl (by kernel_rfl) (by kernel_rfl) (by kernel_rfl) (fun _ _ _ h => h) (yields_one (by rfl) _ _ rfl _ _ rfl scQ _ (fun W hW => hW.cell0 (.head _) rfl)) (hS.sub (by repeat (first | exact List.Sublist.slnil | apply List.Sublist.cons_cons | apply List.Sublist.cons))) ?_
    
  try simp only [nR]
  first
    | refine wpAnyH_take (i := 1) rfl (by kernel_rfl) (by kernel_rfl) (by kernel_rfl) (fun _ _ _ h => h) (yields_one (by rfl) _ _ rfl _ _ rfl sc5 _ (fun W hW => hW.cell0 (.tail _ (.head _)) rfl)) (hS.sub (by repeat (first | exact List.Sublist.slnil | apply List.Sublist.cons_cons | apply List.Sublist.cons))) ?_
    
  try simp only [nR]
  first
    | refine wpAnyH_take (i := 2) rfl (by kernel_rfl) (by kernel_rfl) (by kernel_rfl) (fun _ _ _ h => h) (yields_one (by rfl) _ _ rfl _ _ rfl scQ _ (fun W hW => hW.cell0 (.head _) rfl)) (hS.sub (by repeat (first | exact List.Sublist.slnil | apply List.Sublist.cons_cons | apply List.Sublist.cons))) ?_
    
  try simp only [nR]
  refine wpAnyH_take (i := 3) (v := ?_) rfl (by kernel_rfl) (by kernel_rfl) (by kernel_rfl) (fun _ _ _ h => h) (Or.inl ⟨by rfl, ?_⟩) (hS.sub (by repeat (first | exact List.Sublist.slnil | apply List.Sublist.cons_cons | apply List.Sublist.cons))) ?_
  rotate_left 1
  · intro W hW
    clear hW
    go_simp
    all_goals with_reducible rfl
  try simp only [nR]
  refine wpAnyH_ready (rs := [4]) (by kernel_rfl) (by simp) (AllReadyH.cons rfl ?_ AllReadyH.nil)
  intro K1 hK1
  rw [if_pos (by rfl)]
  try simp only [nR]
  refine wp_load1_sc hS _ _ rfl _ _ rfl scW ?_
  repeat (first | refine Look.here (of_decide_eq_true rfl) rfl ?_)
  refine hK1.out _ _ (hS.sub (by repeat (first | exact List.Sublist.slnil | apply List.Sublist.cons_cons | apply List.Sublist.cons))) (fun _ => ?_)
  clear hK1
  try simp only [nR]
  refine wpAnyH_ready (rs := [5]) (by kernel_rfl) (by simp) (AllReadyH.cons rfl ?_ AllReadyH.nil)
  intro K1 hK1
  rw [if_pos (by rfl)]
  try simp only [nR]
  go_simp
  refine (lo_any r.len hx.1 hx.2 _).mono ?_
  rintro e1 v2 ⟨rfl, rfl⟩
  refine hK1.out _ _ (hS.sub (by repeat (first | exact List.Sublist.slnil | apply List.Sublist.cons_cons | apply List.Sublist.cons))) (fun _ => ?_)
  clear hK1
  try simp only [nR]
  refine wpAnyH_ready (rs := [6]) (by kernel_rfl) (by simp) (AllReadyH.cons rfl ?_ AllReadyH.nil)
  intro K1 hK1
  rw [if_pos (by rfl)]
  try simp only [nR]
  go_simp
  refine (word_any _ _ h0 h1 (by omega) (by omega) _).mono ?_
  rintro e1 v2 ⟨rfl, rfl⟩
  refine hK1.out _ _ (hS.sub (by repeat (first | exact List.Sublist.slnil | apply List.Sublist.cons_cons | apply List.Sublist.cons))) (fun _ => ?_)
  clear hK1
  try simp only [nR]
  refine wpAnyH_take (i := 7) (v := ?_) rfl (by kernel_rfl) (by kernel_rfl) (by kernel_rfl) (fun _ _ _ h => h) (Or.inl ⟨by rfl, ?_⟩) (hS.sub (by repeat (first | exact List.Sublist.slnil | apply List.Sublist.cons_cons | apply List.Sublist.cons))) ?_
  rotate_left 1
  · intro W hW
    clear hW
    go_simp
    all_goals with_reducible rfl
  try simp only [nR]
  refine wpAnyH_ready (rs := [8]) (by kernel_rfl) (by simp) (AllReadyH.cons rfl ?_ AllReadyH.nil)
  intro K1 hK1
  rw [if_pos (by rfl)]
  try simp only [nR]
  refine wp_store1_sc hS _ _ _ rfl _ _ (.int _ _) rfl rfl scW rfl rfl ?_
  repeat (first | refine Turn1.here (of_decide_eq_true rfl) (of_decide_eq_true rfl) ?_)
  clear hS
  intro wW hS
  try simp only [Nat.sub_zero, Nat.add_zero, Nat.zero_add, Nat.reduceSub, Nat.add_sub_cancel_left, rg_ss] at hS
  refine hK1.out _ _ (hS.sub (by repeat (first | exact List.Sublist.slnil | apply List.Sublist.cons_cons | apply List.Sublist.cons))) (fun _ => ?_)
  clear hK1
  try simp only [nR]
  refine wpAnyH_done (by kernel_rfl) ?_ _
  try simp only [Nat.sub_zero, Nat.add_zero, Nat.zero_add, Nat.reduceSub, Nat.add_sub_cancel_left, rg_ss] at hS
  go_wp2_with fail
  go_returns
  exact ⟨rfl, hS.range (.head _), hS.touch⟩
set_option maxHeartbeats 4000000 in
theorem high_b (B P Q : Nat) (r : M.Rg) (s : Value) (b : Int) (hx : 0 ≤ r.b ∧ r.b ≤ 65535) (h0 : 0 ≤ b) (h1 : b ≤ 255) (w : World) (h : RgAt B r s w) (hP : w.cell? ⟨P, 0, none⟩ = some (.pointer (some ⟨B, 3, none⟩))) (hQ : w.cell? ⟨Q, 0, none⟩ = some (.int .u8 b)) (hPB : B ≠ P) (hQB : B ≠ Q) :
    Calls Try.prog 84 #[.pointer (some ⟨Q, 0, none⟩), .pointer (some ⟨P, 0, none⟩)] w (CloOut B { r with b := M.highW r.b b } s w) := by
  have hS := clo_st h hP hQ hPB hQB
  clear h hP hQ hPB hQB
  go_enter Try.func84, Try.ntmps84
  refine wp_region_held_drew (S := fun W => St B 0 24 w [⟨P, 0, false, #[.pointer (some ⟨B, 3, none⟩)]⟩, ⟨Q, 0, false, #[.int .u8 b]⟩] W) (by kernel_rfl) (hS.drew.sub (by repeat (first | exact List.Sublist.slnil | apply List.Sublist.cons_cons | apply List.Sublist.cons))) ?_
  intro _
  replace hS := hS.drew
  generalize World.drew _ = wX at hS ⊢
  first
    | refine wpAnyH_take (i := 0) rfl (by kernel_rfl) (by kernel_rfl) (by kernel_rfl) (fun _ _ _ h => h) (yields_one (by rfl) _ _ rfl _ _ rfl scQ _ (fun W hW => hW.cell0 (.head _) rfl)) (hS.sub (by repeat (first | exact List.Sublist.slnil | apply List.Sublist.cons_cons | apply List.Sublist.cons))) ?_
    
  try simp only [nR]
  first
    | refine wpAnyH_take (i := 1) rfl (by kernel_rfl) (by kernel_rfl) (by kernel_rfl) (fun _ _ _ h => h) (yields_one (by rfl) _ _ rfl _ _ rfl sc5 _ (fun W hW => hW.cell0 (.tail _ (.head _)) rfl)) (hS.sub (by repeat (first | exact List.Sublist.slnil | apply List.Sublist.cons_cons | apply List.Sublist.cons))) ?_
    
  try simp only [nR]
  first
    | refine wpAnyH_take (i := 2) rfl (by kernel_rfl) (by kernel_rfl) (by kernel_rfl) (fun _ _ _ h => h) (yields_one (by rfl) _ _ rfl _ _ rfl scQ _ (fun W hW => hW.cell0 (.head _) rfl)) (hS.sub (by repeat (first | exact List.Sublist.slnil | apply List.Sublist.cons_cons | apply List.Sublist.cons))) ?_
    
  try simp only [nR]
  refine wpAnyH_take (i := 3) (v := ?_) rfl (by kernel_rfl) (by kernel_rfl) (by kernel_rfl) (fun _ _ _ h => h) (Or.inl ⟨by rfl, ?_⟩) (hS.sub (by repeat (first | exact List.Sublist.slnil | apply List.Sublist.cons_cons | apply List.Sublist.cons))) ?_
  rotate_left 1
  · intro W hW
    clear hW
    go_simp
    all_goals with_reducible rfl
  try simp only [nR]
  refine wpAnyH_ready (rs := [4]) (by kernel_rfl) (by simp) (AllReadyH.cons rfl ?_ AllReadyH.nil)
  intro K1 hK1
  rw [if_pos (by rfl)]
  try simp only [nR]
  refine wp_load1_sc hS _ _ rfl _ _ rfl scW ?_
  repeat (first | refine Look.here (of_decide_eq_true rfl) rfl ?_)
  refine hK1.out _ _ (hS.sub (by repeat (first | exact List.Sublist.slnil | apply List.Sublist.cons_cons | apply List.Sublist.cons))) (fun _ => ?_)
  clear hK1
  try simp only [nR]
  refine wpAnyH_ready (rs := [5]) (by kernel_rfl) (by simp) (AllReadyH.cons rfl ?_ AllReadyH.nil)
  intro K1 hK1
  rw [if_pos (by rfl)]
  try simp only [nR]
  go_simp
  refine (lo_any r.b hx.1 hx.2 _).mono ?_
  rintro e1 v2 ⟨rfl, rfl⟩
  refine hK1.out _ _ (hS.sub (by repeat (first | exact List.Sublist.slnil | apply List.Sublist.cons_cons | apply List.Sublist.cons))) (fun _ => ?_)
  clear hK1
  try simp only [nR]
  refine wpAnyH_ready (rs := [6]) (by kernel_rfl) (by simp) (AllReadyH.cons rfl ?_ AllReadyH.nil)
  intro K1 hK1
  rw [if_pos (by rfl)]
  try simp only [nR]
  go_simp
  refine (word_any _ _ h0 h1 (by omega) (by omega) _).mono ?_
  rintro e1 v2 ⟨rfl, rfl⟩
  refine hK1.out _ _ (hS.sub (by repeat (first | exact List.Sublist.slnil | apply List.Sublist.cons_cons | apply List.Sublist.cons))) (fun _ => ?_)
  clear hK1
  try simp only [nR]
  refine wpAnyH_take (i := 7) (v := ?_) rfl (by kernel_rfl) (by kernel_rfl) (by kernel_rfl) (fun _ _ _ h => h) (Or.inl ⟨by rfl, ?_⟩) (hS.sub (by repeat (first | exact List.Sublist.slnil | apply List.Sublist.cons_cons | apply List.Sublist.cons))) ?_
  rotate_left 1
  · intro W hW
    clear hW
    go_simp
    all_goals with_reducible rfl
  try simp only [nR]
  refine wpAnyH_ready (rs := [8]) (by kernel_rfl) (by simp) (AllReadyH.cons rfl ?_ AllReadyH.nil)
  intro K1 hK1
  rw [if_pos (by rfl)]
  try simp only [nR]
  refine wp_store1_sc hS _ _ _ rfl _ _ (.int _ _) rfl rfl scW rfl rfl ?_
  repeat (first | refine Turn1.here (of_decide_eq_true rfl) (of_decide_eq_true rfl) ?_)
  clear hS
  intro wW hS
  try simp only [Nat.sub_zero, Nat.add_zero, Nat.zero_add, Nat.reduceSub, Nat.add_sub_cancel_left, rg_ss] at hS
  refine hK1.out _ _ (hS.sub (by repeat (first | exact List.Sublist.slnil | apply List.Sublist.cons_cons | apply List.Sublist.cons))) (fun _ => ?_)
  clear hK1
  try simp only [nR]
  refine wpAnyH_done (by kernel_rfl) ?_ _
  try simp only [Nat.sub_zero, Nat.add_zero, Nat.zero_add, Nat.reduceSub, Nat.add_sub_cancel_left, rg_ss] at hS
  go_wp2_with fail
  go_returns
  exact ⟨rfl, hS.range (.head _), hS.touch⟩
set_option maxHeartbeats 4000000 in
theorem whole_mask (B P Q : Nat) (r : M.Rg) (s : Value) (b : Int) (h0 : 0 ≤ b) (h1 : b ≤ 255) (w : World) (h : RgAt B r s w) (hP : w.cell? ⟨P, 0, none⟩ = some (.pointer (some ⟨B, 11, none⟩))) (hQ : w.cell? ⟨Q, 0, none⟩ = some (.int .u8 b)) (hPB : B ≠ P) (hQB : B ≠ Q) :
    Calls Try.prog 86 #[.pointer (some ⟨Q, 0, none⟩), .pointer (some ⟨P, 0, none⟩)] w (CloOut B { r with mask := b } s w) := by
  have hS := clo_st h hP hQ hPB hQB
  clear h hP hQ hPB hQB
  go_enter Try.func86, Try.ntmps86
  go_wp2_with (first
  | ((with_reducible first | refine to_load 108 rfl ?_); refine Wl_load1 hS (fun _ => by rfl) _ _ rfl (by first | exact scB) ?_; (repeat (first | refine Look.here (of_decide_eq_true rfl) rfl ?_ | refine Look.next ?_)); (with_reducible show wpList _ _ _ _ _ _); simp only [nA])
  | ((with_reducible first | refine to_load 5 rfl ?_ ); refine Wl_load1 hS (fun _ => by rfl) _ _ rfl (scT _ rfl) ?_; (repeat (first | refine Look.here (of_decide_eq_true rfl) rfl ?_ | refine Look.next ?_)); (with_reducible show wpList _ _ _ _ _ _); simp only [nA])
  | ((with_reducible first | refine to_store 5 rfl ?_ ); (first | refine Wl_store1 hS (fun _ => by rfl) _ _ (.int _ _) rfl rfl (scT _ rfl) rfl rfl ?_ ); (repeat (first | refine Turn1.here (of_decide_eq_true rfl) (of_decide_eq_true rfl) ?_)); clear hS; intro wW hS; (try simp only [nA]); try simp only [Nat.sub_zero, Nat.add_zero, Nat.zero_add, Nat.reduceSub, Nat.add_sub_cancel_left, rg_ss] at hS))
  go_returns
  exact ⟨rfl, hS.range (.head _), hS.touch⟩
set_option maxHeartbeats 4000000 in
theorem whole_mat (B P Q : Nat) (r : M.Rg) (s : Value) (b : Int) (h0 : 0 ≤ b) (h1 : b ≤ 255) (w : World) (h : RgAt B r s w) (hP : w.cell? ⟨P, 0, none⟩ = some (.pointer (some ⟨B, 12, none⟩))) (hQ : w.cell? ⟨Q, 0, none⟩ = some (.int .u8 b)) (hPB : B ≠ P) (hQB : B ≠ Q) :
    Calls Try.prog 86 #[.pointer (some ⟨Q, 0, none⟩), .pointer (some ⟨P, 0, none⟩)] w (CloOut B { r with mat := b } s w) := by
  have hS := clo_st h hP hQ hPB hQB
  clear h hP hQ hPB hQB
  go_enter Try.func86, Try.ntmps86
  go_wp2_with (first
  | ((with_reducible first | refine to_load 108 rfl ?_); refine Wl_load1 hS (fun _ => by rfl) _ _ rfl (by first | exact scB) ?_; (repeat (first | refine Look.here (of_decide_eq_true rfl) rfl ?_ | refine Look.next ?_)); (with_reducible show wpList _ _ _ _ _ _); simp only [nA])
  | ((with_reducible first | refine to_load 5 rfl ?_ ); refine Wl_load1 hS (fun _ => by rfl) _ _ rfl (scT _ rfl) ?_; (repeat (first | refine Look.here (of_decide_eq_true rfl) rfl ?_ | refine Look.next ?_)); (with_reducible show wpList _ _ _ _ _ _); simp only [nA])
  | ((with_reducible first | refine to_store 5 rfl ?_ ); (first | refine Wl_store1 hS (fun _ => by rfl) _ _ (.int _ _) rfl rfl (scT _ rfl) rfl rfl ?_ ); (repeat (first | refine Turn1.here (of_decide_eq_true rfl) (of_decide_eq_true rfl) ?_)); clear hS; intro wW hS; (try simp only [nA]); try simp only [Nat.sub_zero, Nat.add_zero, Nat.zero_add, Nat.reduceSub, Nat.add_sub_cancel_left, rg_ss] at hS))
  go_returns
  exact ⟨rfl, hS.range (.head _), hS.touch⟩
set_option maxHeartbeats 4000000 in
theorem whole_pulse (B P Q : Nat) (r : M.Rg) (s : Value) (b : Int) (h0 : 0 ≤ b) (h1 : b ≤ 255) (w : World) (h : RgAt B r s w) (hP : w.cell? ⟨P, 0, none⟩ = some (.pointer (some ⟨B, 16, none⟩))) (hQ : w.cell? ⟨Q, 0, none⟩ = some (.int .u8 b)) (hPB : B ≠ P) (hQB : B ≠ Q) :
    Calls Try.prog 86 #[.pointer (some ⟨Q, 0, none⟩), .pointer (some ⟨P, 0, none⟩)] w (CloOut B { r with pulse := b } s w) := by
  have hS := clo_st h hP hQ hPB hQB
  clear h hP hQ hPB hQB
  go_enter Try.func86, Try.ntmps86
  go_wp2_with (first
  | ((with_reducible first | refine to_load 108 rfl ?_); refine Wl_load1 hS (fun _ => by rfl) _ _ rfl (by first | exact scB) ?_; (repeat (first | refine Look.here (of_decide_eq_true rfl) rfl ?_ | refine Look.next ?_)); (with_reducible show wpList _ _ _ _ _ _); simp only [nA])
  | ((with_reducible first | refine to_load 5 rfl ?_ ); refine Wl_load1 hS (fun _ => by rfl) _ _ rfl (scT _ rfl) ?_; (repeat (first | refine Look.here (of_decide_eq_true rfl) rfl ?_ | refine Look.next ?_)); (with_reducible show wpList _ _ _ _ _ _); simp only [nA])
  | ((with_reducible first | refine to_store 5 rfl ?_ ); (first | refine Wl_store1 hS (fun _ => by rfl) _ _ (.int _ _) rfl rfl (scT _ rfl) rfl rfl ?_ ); (repeat (first | refine Turn1.here (of_decide_eq_true rfl) (of_decide_eq_true rfl) ?_)); clear hS; intro wW hS; (try simp only [nA]); try simp only [Nat.sub_zero, Nat.add_zero, Nat.zero_add, Nat.reduceSub, Nat.add_sub_cancel_left, rg_ss] at hS))
  go_returns
  exact ⟨rfl, hS.range (.head _), hS.touch⟩
set_option maxHeartbeats 4000000 in
theorem whole_vec (B P Q : Nat) (r : M.Rg) (s : Value) (b : Int) (h0 : 0 ≤ b) (h1 : b ≤ 255) (w : World) (h : RgAt B r s w) (hP : w.cell? ⟨P, 0, none⟩ = some (.pointer (some ⟨B, 17, none⟩))) (hQ : w.cell? ⟨Q, 0, none⟩ = some (.int .u8 b)) (hPB : B ≠ P) (hQB : B ≠ Q) :
    Calls Try.prog 86 #[.pointer (some ⟨Q, 0, none⟩), .pointer (some ⟨P, 0, none⟩)] w (CloOut B { r with vec := b } s w) := by
  have hS := clo_st h hP hQ hPB hQB
  clear h hP hQ hPB hQB
  go_enter Try.func86, Try.ntmps86
  go_wp2_with (first
  | ((with_reducible first | refine to_load 108 rfl ?_); refine Wl_load1 hS (fun _ => by rfl) _ _ rfl (by first | exact scB) ?_; (repeat (first | refine Look.here (of_decide_eq_true rfl) rfl ?_ | refine Look.next ?_)); (with_reducible show wpList _ _ _ _ _ _); simp only [nA])
  | ((with_reducible first | refine to_load 5 rfl ?_ ); refine Wl_load1 hS (fun _ => by rfl) _ _ rfl (scT _ rfl) ?_; (repeat (first | refine Look.here (of_decide_eq_true rfl) rfl ?_ | refine Look.next ?_)); (with_reducible show wpList _ _ _ _ _ _); simp only [nA])
  | ((with_reducible first | refine to_store 5 rfl ?_ ); (first | refine Wl_store1 hS (fun _ => by rfl) _ _ (.int _ _) rfl rfl (scT _ rfl) rfl rfl ?_ ); (repeat (first | refine Turn1.here (of_decide_eq_true rfl) (of_decide_eq_true rfl) ?_)); clear hS; intro wW hS; (try simp only [nA]); try simp only [Nat.sub_zero, Nat.add_zero, Nat.zero_add, Nat.reduceSub, Nat.add_sub_cancel_left, rg_ss] at hS))
  go_returns
  exact ⟨rfl, hS.range (.head _), hS.touch⟩
set_option maxHeartbeats 4000000 in
theorem timed_atime (B P Q : Nat) (r : M.Rg) (s : Value) (b : Int) (h0 : 0 ≤ b) (h1 : b ≤ 255) (w : World) (h : RgAt B r s w) (hP : w.cell? ⟨P, 0, none⟩ = some (.pointer (some ⟨B, 0, none⟩))) (hQ : w.cell? ⟨Q, 0, none⟩ = some (.int .u8 b)) (hPB : B ≠ P) (hQB : B ≠ Q) :
    Calls Try.prog 87 #[.pointer (some ⟨Q, 0, none⟩), .pointer (some ⟨P, 0, none⟩)] w (CloOut B { r with atime := M.rTime b } s w) := by
  have hS := clo_st h hP hQ hPB hQB
  clear h hP hQ hPB hQB
  go_enter Try.func87, Try.ntmps87
  refine wp_region_held_drew (S := fun W => St B 0 24 w [⟨P, 0, false, #[.pointer (some ⟨B, 0, none⟩)]⟩, ⟨Q, 0, false, #[.int .u8 b]⟩] W) (by kernel_rfl) (hS.drew.sub (by repeat (first | exact List.Sublist.slnil | apply List.Sublist.cons_cons | apply List.Sublist.cons))) ?_
  intro _
  replace hS := hS.drew
  generalize World.drew _ = wX at hS ⊢
  first
    | refine wpAnyH_take (i := 0) rfl (by kernel_rfl) (by kernel_rfl) (by kernel_rfl) (fun _ _ _ h => h) (yields_one (by rfl) _ _ rfl _ _ rfl scP _ (fun W hW => hW.cell0 (.head _) rfl)) (hS.sub (by repeat (first | exact List.Sublist.slnil | apply List.Sublist.cons_cons | apply List.Sublist.cons))) ?_
    
  try simp only [nR]
  first
    | refine wpAnyH_take (i := 1) rfl (by kernel_rfl) (by kernel_rfl) (by kernel_rfl) (fun _ _ _ h => h) (yields_one (by rfl) _ _ rfl _ _ rfl sc5 _ (fun W hW => hW.cell0 (.tail _ (.head _)) rfl)) (hS.sub (by repeat (first | exact List.Sublist.slnil | apply List.Sublist.cons_cons | apply List.Sublist.cons))) ?_
    
  try simp only [nR]
  refine wpAnyH_ready (rs := [2]) (by kernel_rfl) (by simp) (AllReadyH.cons rfl ?_ AllReadyH.nil)
  intro K1 hK1
  rw [if_pos (by rfl)]
  try simp only [nR]
  go_simp
  refine (timed_any b h0 h1 _).mono ?_
  rintro e1 v2 ⟨rfl, rfl⟩
  refine hK1.out _ _ (hS.sub (by repeat (first | exact List.Sublist.slnil | apply List.Sublist.cons_cons | apply List.Sublist.cons))) (fun _ => ?_)
  clear hK1
  try simp only [nR]
  refine wpAnyH_take (i := 3) (v := ?_) rfl (by kernel_rfl) (by kernel_rfl) (by kernel_rfl) (fun _ _ _ h => h) (Or.inl ⟨by rfl, ?_⟩) (hS.sub (by repeat (first | exact List.Sublist.slnil | apply List.Sublist.cons_cons | apply List.Sublist.cons))) ?_
  rotate_left 1
  · intro W hW
    clear hW
    go_simp
    all_goals with_reducible rfl
  try simp only [nR]
  refine wpAnyH_take (i := 4) (v := ?_) rfl (by kernel_rfl) (by kernel_rfl) (by kernel_rfl) (fun _ _ _ h => h) (Or.inl ⟨by rfl, ?_⟩) (hS.sub (by repeat (first | exact List.Sublist.slnil | apply List.Sublist.cons_cons | apply List.Sublist.cons))) ?_
  rotate_left 1
  · intro W hW
    clear hW
    go_simp
    all_goals with_reducible rfl
  try simp only [nR]
  refine wpAnyH_ready (rs := [5]) (by kernel_rfl) (by simp) (AllReadyH.cons rfl ?_ AllReadyH.nil)
  intro K1 hK1
  rw [if_pos (by rfl)]
  try simp only [nR]
  refine wp_store1_sc hS _ _ _ rfl _ _ (.int _ _) rfl rfl sc3 rfl rfl ?_
  repeat (first | refine Turn1.here (of_decide_eq_true rfl) (of_decide_eq_true rfl) ?_)
  clear hS
  intro wW hS
  try simp only [Nat.sub_zero, Nat.add_zero, Nat.zero_add, Nat.reduceSub, Nat.add_sub_cancel_left, rg_ss] at hS
  refine hK1.out _ _ (hS.sub (by repeat (first | exact List.Sublist.slnil | apply List.Sublist.cons_cons | apply List.Sublist.cons))) (fun _ => ?_)
  clear hK1
  try simp only [nR]
  refine wpAnyH_done (by kernel_rfl) ?_ _
  try simp only [Nat.sub_zero, Nat.add_zero, Nat.zero_add, Nat.reduceSub, Nat.add_sub_cancel_left, rg_ss] at hS
  go_wp2_with fail
  go_returns
  exact ⟨rfl, hS.range (.head _), hS.touch⟩
set_option maxHeartbeats 4000000 in
theorem timed_btime (B P Q : Nat) (r : M.Rg) (s : Value) (b : Int) (h0 : 0 ≤ b) (h1 : b ≤ 255) (w : World) (h : RgAt B r s w) (hP : w.cell? ⟨P, 0, none⟩ = some (.pointer (some ⟨B, 0, none⟩))) (hQ : w.cell? ⟨Q, 0, none⟩ = some (.int .u8 b)) (hPB : B ≠ P) (hQB : B ≠ Q) :
    Calls Try.prog 89 #[.pointer (some ⟨Q, 0, none⟩), .pointer (some ⟨P, 0, none⟩)] w (CloOut B { r with btime := M.rTime b } s w) := by
  have hS := clo_st h hP hQ hPB hQB
  clear h hP hQ hPB hQB
  go_enter Try.func89, Try.ntmps89
  refine wp_region_held_drew (S := fun W => St B 0 24 w [⟨P, 0, false, #[.pointer (some ⟨B, 0, none⟩)]⟩, ⟨Q, 0, false, #[.int .u8 b]⟩] W) (by kernel_rfl) (hS.drew.sub (by repeat (first | exact List.Sublist.slnil | apply List.Sublist.cons_cons | apply List.Sublist.cons))) ?_
  intro _
  replace hS := hS.drew
  generalize World.drew _ = wX at hS ⊢
  first
    | refine wpAnyH_take (i := 0) rfl (by kernel_rfl) (by kernel_rfl) (by kernel_rfl) (fun _ _ _ h => h) (yields_one (by rfl) _ _ rfl _ _ rfl scP _ (fun W hW => hW.cell0 (.head _) rfl)) (hS.sub (by repeat (first | exact List.Sublist.slnil | apply List.Sublist.cons_cons | apply List.Sublist.cons))) ?_
    
  try simp only [nR]
  first
    | refine wpAnyH_take (i := 1) rfl (by kernel_rfl) (by kernel_rfl) (by kernel_rfl) (fun _ _ _ h => h) (yields_one (by rfl) _ _ rfl _ _ rfl sc5 _ (fun W hW => hW.cell0 (.tail _ (.head _)) rfl)) (hS.sub (by repeat (first | exact List.Sublist.slnil | apply List.Sublist.cons_cons | apply List.Sublist.cons))) ?_
    
  try simp only [nR]
  refine wpAnyH_ready (rs := [2]) (by kernel_rfl) (by simp) (AllReadyH.cons rfl ?_ AllReadyH.nil)
  intro K1 hK1
  rw [if_pos (by rfl)]
  try simp only [nR]
  go_simp
  refine (timed_any b h0 h1 _).mono ?_
  rintro e1 v2 ⟨rfl, rfl⟩
  refine hK1.out _ _ (hS.sub (by repeat (first | exact List.Sublist.slnil | apply List.Sublist.cons_cons | apply List.Sublist.cons))) (fun _ => ?_)
  clear hK1
  try simp only [nR]
  refine wpAnyH_take (i := 3) (v := ?_) rfl (by kernel_rfl) (by kernel_rfl) (by kernel_rfl) (fun _ _ _ h => h) (Or.inl ⟨by rfl, ?_⟩) (hS.sub (by repeat (first | exact List.Sublist.slnil | apply List.Sublist.cons_cons | apply List.Sublist.cons))) ?_
  rotate_left 1
  · intro W hW
    clear hW
    go_simp
    all_goals with_reducible rfl
  try simp only [nR]
  refine wpAnyH_take (i := 4) (v := ?_) rfl (by kernel_rfl) (by kernel_rfl) (by kernel_rfl) (fun _ _ _ h => h) (Or.inl ⟨by rfl, ?_⟩) (hS.sub (by repeat (first | exact List.Sublist.slnil | apply List.Sublist.cons_cons | apply List.Sublist.cons))) ?_
  rotate_left 1
  · intro W hW
    clear hW
    go_simp
    all_goals with_reducible rfl
  try simp only [nR]
  refine wpAnyH_ready (rs := [5]) (by kernel_rfl) (by simp) (AllReadyH.cons rfl ?_ AllReadyH.nil)
  intro K1 hK1
  rw [if_pos (by rfl)]
  try simp only [nR]
  refine wp_store1_sc hS _ _ _ rfl _ _ (.int _ _) rfl rfl sc3 rfl rfl ?_
  repeat (first | refine Turn1.here (of_decide_eq_true rfl) (of_decide_eq_true rfl) ?_)
  clear hS
  intro wW hS
  try simp only [Nat.sub_zero, Nat.add_zero, Nat.zero_add, Nat.reduceSub, Nat.add_sub_cancel_left, rg_ss] at hS
  refine hK1.out _ _ (hS.sub (by repeat (first | exact List.Sublist.slnil | apply List.Sublist.cons_cons | apply List.Sublist.cons))) (fun _ => ?_)
  clear hK1
  try simp only [nR]
  refine wpAnyH_done (by kernel_rfl) ?_ _
  try simp only [Nat.sub_zero, Nat.add_zero, Nat.zero_add, Nat.reduceSub, Nat.add_sub_cancel_left, rg_ss] at hS
  go_wp2_with fail
  go_returns
  exact ⟨rfl, hS.range (.head _), hS.touch⟩
set_option maxHeartbeats 4000000 in
theorem readm (B P Q : Nat) (r : M.Rg) (s : Value) (b : Int) (h0 : 0 ≤ b) (h1 : b ≤ 255) (w : World) (h : RgAt B r s w) (hP : w.cell? ⟨P, 0, none⟩ = some (.pointer (some ⟨B, 0, none⟩))) (hQ : w.cell? ⟨Q, 0, none⟩ = some (.int .u8 b)) (hPB : B ≠ P) (hQB : B ≠ Q) :
    Calls Try.prog 93 #[.pointer (some ⟨Q, 0, none⟩), .pointer (some ⟨P, 0, none⟩)] w (CloOut B { r with rmask := b % 128 } s w) := by
  have hS := clo_st h hP hQ hPB hQB
  have e := M.and127 b h0 h1
  clear h hP hQ hPB hQB
  go_enter Try.func93, Try.ntmps93
  go_wp2_with (first
  | ((with_reducible first | refine to_load 104 rfl ?_); refine Wl_load1 hS (fun _ => by rfl) _ _ rfl (by first | exact scP) ?_; (repeat (first | refine Look.here (of_decide_eq_true rfl) rfl ?_ | refine Look.next ?_)); (with_reducible show wpList _ _ _ _ _ _); simp only [nA])
  | ((with_reducible first | refine to_load 5 rfl ?_ ); refine Wl_load1 hS (fun _ => by rfl) _ _ rfl (scT _ rfl) ?_; (repeat (first | refine Look.here (of_decide_eq_true rfl) rfl ?_ | refine Look.next ?_)); (with_reducible show wpList _ _ _ _ _ _); simp only [nA])
  | ((with_reducible first | refine to_store 5 rfl ?_ ); (first | refine Wl_store1 hS (fun _ => by rfl) _ _ (.int _ _) rfl rfl (scT _ rfl) rfl rfl ?_ ); (repeat (first | refine Turn1.here (of_decide_eq_true rfl) (of_decide_eq_true rfl) ?_)); clear hS; intro wW hS; (try simp only [nA]); try simp only [Nat.sub_zero, Nat.add_zero, Nat.zero_add, Nat.reduceSub, Nat.add_sub_cancel_left, rg_ss] at hS))
  go_returns
  exact ⟨rfl, hS.range (.head _), hS.touch⟩
/-! what makes them -/
theorem mk1 (B j Q : Nat) (w : World) : Calls Try.prog 80 #[.pointer (some ⟨B, j, none⟩), .pointer (some ⟨Q, 0, none⟩)] w fun e w' => e = .returned (.func (.func 81) #[] #[.pointer (some ⟨w.heap.size, 0, none⟩), .pointer (some ⟨Q, 0, none⟩)]) ∧ w.alloc (.cells #[.pointer (some ⟨B, j, none⟩)] 64) = w' := by
  go_enter Try.func80, Try.ntmps80
  go_wp2
  go_ret
  exact ⟨rfl, rfl⟩
theorem mk2 (B j Q : Nat) (w : World) : Calls Try.prog 83 #[.pointer (some ⟨B, j, none⟩), .pointer (some ⟨Q, 0, none⟩)] w fun e w' => e = .returned (.func (.func 84) #[] #[.pointer (some ⟨Q, 0, none⟩), .pointer (some ⟨w.heap.size, 0, none⟩)]) ∧ w.alloc (.cells #[.pointer (some ⟨B, j, none⟩)] 64) = w' := by
  go_enter Try.func83, Try.ntmps83
  go_wp2
  go_ret
  exact ⟨rfl, rfl⟩
theorem mk3 (B j Q : Nat) (w : World) : Calls Try.prog 85 #[.pointer (some ⟨B, j, none⟩), .pointer (some ⟨Q, 0, none⟩)] w fun e w' => e = .returned (.func (.func 86) #[] #[.pointer (some ⟨Q, 0, none⟩), .pointer (some ⟨w.heap.size, 0, none⟩)]) ∧ w.alloc (.cells #[.pointer (some ⟨B, j, none⟩)] 108) = w' := by
  go_enter Try.func85, Try.ntmps85
  go_wp2
  go_ret
  exact ⟨rfl, rfl⟩
end Go.Proofs.Ytkkkjdbcckaedaa
