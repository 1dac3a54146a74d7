/- The program's take (dmareg), by its contract. -/
import Derived.Test.YtkkkjdbcckaedaaRgClo6
import Derived.Test.YtkkkjdbcckaedaaRgR6
import Derived.Test.YtkkkjdbcckaedaaRgRef2
namespace Go.Proofs.Ytkkkjdbcckaedaa
open Go.RowKit
set_option linter.unusedVariables false
set_option linter.unusedSimpArgs false
set_option maxRecDepth 100000
section
variable {B o n : Nat} {w W W' : World} {es : List Ent}
theorem St.ne {x y : Ent} (h : St B o n w [x, y] W) (hx : x.fr = true) (hx0 : x.q = 0) (hy0 : y.q = 0) (hx1 : x.cs.size ≠ 0) (hy1 : y.cs.size ≠ 0) : x.b ≠ y.b := by
  have := (List.pairwise_cons.1 h.sep).1 y (.head _) (.inl hx)
  rcases this with k | k | k
  · exact k
  · omega
  · omega
end
section
variable {P : Program} {ops : Array Oper} {rest : List Oper} {a : Act} {Q : Exit → Act → World → Prop} {B o n : Nat} {w W : World} {es : List Ent} {dst : Option Tmp} {ty t : TypeId} {pos : String} {aft : Array Edge}
theorem to_mkmap (h : Wl P ops Q ({ dst := dst, op := .makeMap t none, type := ty, pos := pos, after := aft, guard := none } :: rest) a W) : wpList P ops Q ({ dst := dst, op := .makeMap t none, type := ty, pos := pos, after := aft, guard := none } :: rest) a W := h.of
theorem Wl_mkmap (hS : St B o n w es W) (h : ∀ m W', w.heap.size ≤ m → W'.heap[m]? = some (.map #[] 0) → St B o n w es W' → wpList P ops Q rest (a.put dst (.map (some m))) W') :
    Wl P ops Q ({ dst := dst, op := .makeMap t none, type := ty, pos := pos, after := aft, guard := none } :: rest) a W := by
  refine Wl.mk (wpList_plain rfl fun K' hK' => ?_)
  unfold Oper.wp execOp
  simp only [run_makeMap, Sem.run_bind, Sem.run_pure, Result.andThen_ok]
  exact hK' _ _ (h _ _ hS.size (by simp) (hS.call ((Below.refl _ _).alloc (Nat.le_refl _) _)))
theorem run_look1 {P : Program} (w : World) (t k e : TypeId) (q : IntKind) (b clock : Nat) (es : Array MapEntry) (n : Int) (i : Nat) (v : Value) (ht : P.underlying t = some (.map k e)) (hk : P.underlying k = some (.int q))
    (hb : w.heap[b]? = some (.map es clock)) (hf : Instr.findNow (.int q) (.int q n) es.toList 0 = some (some (i, v))) :
    (Instr.lookup t (.map (some b)) (.int q n) false).run P w = .ok v w := by
  have hc : ∀ em, (Instr.checkKey em 10000 k (.int q n)).run P w = .ok () w := fun em => MapKept.run_checkKey (k := .int q n) hk (by simp [MapKept.IsKey]) em 9999
  simp [Instr.lookup, run_underlying ht, MapKept.run_getObj_map hb, hc, MapKept.run_findKey hk hf, Result.andThen]
theorem run_miss1 {P : Program} (w : World) (t k e : TypeId) (q : IntKind) (b clock : Nat) (es : Array MapEntry) (n : Int) (z : Value) (ht : P.underlying t = some (.map k e)) (hk : P.underlying k = some (.int q))
    (hb : w.heap[b]? = some (.map es clock)) (hf : Instr.findNow (.int q) (.int q n) es.toList 0 = some none) (hz : (zeroValue e).run P w = .ok z w) :
    (Instr.lookup t (.map (some b)) (.int q n) false).run P w = .ok z w := by
  have hc : ∀ em, (Instr.checkKey em 10000 k (.int q n)).run P w = .ok () w := fun em => MapKept.run_checkKey (k := .int q n) hk (by simp [MapKept.IsKey]) em 9999
  simp [Instr.lookup, run_underlying ht, MapKept.run_getObj_map hb, hc, MapKept.run_findKey hk hf, hz, Result.andThen]
theorem wpList_look1 {m x : Operand} {w : World} (k e : TypeId) (q : IntKind) (ht : P.underlying t = some (.map k e)) (hk : P.underlying k = some (.int q)) (b clock : Nat) (es : Array MapEntry)
    (hm : a.eval m = .map (some b)) (hb : w.heap[b]? = some (.map es clock)) (n : Int) (hx : a.eval x = .int q n) (i : Nat) (v : Value)
    (hf : Instr.findNow (.int q) (.int q n) es.toList 0 = some (some (i, v)))
    (hK : wpList P ops Q rest (a.put dst v) w) : wpList P ops Q ({ dst := dst, op := .lookup t m x false, type := ty, pos := pos, after := aft, guard := none } :: rest) a w := by
  refine wpList_plain rfl fun K' hK' => ?_
  have hrun := run_look1 w t k e q b clock es n i v ht hk hb hf
  unfold Oper.wp
  simp [execOp, hm, hx, hrun, Result.andThen]
  exact hK' _ _ hK
theorem wpList_miss1 {m x : Operand} {w : World} (k e : TypeId) (q : IntKind) (ht : P.underlying t = some (.map k e)) (hk : P.underlying k = some (.int q)) (b clock : Nat) (es : Array MapEntry)
    (hm : a.eval m = .map (some b)) (hb : w.heap[b]? = some (.map es clock)) (n : Int) (hx : a.eval x = .int q n) (z : Value)
    (hf : Instr.findNow (.int q) (.int q n) es.toList 0 = some none) (hz : (zeroValue e).run P w = .ok z w)
    (hK : wpList P ops Q rest (a.put dst z) w) : wpList P ops Q ({ dst := dst, op := .lookup t m x false, type := ty, pos := pos, after := aft, guard := none } :: rest) a w := by
  refine wpList_plain rfl fun K' hK' => ?_
  have hrun := run_miss1 w t k e q b clock es n z ht hk hb hf hz
  unfold Oper.wp
  simp [execOp, hm, hx, hrun, Result.andThen]
  exact hK' _ _ hK
theorem is_look1 {m x : Operand} {w : World}
    (h : wpList P ops Q ({ dst := dst, op := .lookup t m x false, type := ty, pos := pos, after := aft, guard := none } :: rest) a w) : wpList P ops Q ({ dst := dst, op := .lookup t m x false, type := ty, pos := pos, after := aft, guard := none } :: rest) a w := h
end
theorem umap : Try.prog.underlying 112 = some (.map 3 1) := by kernel_rfl
theorem uint' : Try.prog.underlying 3 = some (.int .i64) := by kernel_rfl
theorem zfn (w : World) : (zeroValue 1).run Try.prog w = .ok .nilFunc w := by kernel_rfl
theorem fneq (W : World) (f : FuncId) (cs : Array Value) : (binOp .neq 1 (.func (.func f) #[] cs) .nilFunc).run Try.prog W = .ok (.bool true) W := by kernel_rfl
theorem fneq0 (W : World) : (binOp .neq 1 .nilFunc .nilFunc).run Try.prog W = .ok (.bool false) W := by kernel_rfl
theorem St.knw {B o n b q : Nat} {w W : World} {es : List Ent} {v : Value} (h : St B o n w es W) (hc : W.cell? ⟨b, q + 0, none⟩ = some v) (hne : ∀ y, y ∈ es → y.fr = true → y.b ≠ b) : St B o n w (es ++ [⟨b, q, false, #[v]⟩]) W :=
  h.snoc rfl (World.block_lt_of_cell? W _ hc) (fun j u hu => by
    match j with
    | 0 => simp at hu; subst hu; exact hc
    | j + 1 => simp at hu) (fun y hy hf => .inl (hne y hy hf))
set_option maxHeartbeats 40000000 in
theorem dtake_any (B : Nat) (r : M.Rg) (hr : r.ok) (k : Int) (rest : List Int) (hL : rest.length ≤ 9000) (bq q c : Nat) (b : Int) (h0 : 0 ≤ b) (h1 : b ≤ 255) (w : World) (hat : RgAt B r (.slice (some ⟨bq, q, none⟩) (rest.length + 1) c) w)
    (r1 : Ls 0 w (.slice (some ⟨bq, q, none⟩) (rest.length + 1) c) (ints .i64 (k :: rest))) (hd : B ≠ bq) :
    Calls Try.prog 69 #[.pointer (some ⟨B, 0, none⟩), .int .u8 b] w (RgOut B (M.rTake r b k rest) (.tuple #[]) w) := by
  obtain ⟨b', q', c', hs, h2, h3, hcell⟩ := r1.at_ (i := 0) (by simp)
  simp only [Value.slice.injEq, Option.some.injEq, Addr.mk.injEq, List.length_cons] at hs h3
  obtain ⟨⟨rfl, rfl, -⟩, -, rfl⟩ := hs
  have hB := hat.lt
  have hS := hat.st.knw hcell (fun y hy _ => by rcases List.mem_singleton.1 hy with rfl; exact hd)
  simp only [List.getD_cons_zero, List.cons_append, List.nil_append] at hS
  clear hcell h2 hat
  have hL9 := hL
  replace hL : rest.length ≤ 10000 := by omega
  have hc1 : (1 : Int) ≤ ((rest.length : Nat) : Int) + 1 := by omega
  have hc2 : ((rest.length : Nat) : Int) + 1 ≤ (c : Int) := by omega
  obtain ⟨q2, hq2⟩ : ∃ q2 : Nat, q2 = if c = 1 then q else q + 1 := ⟨_, rfl⟩
  have hTT : Ls 0 w (.slice (some ⟨bq, q2, none⟩) rest.length (c - 1)) (ints .i64 rest) := by
    by_cases hcc : c = 1
    · have hrr : rest = [] := List.eq_nil_of_length_eq_zero (by omega)
      subst hrr
      exact Ls.nil _ _ _ _ (by rw [hcc]; exact Nat.zero_le _)
    · rw [hq2, if_neg hcc]
      exact r1.tail
  have hne : ∀ e, e ∈ entL (.slice (some ⟨bq, q2, none⟩) rest.length (c - 1)) (ints .i64 rest) → B ≠ e.b := fun e he => by
    by_cases hv : ints .i64 rest = []
    · rw [hv, entL_nil] at he; cases he
    · rw [entL_cons _ _ _ _ hv] at he
      rcases List.mem_singleton.1 he with rfl
      exact hd
  replace hS := hS.plus (fun e he => (hTT.ent e he).2) (fun e he y hy hf => .inl (by
    simp only [List.mem_cons, List.not_mem_nil, or_false] at hy
    rcases hy with rfl | rfl
    · exact hne e he
    · cases hf))
  simp only [List.cons_append, List.nil_append] at hS
  have hshT := hTT.shp
  have HQ := Lib.hid hq2
  clear hTT hne hq2 r1
  go_enter Try.func69, Try.ntmps69
  go_wp2_with (first
  | ((with_reducible refine to_boxT 104 rfl ?_); refine Wl_box1 hS (fun _ => by rfl) (.pointer _) rfl rfl ?_; clear hS; intro b2 wW hS; simp only [nA])
  | ((with_reducible refine to_boxT 5 rfl ?_); refine Wl_box1 hS (fun _ => by rfl) (.int _ _) rfl rfl ?_; clear hS; intro b3 wW hS; simp only [nA])
  | ((with_reducible refine to_load 104 rfl ?_); refine Wl_load1 hS (fun _ => by rfl) _ _ rfl scP ?_; (repeat (first | refine Look.here (of_decide_eq_true rfl) rfl ?_ | refine Look.next ?_)); (with_reducible show wpList _ _ _ _ _ _); simp only [nA])
  | ((with_reducible first | refine to_load 3 rfl ?_ | refine to_load 25 rfl ?_); refine Wl_load1 hS (fun _ => by rfl) _ _ rfl (scT _ rfl) ?_; (repeat (first | refine Look.here (of_decide_eq_true rfl) rfl ?_ | refine Look.self rfl ?_ | refine Look.next ?_)); (with_reducible show wpList _ _ _ _ _ _); simp only [nA]))
  refine wp_region_held_drew (S := fun W => St B 0 24 w [⟨b2, 0, true, #[.pointer (some ⟨B, 0, none⟩)]⟩] W) (by kernel_rfl) (hS.drew.sub (by repeat (first | exact List.nil_sublist _ | apply List.Sublist.cons_cons | apply List.Sublist.cons))) ?_
  intro _
  replace hS := hS.drew
  generalize World.drew _ = wX at hS ⊢
  first
    | refine wpAnyH_take (i := 0) rfl (by kernel_rfl) (by kernel_rfl) (by kernel_rfl) (fun _ _ _ h => h) (yields_one (by rfl) _ _ rfl _ _ rfl scP _ (fun W hW => hW.cell0 (.head _) rfl)) (hS.sub (by repeat (first | exact List.nil_sublist _ | apply List.Sublist.cons_cons | apply List.Sublist.cons))) ?_
    
  try simp only [nR]
  first
    | refine wpAnyH_take (i := 1) rfl (by kernel_rfl) (by kernel_rfl) (by kernel_rfl) (fun _ _ _ h => h) (yields_one (by rfl) _ _ rfl _ _ rfl scP _ (fun W hW => hW.cell0 (.head _) rfl)) (hS.sub (by repeat (first | exact List.nil_sublist _ | apply List.Sublist.cons_cons | apply List.Sublist.cons))) ?_
    
  try simp only [nR]
  refine wpAnyH_take (i := 2) (v := ?_) rfl (by kernel_rfl) (by kernel_rfl) (by kernel_rfl) (fun _ _ _ h => h) (Or.inl ⟨by rfl, ?_⟩) (hS.sub (by repeat (first | exact List.nil_sublist _ | apply List.Sublist.cons_cons | apply List.Sublist.cons))) ?_
  rotate_left 1
  · intro W hW
    clear hW
    go_simp
    all_goals with_reducible rfl
  try simp only [nR]
  refine wpAnyH_take (i := 3) (v := ?_) rfl (by kernel_rfl) (by kernel_rfl) (by kernel_rfl) (fun _ _ _ h => h) (Or.inl ⟨by rfl, ?_⟩) (hS.sub (by repeat (first | exact List.nil_sublist _ | apply List.Sublist.cons_cons | apply List.Sublist.cons))) ?_
  rotate_left 1
  · intro W hW
    clear hW
    go_simp
    all_goals with_reducible rfl
  try simp only [nR]
  refine wpAnyH_ready (rs := [4]) (by kernel_rfl) (by simp) (AllReadyH.cons rfl ?_ AllReadyH.nil)
  intro K1 hK1
  rw [if_pos (by rfl)]
  try simp only [nR]
  refine wp_load1_sc hS _ _ rfl _ _ rfl scS ?_
  repeat (first | refine Look.here (of_decide_eq_true rfl) rfl ?_ | refine Look.next ?_)
  refine hK1.out _ _ (hS.sub (by repeat (first | exact List.nil_sublist _ | apply List.Sublist.cons_cons | apply List.Sublist.cons))) (fun _ => ?_)
  clear hK1
  try simp only [nR]
  refine wpAnyH_take (i := 5) (v := .slice (some ⟨bq, q2, none⟩) rest.length (c - 1)) rfl (by kernel_rfl) (by kernel_rfl) (by kernel_rfl) (fun _ _ _ h => h) (Or.inl ⟨by rfl, ?_⟩) (hS.sub (by repeat (first | exact List.nil_sublist _ | apply List.Sublist.cons_cons | apply List.Sublist.cons))) ?_
  · intro W hW
    clear hW
    have hq2 := HQ.out
    by_cases hcc : c = 1
    · subst hcc
      rw [if_pos rfl] at hq2
      subst hq2
      go_simp
      all_goals (try omega)
    · rw [if_neg hcc] at hq2
      subst hq2
      go_simp
      all_goals (try omega)
  try simp only [nR]
  refine wpAnyH_ready (rs := [6]) (by kernel_rfl) (by simp) (AllReadyH.cons rfl ?_ AllReadyH.nil)
  intro K1 hK1
  rw [if_pos (by rfl)]
  try simp only [nR]
  go_simp
  refine (clone_any _ _ _ hL _ (hS.ls hshT (fun e he => by repeat (first | exact he | refine List.Mem.tail _ ?_)))).mono ?_
  rintro e1 v2 ⟨A1, c1, rfl, hl, hb⟩
  have hfA1 := fun e he => Nat.le_trans hS.size (hl.ent e he).1
  replace hS := hS.callN hb hl
  simp only [List.cons_append, List.nil_append] at hS
  have hshA1 := hl.shp
  clear hb hl
  refine hK1.out _ _ (hS.sub (by repeat (first | exact List.nil_sublist _ | apply List.Sublist.cons_cons | apply List.Sublist.cons))) (fun _ => ?_)
  clear hK1
  try simp only [nR]
  refine wpAnyH_take (i := 7) (v := ?_) rfl (by kernel_rfl) (by kernel_rfl) (by kernel_rfl) (fun _ _ _ h => h) (Or.inl ⟨by rfl, ?_⟩) (hS.sub (by repeat (first | exact List.nil_sublist _ | apply List.Sublist.cons_cons | apply List.Sublist.cons))) ?_
  rotate_left 1
  · intro W hW
    clear hW
    go_simp
    all_goals with_reducible rfl
  try simp only [nR]
  refine wpAnyH_take (i := 8) (v := ?_) rfl (by kernel_rfl) (by kernel_rfl) (by kernel_rfl) (fun _ _ _ h => h) (Or.inl ⟨by rfl, ?_⟩) (hS.sub (by repeat (first | exact List.nil_sublist _ | apply List.Sublist.cons_cons | apply List.Sublist.cons))) ?_
  rotate_left 1
  · intro W hW
    clear hW
    go_simp
    all_goals with_reducible rfl
  try simp only [nR]
  refine wpAnyH_ready (rs := [9]) (by kernel_rfl) (by simp) (AllReadyH.cons rfl ?_ AllReadyH.nil)
  intro K1 hK1
  rw [if_pos (by rfl)]
  try simp only [nR]
  refine wp_store1_sc hS _ _ _ rfl _ _ (.slice _ _ _) rfl rfl scS rfl rfl ?_
  repeat (first | refine Turn1.here (of_decide_eq_true rfl) (of_decide_eq_true rfl) ?_ | refine Turn1.next ?_)
  clear hS
  intro wW hS
  try simp only [Nat.sub_zero, Nat.add_zero, Nat.zero_add, Nat.reduceSub, Nat.add_sub_cancel_left, rg_ss] at hS
  refine hK1.out _ _ (hS.sub (by repeat (first | exact List.nil_sublist _ | apply List.Sublist.cons_cons | apply List.Sublist.cons))) (fun _ => ?_)
  clear hK1
  try simp only [nR]
  refine wpAnyH_done (by kernel_rfl) ?_ _
  go_wp2_with fail
  dsimp only [List.append, HAppend.hAppend, Append.append]
  refine wp_region_held_drew (S := fun W => St B 0 24 w [⟨b2, 0, true, #[.pointer (some ⟨B, 0, none⟩)]⟩] W) (by kernel_rfl) (hS.drew.sub (by repeat (first | exact List.nil_sublist _ | apply List.Sublist.cons_cons | apply List.Sublist.cons))) ?_
  intro _
  replace hS := hS.drew
  generalize World.drew _ = wX at hS ⊢
  refine wpAnyH_take (i := 1) (v := ?_) rfl (by kernel_rfl) (by kernel_rfl) (by kernel_rfl) (fun _ _ _ h => h) (Or.inl ⟨by rfl, ?_⟩) (hS.sub (by repeat (first | exact List.nil_sublist _ | apply List.Sublist.cons_cons | apply List.Sublist.cons))) ?_
  rotate_left 1
  · intro W hW
    clear hW
    go_simp
    all_goals with_reducible rfl
  try simp only [nR]
  first
    | refine wpAnyH_take (i := 2) rfl (by kernel_rfl) (by kernel_rfl) (by kernel_rfl) (fun _ _ _ h => h) (yields_one (by rfl) _ _ rfl _ _ rfl scP _ (fun W hW => hW.cell0 (.head _) rfl)) (hS.sub (by repeat (first | exact List.nil_sublist _ | apply List.Sublist.cons_cons | apply List.Sublist.cons))) ?_
    
  try simp only [nR]
  refine wpAnyH_take (i := 3) (v := ?_) rfl (by kernel_rfl) (by kernel_rfl) (by kernel_rfl) (fun _ _ _ h => h) (Or.inl ⟨by rfl, ?_⟩) (hS.sub (by repeat (first | exact List.nil_sublist _ | apply List.Sublist.cons_cons | apply List.Sublist.cons))) ?_
  rotate_left 1
  · intro W hW
    clear hW
    go_simp
    all_goals with_reducible rfl
  try simp only [nR]
  refine wpAnyH_take (i := 4) (v := ?_) rfl (by kernel_rfl) (by kernel_rfl) (by kernel_rfl) (fun _ _ _ h => h) (Or.inl ⟨by rfl, ?_⟩) (hS.sub (by repeat (first | exact List.nil_sublist _ | apply List.Sublist.cons_cons | apply List.Sublist.cons))) ?_
  rotate_left 1
  · intro W hW
    clear hW
    go_simp
    all_goals with_reducible rfl
  try simp only [nR]
  refine wpAnyH_take (i := 7) (v := ?_) rfl (by kernel_rfl) (by kernel_rfl) (by kernel_rfl) (fun _ _ _ h => h) (Or.inl ⟨by rfl, ?_⟩) (hS.sub (by repeat (first | exact List.nil_sublist _ | apply List.Sublist.cons_cons | apply List.Sublist.cons))) ?_
  rotate_left 1
  · intro W hW
    clear hW
    go_simp
    all_goals with_reducible rfl
  try simp only [nR]
  first
    | refine wpAnyH_take (i := 8) rfl (by kernel_rfl) (by kernel_rfl) (by kernel_rfl) (fun _ _ _ h => h) (yields_one (by rfl) _ _ rfl _ _ rfl scP _ (fun W hW => hW.cell0 (.head _) rfl)) (hS.sub (by repeat (first | exact List.nil_sublist _ | apply List.Sublist.cons_cons | apply List.Sublist.cons))) ?_
    
  try simp only [nR]
  refine wpAnyH_take (i := 9) (v := ?_) rfl (by kernel_rfl) (by kernel_rfl) (by kernel_rfl) (fun _ _ _ h => h) (Or.inl ⟨by rfl, ?_⟩) (hS.sub (by repeat (first | exact List.nil_sublist _ | apply List.Sublist.cons_cons | apply List.Sublist.cons))) ?_
  rotate_left 1
  · intro W hW
    clear hW
    go_simp
    all_goals with_reducible rfl
  try simp only [nR]
  refine wpAnyH_take (i := 10) (v := ?_) rfl (by kernel_rfl) (by kernel_rfl) (by kernel_rfl) (fun _ _ _ h => h) (Or.inl ⟨by rfl, ?_⟩) (hS.sub (by repeat (first | exact List.nil_sublist _ | apply List.Sublist.cons_cons | apply List.Sublist.cons))) ?_
  rotate_left 1
  · intro W hW
    clear hW
    go_simp
    all_goals with_reducible rfl
  try simp only [nR]
  refine wpAnyH_take (i := 13) (v := ?_) rfl (by kernel_rfl) (by kernel_rfl) (by kernel_rfl) (fun _ _ _ h => h) (Or.inl ⟨by rfl, ?_⟩) (hS.sub (by repeat (first | exact List.nil_sublist _ | apply List.Sublist.cons_cons | apply List.Sublist.cons))) ?_
  rotate_left 1
  · intro W hW
    clear hW
    go_simp
    all_goals with_reducible rfl
  try simp only [nR]
  first
    | refine wpAnyH_take (i := 14) rfl (by kernel_rfl) (by kernel_rfl) (by kernel_rfl) (fun _ _ _ h => h) (yields_one (by rfl) _ _ rfl _ _ rfl scP _ (fun W hW => hW.cell0 (.head _) rfl)) (hS.sub (by repeat (first | exact List.nil_sublist _ | apply List.Sublist.cons_cons | apply List.Sublist.cons))) ?_
    
  try simp only [nR]
  refine wpAnyH_take (i := 15) (v := ?_) rfl (by kernel_rfl) (by kernel_rfl) (by kernel_rfl) (fun _ _ _ h => h) (Or.inl ⟨by rfl, ?_⟩) (hS.sub (by repeat (first | exact List.nil_sublist _ | apply List.Sublist.cons_cons | apply List.Sublist.cons))) ?_
  rotate_left 1
  · intro W hW
    clear hW
    go_simp
    all_goals with_reducible rfl
  try simp only [nR]
  refine wpAnyH_take (i := 16) (v := ?_) rfl (by kernel_rfl) (by kernel_rfl) (by kernel_rfl) (fun _ _ _ h => h) (Or.inl ⟨by rfl, ?_⟩) (hS.sub (by repeat (first | exact List.nil_sublist _ | apply List.Sublist.cons_cons | apply List.Sublist.cons))) ?_
  rotate_left 1
  · intro W hW
    clear hW
    go_simp
    all_goals with_reducible rfl
  try simp only [nR]
  refine wpAnyH_take (i := 19) (v := ?_) rfl (by kernel_rfl) (by kernel_rfl) (by kernel_rfl) (fun _ _ _ h => h) (Or.inl ⟨by rfl, ?_⟩) (hS.sub (by repeat (first | exact List.nil_sublist _ | apply List.Sublist.cons_cons | apply List.Sublist.cons))) ?_
  rotate_left 1
  · intro W hW
    clear hW
    go_simp
    all_goals with_reducible rfl
  try simp only [nR]
  first
    | refine wpAnyH_take (i := 20) rfl (by kernel_rfl) (by kernel_rfl) (by kernel_rfl) (fun _ _ _ h => h) (yields_one (by rfl) _ _ rfl _ _ rfl scP _ (fun W hW => hW.cell0 (.head _) rfl)) (hS.sub (by repeat (first | exact List.nil_sublist _ | apply List.Sublist.cons_cons | apply List.Sublist.cons))) ?_
    
  try simp only [nR]
  refine wpAnyH_take (i := 21) (v := ?_) rfl (by kernel_rfl) (by kernel_rfl) (by kernel_rfl) (fun _ _ _ h => h) (Or.inl ⟨by rfl, ?_⟩) (hS.sub (by repeat (first | exact List.nil_sublist _ | apply List.Sublist.cons_cons | apply List.Sublist.cons))) ?_
  rotate_left 1
  · intro W hW
    clear hW
    go_simp
    all_goals with_reducible rfl
  try simp only [nR]
  refine wpAnyH_take (i := 22) (v := ?_) rfl (by kernel_rfl) (by kernel_rfl) (by kernel_rfl) (fun _ _ _ h => h) (Or.inl ⟨by rfl, ?_⟩) (hS.sub (by repeat (first | exact List.nil_sublist _ | apply List.Sublist.cons_cons | apply List.Sublist.cons))) ?_
  rotate_left 1
  · intro W hW
    clear hW
    go_simp
    all_goals with_reducible rfl
  try simp only [nR]
  refine wpAnyH_take (i := 25) (v := ?_) rfl (by kernel_rfl) (by kernel_rfl) (by kernel_rfl) (fun _ _ _ h => h) (Or.inl ⟨by rfl, ?_⟩) (hS.sub (by repeat (first | exact List.nil_sublist _ | apply List.Sublist.cons_cons | apply List.Sublist.cons))) ?_
  rotate_left 1
  · intro W hW
    clear hW
    go_simp
    all_goals with_reducible rfl
  try simp only [nR]
  first
    | refine wpAnyH_take (i := 26) rfl (by kernel_rfl) (by kernel_rfl) (by kernel_rfl) (fun _ _ _ h => h) (yields_one (by rfl) _ _ rfl _ _ rfl scP _ (fun W hW => hW.cell0 (.head _) rfl)) (hS.sub (by repeat (first | exact List.nil_sublist _ | apply List.Sublist.cons_cons | apply List.Sublist.cons))) ?_
    
  try simp only [nR]
  refine wpAnyH_take (i := 27) (v := ?_) rfl (by kernel_rfl) (by kernel_rfl) (by kernel_rfl) (fun _ _ _ h => h) (Or.inl ⟨by rfl, ?_⟩) (hS.sub (by repeat (first | exact List.nil_sublist _ | apply List.Sublist.cons_cons | apply List.Sublist.cons))) ?_
  rotate_left 1
  · intro W hW
    clear hW
    go_simp
    all_goals with_reducible rfl
  try simp only [nR]
  refine wpAnyH_take (i := 28) (v := ?_) rfl (by kernel_rfl) (by kernel_rfl) (by kernel_rfl) (fun _ _ _ h => h) (Or.inl ⟨by rfl, ?_⟩) (hS.sub (by repeat (first | exact List.nil_sublist _ | apply List.Sublist.cons_cons | apply List.Sublist.cons))) ?_
  rotate_left 1
  · intro W hW
    clear hW
    go_simp
    all_goals with_reducible rfl
  try simp only [nR]
  refine wpAnyH_take (i := 31) (v := ?_) rfl (by kernel_rfl) (by kernel_rfl) (by kernel_rfl) (fun _ _ _ h => h) (Or.inl ⟨by rfl, ?_⟩) (hS.sub (by repeat (first | exact List.nil_sublist _ | apply List.Sublist.cons_cons | apply List.Sublist.cons))) ?_
  rotate_left 1
  · intro W hW
    clear hW
    go_simp
    all_goals with_reducible rfl
  try simp only [nR]
  first
    | refine wpAnyH_take (i := 32) rfl (by kernel_rfl) (by kernel_rfl) (by kernel_rfl) (fun _ _ _ h => h) (yields_one (by rfl) _ _ rfl _ _ rfl scP _ (fun W hW => hW.cell0 (.head _) rfl)) (hS.sub (by repeat (first | exact List.nil_sublist _ | apply List.Sublist.cons_cons | apply List.Sublist.cons))) ?_
    
  try simp only [nR]
  refine wpAnyH_take (i := 33) (v := ?_) rfl (by kernel_rfl) (by kernel_rfl) (by kernel_rfl) (fun _ _ _ h => h) (Or.inl ⟨by rfl, ?_⟩) (hS.sub (by repeat (first | exact List.nil_sublist _ | apply List.Sublist.cons_cons | apply List.Sublist.cons))) ?_
  rotate_left 1
  · intro W hW
    clear hW
    go_simp
    all_goals with_reducible rfl
  try simp only [nR]
  refine wpAnyH_take (i := 34) (v := ?_) rfl (by kernel_rfl) (by kernel_rfl) (by kernel_rfl) (fun _ _ _ h => h) (Or.inl ⟨by rfl, ?_⟩) (hS.sub (by repeat (first | exact List.nil_sublist _ | apply List.Sublist.cons_cons | apply List.Sublist.cons))) ?_
  rotate_left 1
  · intro W hW
    clear hW
    go_simp
    all_goals with_reducible rfl
  try simp only [nR]
  refine wpAnyH_take (i := 37) (v := ?_) rfl (by kernel_rfl) (by kernel_rfl) (by kernel_rfl) (fun _ _ _ h => h) (Or.inl ⟨by rfl, ?_⟩) (hS.sub (by repeat (first | exact List.nil_sublist _ | apply List.Sublist.cons_cons | apply List.Sublist.cons))) ?_
  rotate_left 1
  · intro W hW
    clear hW
    go_simp
    all_goals with_reducible rfl
  try simp only [nR]
  refine wpAnyH_take (i := 39) (v := ?_) rfl (by kernel_rfl) (by kernel_rfl) (by kernel_rfl) (fun _ _ _ h => h) (Or.inl ⟨by rfl, ?_⟩) (hS.sub (by repeat (first | exact List.nil_sublist _ | apply List.Sublist.cons_cons | apply List.Sublist.cons))) ?_
  rotate_left 1
  · intro W hW
    clear hW
    go_simp
    all_goals with_reducible rfl
  try simp only [nR]
  refine wpAnyH_take (i := 41) (v := ?_) rfl (by kernel_rfl) (by kernel_rfl) (by kernel_rfl) (fun _ _ _ h => h) (Or.inl ⟨by rfl, ?_⟩) (hS.sub (by repeat (first | exact List.nil_sublist _ | apply List.Sublist.cons_cons | apply List.Sublist.cons))) ?_
  rotate_left 1
  · intro W hW
    clear hW
    go_simp
    all_goals with_reducible rfl
  try simp only [nR]
  first
    | refine wpAnyH_take (i := 42) rfl (by kernel_rfl) (by kernel_rfl) (by kernel_rfl) (fun _ _ _ h => h) (yields_one (by rfl) _ _ rfl _ _ rfl scP _ (fun W hW => hW.cell0 (.head _) rfl)) (hS.sub (by repeat (first | exact List.nil_sublist _ | apply List.Sublist.cons_cons | apply List.Sublist.cons))) ?_
    
  try simp only [nR]
  refine wpAnyH_take (i := 43) (v := ?_) rfl (by kernel_rfl) (by kernel_rfl) (by kernel_rfl) (fun _ _ _ h => h) (Or.inl ⟨by rfl, ?_⟩) (hS.sub (by repeat (first | exact List.nil_sublist _ | apply List.Sublist.cons_cons | apply List.Sublist.cons))) ?_
  rotate_left 1
  · intro W hW
    clear hW
    go_simp
    all_goals with_reducible rfl
  try simp only [nR]
  refine wpAnyH_take (i := 44) (v := ?_) rfl (by kernel_rfl) (by kernel_rfl) (by kernel_rfl) (fun _ _ _ h => h) (Or.inl ⟨by rfl, ?_⟩) (hS.sub (by repeat (first | exact List.nil_sublist _ | apply List.Sublist.cons_cons | apply List.Sublist.cons))) ?_
  rotate_left 1
  · intro W hW
    clear hW
    go_simp
    all_goals with_reducible rfl
  try simp only [nR]
  refine wpAnyH_take (i := 47) (v := ?_) rfl (by kernel_rfl) (by kernel_rfl) (by kernel_rfl) (fun _ _ _ h => h) (Or.inl ⟨by rfl, ?_⟩) (hS.sub (by repeat (first | exact List.nil_sublist _ | apply List.Sublist.cons_cons | apply List.Sublist.cons))) ?_
  rotate_left 1
  · intro W hW
    clear hW
    go_simp
    all_goals with_reducible rfl
  try simp only [nR]
  first
    | refine wpAnyH_take (i := 48) rfl (by kernel_rfl) (by kernel_rfl) (by kernel_rfl) (fun _ _ _ h => h) (yields_one (by rfl) _ _ rfl _ _ rfl scP _ (fun W hW => hW.cell0 (.head _) rfl)) (hS.sub (by repeat (first | exact List.nil_sublist _ | apply List.Sublist.cons_cons | apply List.Sublist.cons))) ?_
    
  try simp only [nR]
  refine wpAnyH_take (i := 49) (v := ?_) rfl (by kernel_rfl) (by kernel_rfl) (by kernel_rfl) (fun _ _ _ h => h) (Or.inl ⟨by rfl, ?_⟩) (hS.sub (by repeat (first | exact List.nil_sublist _ | apply List.Sublist.cons_cons | apply List.Sublist.cons))) ?_
  rotate_left 1
  · intro W hW
    clear hW
    go_simp
    all_goals with_reducible rfl
  try simp only [nR]
  refine wpAnyH_take (i := 50) (v := ?_) rfl (by kernel_rfl) (by kernel_rfl) (by kernel_rfl) (fun _ _ _ h => h) (Or.inl ⟨by rfl, ?_⟩) (hS.sub (by repeat (first | exact List.nil_sublist _ | apply List.Sublist.cons_cons | apply List.Sublist.cons))) ?_
  rotate_left 1
  · intro W hW
    clear hW
    go_simp
    all_goals with_reducible rfl
  try simp only [nR]
  refine wpAnyH_take (i := 53) (v := ?_) rfl (by kernel_rfl) (by kernel_rfl) (by kernel_rfl) (fun _ _ _ h => h) (Or.inl ⟨by rfl, ?_⟩) (hS.sub (by repeat (first | exact List.nil_sublist _ | apply List.Sublist.cons_cons | apply List.Sublist.cons))) ?_
  rotate_left 1
  · intro W hW
    clear hW
    go_simp
    all_goals with_reducible rfl
  try simp only [nR]
  first
    | refine wpAnyH_take (i := 54) rfl (by kernel_rfl) (by kernel_rfl) (by kernel_rfl) (fun _ _ _ h => h) (yields_one (by rfl) _ _ rfl _ _ rfl scP _ (fun W hW => hW.cell0 (.head _) rfl)) (hS.sub (by repeat (first | exact List.nil_sublist _ | apply List.Sublist.cons_cons | apply List.Sublist.cons))) ?_
    
  try simp only [nR]
  refine wpAnyH_take (i := 55) (v := ?_) rfl (by kernel_rfl) (by kernel_rfl) (by kernel_rfl) (fun _ _ _ h => h) (Or.inl ⟨by rfl, ?_⟩) (hS.sub (by repeat (first | exact List.nil_sublist _ | apply List.Sublist.cons_cons | apply List.Sublist.cons))) ?_
  rotate_left 1
  · intro W hW
    clear hW
    go_simp
    all_goals with_reducible rfl
  try simp only [nR]
  refine wpAnyH_take (i := 56) (v := ?_) rfl (by kernel_rfl) (by kernel_rfl) (by kernel_rfl) (fun _ _ _ h => h) (Or.inl ⟨by rfl, ?_⟩) (hS.sub (by repeat (first | exact List.nil_sublist _ | apply List.Sublist.cons_cons | apply List.Sublist.cons))) ?_
  rotate_left 1
  · intro W hW
    clear hW
    go_simp
    all_goals with_reducible rfl
  try simp only [nR]
  refine wpAnyH_take (i := 59) (v := ?_) rfl (by kernel_rfl) (by kernel_rfl) (by kernel_rfl) (fun _ _ _ h => h) (Or.inl ⟨by rfl, ?_⟩) (hS.sub (by repeat (first | exact List.nil_sublist _ | apply List.Sublist.cons_cons | apply List.Sublist.cons))) ?_
  rotate_left 1
  · intro W hW
    clear hW
    go_simp
    all_goals with_reducible rfl
  try simp only [nR]
  first
    | refine wpAnyH_take (i := 60) rfl (by kernel_rfl) (by kernel_rfl) (by kernel_rfl) (fun _ _ _ h => h) (yields_one (by rfl) _ _ rfl _ _ rfl scP _ (fun W hW => hW.cell0 (.head _) rfl)) (hS.sub (by repeat (first | exact List.nil_sublist _ | apply List.Sublist.cons_cons | apply List.Sublist.cons))) ?_
    
  try simp only [nR]
  refine wpAnyH_take (i := 61) (v := ?_) rfl (by kernel_rfl) (by kernel_rfl) (by kernel_rfl) (fun _ _ _ h => h) (Or.inl ⟨by rfl, ?_⟩) (hS.sub (by repeat (first | exact List.nil_sublist _ | apply List.Sublist.cons_cons | apply List.Sublist.cons))) ?_
  rotate_left 1
  · intro W hW
    clear hW
    go_simp
    all_goals with_reducible rfl
  try simp only [nR]
  refine wpAnyH_take (i := 62) (v := ?_) rfl (by kernel_rfl) (by kernel_rfl) (by kernel_rfl) (fun _ _ _ h => h) (Or.inl ⟨by rfl, ?_⟩) (hS.sub (by repeat (first | exact List.nil_sublist _ | apply List.Sublist.cons_cons | apply List.Sublist.cons))) ?_
  rotate_left 1
  · intro W hW
    clear hW
    go_simp
    all_goals with_reducible rfl
  try simp only [nR]
  refine wpAnyH_take (i := 65) (v := ?_) rfl (by kernel_rfl) (by kernel_rfl) (by kernel_rfl) (fun _ _ _ h => h) (Or.inl ⟨by rfl, ?_⟩) (hS.sub (by repeat (first | exact List.nil_sublist _ | apply List.Sublist.cons_cons | apply List.Sublist.cons))) ?_
  rotate_left 1
  · intro W hW
    clear hW
    go_simp
    all_goals with_reducible rfl
  try simp only [nR]
  refine wpAnyH_take (i := 67) (v := ?_) rfl (by kernel_rfl) (by kernel_rfl) (by kernel_rfl) (fun _ _ _ h => h) (Or.inl ⟨by rfl, ?_⟩) (hS.sub (by repeat (first | exact List.nil_sublist _ | apply List.Sublist.cons_cons | apply List.Sublist.cons))) ?_
  rotate_left 1
  · intro W hW
    clear hW
    go_simp
    all_goals with_reducible rfl
  try simp only [nR]
  refine wpAnyH_take (i := 70) (v := ?_) rfl (by kernel_rfl) (by kernel_rfl) (by kernel_rfl) (fun _ _ _ h => h) (Or.inl ⟨by rfl, ?_⟩) (hS.sub (by repeat (first | exact List.nil_sublist _ | apply List.Sublist.cons_cons | apply List.Sublist.cons))) ?_
  rotate_left 1
  · intro W hW
    clear hW
    go_simp
    all_goals with_reducible rfl
  try simp only [nR]
  have hI0 : S6.Ok B b2 b3 w _ ⟨false, false, false, false, false, false, false, false, false, false, false, false, false, false, false, false, false, false, false, false, false, false, false, false, false, undef, undef, undef, undef, undef, undef, undef, undef, undef, undef, undef⟩ wX := ⟨hS, fun h => (by cases h), fun _ => ⟨rfl, rfl, rfl, rfl, rfl, rfl, rfl, rfl, rfl, rfl, rfl, rfl, rfl, rfl⟩, (fun h => (by cases h)), (fun h => (by cases h)), (fun h => (by cases h)), (fun h => (by cases h)), (fun h => (by cases h)), (fun h => (by cases h)), (fun h => (by cases h)), (fun h => (by cases h)), (fun h => (by cases h)), (fun h => (by cases h)), (fun h => (by cases h)), (fun h => (by cases h)), (fun h => (by cases h)), (fun h => (by cases h)), (fun h => (by cases h)), (fun h => (by cases h)), (fun h => (by cases h)), (fun h => (by cases h)), (fun h => (by cases h)), (fun h => (by cases h))⟩
  clear hS
  refine phase_from S6.L (S6.A B b2 b3 b k (.slice (some ⟨bq, q, none⟩) (rest.length + 1) c) (.pointer (some ⟨bq, q, none⟩)) (.slice (some ⟨bq, q, none⟩) (rest.length + 1) c) (.slice (some ⟨bq, q2, none⟩) rest.length (c - 1)) (.slice A1 rest.length c1)) (S6.Ok B b2 b3 w _) S6.n 3 25 _ ?nil ?step ?fin (by rfl) (by kernel_rfl) rfl rfl hI0
  case nil =>
    intro x h
    exact Bool.noConfusion (show false = true from ready_nil (back_of (by kernel_rfl)) h 69 (by decide))
  case step =>
    intro x W i hI hi hN
    obtain ⟨f0, g1, g2, g3, g4, g5, g6, g7, g8, g9, g10, i1, i2, i3, i4, i5, i6, i7, i8, i9, i10, i11, i12, i13, i14, m, x1, x2, x3, x4, x5, x6, x7, x8, x9, x10⟩ := x
    have hl := (mem_ready.1 hi).1
    have hi73 : i < 73 := by
      refine Decidable.byContradiction fun hge => ?_
      rw [S6.L, Array.getD, dif_neg (by simpa using hge)] at hl
      cases hl
    rcases (show i = 0 ∨ i = 1 ∨ i = 2 ∨ i = 3 ∨ i = 4 ∨ i = 5 ∨ i = 6 ∨ i = 7 ∨ i = 8 ∨ i = 9 ∨ i = 10 ∨ i = 11 ∨ i = 12 ∨ i = 13 ∨ i = 14 ∨ i = 15 ∨ i = 16 ∨ i = 17 ∨ i = 18 ∨ i = 19 ∨ i = 20 ∨ i = 21 ∨ i = 22 ∨ i = 23 ∨ i = 24 ∨ i = 25 ∨ i = 26 ∨ i = 27 ∨ i = 28 ∨ i = 29 ∨ i = 30 ∨ i = 31 ∨ i = 32 ∨ i = 33 ∨ i = 34 ∨ i = 35 ∨ i = 36 ∨ i = 37 ∨ i = 38 ∨ i = 39 ∨ i = 40 ∨ i = 41 ∨ i = 42 ∨ i = 43 ∨ i = 44 ∨ i = 45 ∨ i = 46 ∨ i = 47 ∨ i = 48 ∨ i = 49 ∨ i = 50 ∨ i = 51 ∨ i = 52 ∨ i = 53 ∨ i = 54 ∨ i = 55 ∨ i = 56 ∨ i = 57 ∨ i = 58 ∨ i = 59 ∨ i = 60 ∨ i = 61 ∨ i = 62 ∨ i = 63 ∨ i = 64 ∨ i = 65 ∨ i = 66 ∨ i = 67 ∨ i = 68 ∨ i = 69 ∨ i = 70 ∨ i = 71 ∨ i = 72 by omega) with rfl | rfl | rfl | rfl | rfl | rfl | rfl | rfl | rfl | rfl | rfl | rfl | rfl | rfl | rfl | rfl | rfl | rfl | rfl | rfl | rfl | rfl | rfl | rfl | rfl | rfl | rfl | rfl | rfl | rfl | rfl | rfl | rfl | rfl | rfl | rfl | rfl | rfl | rfl | rfl | rfl | rfl | rfl | rfl | rfl | rfl | rfl | rfl | rfl | rfl | rfl | rfl | rfl | rfl | rfl | rfl | rfl | rfl | rfl | rfl | rfl | rfl | rfl | rfl | rfl | rfl | rfl | rfl | rfl | rfl | rfl | rfl | rfl
    · obtain rfl : f0 = false := hl
      obtain ⟨rfl, rfl, rfl, rfl, rfl, rfl, rfl, rfl, rfl, rfl, rfl, rfl, rfl, rfl⟩ := hI.nomap rfl
      refine wpOp_step rfl (fun K' hK => ?_)
      rw [if_pos (by rfl)]
      refine wp_mkmap_op rfl (hK _ _ ⟨(hI.st.call ((Below.refl _ _).alloc (Nat.le_refl _) _)).sub (by repeat (first | exact List.nil_sublist _ | apply List.Sublist.cons_cons | apply List.Sublist.cons)), ⟨true, g1, g2, g3, g4, g5, g6, g7, g8, g9, g10, false, false, false, false, false, false, false, false, false, false, false, false, false, false, _, x1, x2, x3, x4, x5, x6, x7, x8, x9, x10⟩, rfl, rfl, ?_, ?_⟩)
      · refine ⟨hI.st.call ((Below.refl _ _).alloc (Nat.le_refl _) _), fun _ => ⟨_, rfl, hI.st.size, #[], 0, by simpa using (MapKept.heap_alloc W (.map #[] 0)).1, fun n => ?_⟩, (fun h => (by cases h)), (fun h => (hI.c1 h).keep (keep_alloc _ _)), (fun h => by cases h), (fun h => (hI.c2 h).keep (keep_alloc _ _)), (fun h => by cases h), (fun h => (hI.c3 h).keep (keep_alloc _ _)), (fun h => by cases h), (fun h => (hI.c4 h).keep (keep_alloc _ _)), (fun h => by cases h), (fun h => (hI.c5 h).keep (keep_alloc _ _)), (fun h => by cases h), (fun h => (hI.c6 h).keep (keep_alloc _ _)), (fun h => by cases h), (fun h => (hI.c7 h).keep (keep_alloc _ _)), (fun h => by cases h), (fun h => (hI.c8 h).keep (keep_alloc _ _)), (fun h => by cases h), (fun h => (hI.c9 h).keep (keep_alloc _ _)), (fun h => by cases h), (fun h => (hI.c10 h).keep (keep_alloc _ _)), (fun h => by cases h)⟩
        have e : look (S6.vals b2 b3 ⟨true, g1, g2, g3, g4, g5, g6, g7, g8, g9, g10, false, false, false, false, false, false, false, false, false, false, false, false, false, false, .map (some W.heap.size), x1, x2, x3, x4, x5, x6, x7, x8, x9, x10⟩) n = none := by
          simp only [S6.vals, look]
          simp
        rw [e]
        exact ⟨fun v h => (by cases h), fun _ => rfl⟩
      · simp only [S6.n, cond_true, cond_false] <;> omega
    · exact Bool.noConfusion (show true = false from hl)
    · exact Bool.noConfusion (show true = false from hl)
    · exact Bool.noConfusion (show true = false from hl)
    · exact Bool.noConfusion (show true = false from hl)
    · obtain rfl : g1 = false := hl
      obtain rfl : i1 = false := by
        cases i1 with
        | false => rfl
        | true => exact (hI.d1 rfl).symm
      have hBlt : B < W.heap.size := Nat.lt_of_lt_of_le hB hI.st.size
      refine wpOp_step rfl (fun K' hK => ?_)
      rw [if_pos (by rfl)]
      go_simp
      refine (mk1 B 2 b3 W).mono ?_
      rintro e w' ⟨rfl, rfl⟩
      refine hK _ _ ⟨(hI.st.call ((Below.refl _ _).alloc (Nat.le_refl _) _)).sub (by repeat (first | exact List.nil_sublist _ | apply List.Sublist.cons_cons | apply List.Sublist.cons)), ⟨f0, true, g2, g3, g4, g5, g6, g7, g8, g9, g10, false, i2, i3, i4, i5, i6, i7, i8, i9, i10, i11, i12, i13, i14, m, Value.func (.func 81) #[] #[.pointer (some ⟨W.heap.size, 0, none⟩), .pointer (some ⟨b3, 0, none⟩)], x2, x3, x4, x5, x6, x7, x8, x9, x10⟩, rfl, rfl, ?_, ?_⟩
      · refine ⟨hI.st.call ((Below.refl _ _).alloc (Nat.le_refl _) _), fun h => ?_, fun h => ?_, (fun _ => ⟨W.heap.size, rfl, (keep_new W _ _), Nat.ne_of_lt hBlt⟩), (fun h => rfl), (fun h => (hI.c2 h).keep (keep_alloc _ _)), hI.d2, (fun h => (hI.c3 h).keep (keep_alloc _ _)), hI.d3, (fun h => (hI.c4 h).keep (keep_alloc _ _)), hI.d4, (fun h => (hI.c5 h).keep (keep_alloc _ _)), hI.d5, (fun h => (hI.c6 h).keep (keep_alloc _ _)), hI.d6, (fun h => (hI.c7 h).keep (keep_alloc _ _)), hI.d7, (fun h => (hI.c8 h).keep (keep_alloc _ _)), hI.d8, (fun h => (hI.c9 h).keep (keep_alloc _ _)), hI.d9, (fun h => (hI.c10 h).keep (keep_alloc _ _)), hI.d10⟩
        · obtain ⟨m', h1, h2, h3⟩ := hI.map h
          exact ⟨m', h1, h2, (h3.alloc _).congr fun n => by simp [S6.vals, look]⟩
        · exact hI.nomap h
      · simp only [S6.n, cond_true, cond_false] <;> omega
    · obtain rfl : i1 = false := hl
      obtain rfl : f0 = true := (dep_of (j := 6) rfl hi ⟨0, .data⟩ (by simp) rfl)
      obtain rfl : g1 = true := (dep_of (j := 6) rfl hi ⟨5, .data⟩ (by simp) rfl)
      obtain ⟨m', h1, h2, h3⟩ := hI.map rfl
      obtain rfl : m = .map (some m') := h1
      refine wpOp_step rfl (fun K' hK => ?_)
      rw [if_pos (by rfl)]
      refine wp_insert_op rfl _ _ umap uint' rfl h3 1 (x1) rfl rfl (by simp [S6.vals, look]) (fun w' hmp hkp hgb hme => ?_)
      have hSt := hI.st.keepMap hgb h2 hme
      refine hK _ _ ⟨hSt.sub (by repeat (first | exact List.nil_sublist _ | apply List.Sublist.cons_cons | apply List.Sublist.cons)), ⟨true, true, g2, g3, g4, g5, g6, g7, g8, g9, g10, true, i2, i3, i4, i5, i6, i7, i8, i9, i10, i11, i12, i13, i14, .map (some m'), x1, x2, x3, x4, x5, x6, x7, x8, x9, x10⟩, rfl, rfl, ?_, ?_⟩
      · refine ⟨hSt, fun _ => ⟨m', rfl, h2, hmp.congr fun n => ?_⟩, fun h => (by cases h), (fun h => (hI.c1 h).keep hkp), (fun h => rfl), (fun h => (hI.c2 h).keep hkp), hI.d2, (fun h => (hI.c3 h).keep hkp), hI.d3, (fun h => (hI.c4 h).keep hkp), hI.d4, (fun h => (hI.c5 h).keep hkp), hI.d5, (fun h => (hI.c6 h).keep hkp), hI.d6, (fun h => (hI.c7 h).keep hkp), hI.d7, (fun h => (hI.c8 h).keep hkp), hI.d8, (fun h => (hI.c9 h).keep hkp), hI.d9, (fun h => (hI.c10 h).keep hkp), hI.d10⟩
        by_cases hn : n = 1
        · subst hn
          simp [S6.vals, look]
        · simp [S6.vals, look, hn]
      · simp only [S6.n, cond_true, cond_false] <;> omega
    · exact Bool.noConfusion (show true = false from hl)
    · exact Bool.noConfusion (show true = false from hl)
    · exact Bool.noConfusion (show true = false from hl)
    · exact Bool.noConfusion (show true = false from hl)
    · obtain rfl : g2 = false := hl
      obtain rfl : i2 = false := by
        cases i2 with
        | false => rfl
        | true => exact (hI.d2 rfl).symm
      have hBlt : B < W.heap.size := Nat.lt_of_lt_of_le hB hI.st.size
      refine wpOp_step rfl (fun K' hK => ?_)
      rw [if_pos (by rfl)]
      go_simp
      refine (mk2 B 2 b3 W).mono ?_
      rintro e w' ⟨rfl, rfl⟩
      refine hK _ _ ⟨(hI.st.call ((Below.refl _ _).alloc (Nat.le_refl _) _)).sub (by repeat (first | exact List.nil_sublist _ | apply List.Sublist.cons_cons | apply List.Sublist.cons)), ⟨f0, g1, true, g3, g4, g5, g6, g7, g8, g9, g10, i1, false, i3, i4, i5, i6, i7, i8, i9, i10, i11, i12, i13, i14, m, x1, Value.func (.func 84) #[] #[.pointer (some ⟨b3, 0, none⟩), .pointer (some ⟨W.heap.size, 0, none⟩)], x3, x4, x5, x6, x7, x8, x9, x10⟩, rfl, rfl, ?_, ?_⟩
      · refine ⟨hI.st.call ((Below.refl _ _).alloc (Nat.le_refl _) _), fun h => ?_, fun h => ?_, (fun h => (hI.c1 h).keep (keep_alloc _ _)), hI.d1, (fun _ => ⟨W.heap.size, rfl, (keep_new W _ _), Nat.ne_of_lt hBlt⟩), (fun h => rfl), (fun h => (hI.c3 h).keep (keep_alloc _ _)), hI.d3, (fun h => (hI.c4 h).keep (keep_alloc _ _)), hI.d4, (fun h => (hI.c5 h).keep (keep_alloc _ _)), hI.d5, (fun h => (hI.c6 h).keep (keep_alloc _ _)), hI.d6, (fun h => (hI.c7 h).keep (keep_alloc _ _)), hI.d7, (fun h => (hI.c8 h).keep (keep_alloc _ _)), hI.d8, (fun h => (hI.c9 h).keep (keep_alloc _ _)), hI.d9, (fun h => (hI.c10 h).keep (keep_alloc _ _)), hI.d10⟩
        · obtain ⟨m', h1, h2, h3⟩ := hI.map h
          exact ⟨m', h1, h2, (h3.alloc _).congr fun n => by simp [S6.vals, look]⟩
        · exact hI.nomap h
      · simp only [S6.n, cond_true, cond_false] <;> omega
    · obtain rfl : i2 = false := hl
      obtain rfl : f0 = true := (dep_of (j := 12) rfl hi ⟨0, .data⟩ (by simp) rfl)
      obtain rfl : g2 = true := (dep_of (j := 12) rfl hi ⟨11, .data⟩ (by simp) rfl)
      obtain ⟨m', h1, h2, h3⟩ := hI.map rfl
      obtain rfl : m = .map (some m') := h1
      refine wpOp_step rfl (fun K' hK => ?_)
      rw [if_pos (by rfl)]
      refine wp_insert_op rfl _ _ umap uint' rfl h3 2 (x2) rfl rfl (by simp [S6.vals, look]) (fun w' hmp hkp hgb hme => ?_)
      have hSt := hI.st.keepMap hgb h2 hme
      refine hK _ _ ⟨hSt.sub (by repeat (first | exact List.nil_sublist _ | apply List.Sublist.cons_cons | apply List.Sublist.cons)), ⟨true, g1, true, g3, g4, g5, g6, g7, g8, g9, g10, i1, true, i3, i4, i5, i6, i7, i8, i9, i10, i11, i12, i13, i14, .map (some m'), x1, x2, x3, x4, x5, x6, x7, x8, x9, x10⟩, rfl, rfl, ?_, ?_⟩
      · refine ⟨hSt, fun _ => ⟨m', rfl, h2, hmp.congr fun n => ?_⟩, fun h => (by cases h), (fun h => (hI.c1 h).keep hkp), hI.d1, (fun h => (hI.c2 h).keep hkp), (fun h => rfl), (fun h => (hI.c3 h).keep hkp), hI.d3, (fun h => (hI.c4 h).keep hkp), hI.d4, (fun h => (hI.c5 h).keep hkp), hI.d5, (fun h => (hI.c6 h).keep hkp), hI.d6, (fun h => (hI.c7 h).keep hkp), hI.d7, (fun h => (hI.c8 h).keep hkp), hI.d8, (fun h => (hI.c9 h).keep hkp), hI.d9, (fun h => (hI.c10 h).keep hkp), hI.d10⟩
        by_cases hn : n = 2
        · subst hn
          simp [S6.vals, look]
        · simp [S6.vals, look, hn]
      · simp only [S6.n, cond_true, cond_false] <;> omega
    · exact Bool.noConfusion (show true = false from hl)
    · exact Bool.noConfusion (show true = false from hl)
    · exact Bool.noConfusion (show true = false from hl)
    · exact Bool.noConfusion (show true = false from hl)
    · obtain rfl : g3 = false := hl
      obtain rfl : i3 = false := by
        cases i3 with
        | false => rfl
        | true => exact (hI.d3 rfl).symm
      have hBlt : B < W.heap.size := Nat.lt_of_lt_of_le hB hI.st.size
      refine wpOp_step rfl (fun K' hK => ?_)
      rw [if_pos (by rfl)]
      go_simp
      refine (mk1 B 4 b3 W).mono ?_
      rintro e w' ⟨rfl, rfl⟩
      refine hK _ _ ⟨(hI.st.call ((Below.refl _ _).alloc (Nat.le_refl _) _)).sub (by repeat (first | exact List.nil_sublist _ | apply List.Sublist.cons_cons | apply List.Sublist.cons)), ⟨f0, g1, g2, true, g4, g5, g6, g7, g8, g9, g10, i1, i2, false, i4, i5, i6, i7, i8, i9, i10, i11, i12, i13, i14, m, x1, x2, Value.func (.func 81) #[] #[.pointer (some ⟨W.heap.size, 0, none⟩), .pointer (some ⟨b3, 0, none⟩)], x4, x5, x6, x7, x8, x9, x10⟩, rfl, rfl, ?_, ?_⟩
      · refine ⟨hI.st.call ((Below.refl _ _).alloc (Nat.le_refl _) _), fun h => ?_, fun h => ?_, (fun h => (hI.c1 h).keep (keep_alloc _ _)), hI.d1, (fun h => (hI.c2 h).keep (keep_alloc _ _)), hI.d2, (fun _ => ⟨W.heap.size, rfl, (keep_new W _ _), Nat.ne_of_lt hBlt⟩), (fun h => rfl), (fun h => (hI.c4 h).keep (keep_alloc _ _)), hI.d4, (fun h => (hI.c5 h).keep (keep_alloc _ _)), hI.d5, (fun h => (hI.c6 h).keep (keep_alloc _ _)), hI.d6, (fun h => (hI.c7 h).keep (keep_alloc _ _)), hI.d7, (fun h => (hI.c8 h).keep (keep_alloc _ _)), hI.d8, (fun h => (hI.c9 h).keep (keep_alloc _ _)), hI.d9, (fun h => (hI.c10 h).keep (keep_alloc _ _)), hI.d10⟩
        · obtain ⟨m', h1, h2, h3⟩ := hI.map h
          exact ⟨m', h1, h2, (h3.alloc _).congr fun n => by simp [S6.vals, look]⟩
        · exact hI.nomap h
      · simp only [S6.n, cond_true, cond_false] <;> omega
    · obtain rfl : i3 = false := hl
      obtain rfl : f0 = true := (dep_of (j := 18) rfl hi ⟨0, .data⟩ (by simp) rfl)
      obtain rfl : g3 = true := (dep_of (j := 18) rfl hi ⟨17, .data⟩ (by simp) rfl)
      obtain ⟨m', h1, h2, h3⟩ := hI.map rfl
      obtain rfl : m = .map (some m') := h1
      refine wpOp_step rfl (fun K' hK => ?_)
      rw [if_pos (by rfl)]
      refine wp_insert_op rfl _ _ umap uint' rfl h3 3 (x3) rfl rfl (by simp [S6.vals, look]) (fun w' hmp hkp hgb hme => ?_)
      have hSt := hI.st.keepMap hgb h2 hme
      refine hK _ _ ⟨hSt.sub (by repeat (first | exact List.nil_sublist _ | apply List.Sublist.cons_cons | apply List.Sublist.cons)), ⟨true, g1, g2, true, g4, g5, g6, g7, g8, g9, g10, i1, i2, true, i4, i5, i6, i7, i8, i9, i10, i11, i12, i13, i14, .map (some m'), x1, x2, x3, x4, x5, x6, x7, x8, x9, x10⟩, rfl, rfl, ?_, ?_⟩
      · refine ⟨hSt, fun _ => ⟨m', rfl, h2, hmp.congr fun n => ?_⟩, fun h => (by cases h), (fun h => (hI.c1 h).keep hkp), hI.d1, (fun h => (hI.c2 h).keep hkp), hI.d2, (fun h => (hI.c3 h).keep hkp), (fun h => rfl), (fun h => (hI.c4 h).keep hkp), hI.d4, (fun h => (hI.c5 h).keep hkp), hI.d5, (fun h => (hI.c6 h).keep hkp), hI.d6, (fun h => (hI.c7 h).keep hkp), hI.d7, (fun h => (hI.c8 h).keep hkp), hI.d8, (fun h => (hI.c9 h).keep hkp), hI.d9, (fun h => (hI.c10 h).keep hkp), hI.d10⟩
        by_cases hn : n = 3
        · subst hn
          simp [S6.vals, look]
        · simp [S6.vals, look, hn]
      · simp only [S6.n, cond_true, cond_false] <;> omega
    · exact Bool.noConfusion (show true = false from hl)
    · exact Bool.noConfusion (show true = false from hl)
    · exact Bool.noConfusion (show true = false from hl)
    · exact Bool.noConfusion (show true = false from hl)
    · obtain rfl : g4 = false := hl
      obtain rfl : i4 = false := by
        cases i4 with
        | false => rfl
        | true => exact (hI.d4 rfl).symm
      have hBlt : B < W.heap.size := Nat.lt_of_lt_of_le hB hI.st.size
      refine wpOp_step rfl (fun K' hK => ?_)
      rw [if_pos (by rfl)]
      go_simp
      refine (mk2 B 4 b3 W).mono ?_
      rintro e w' ⟨rfl, rfl⟩
      refine hK _ _ ⟨(hI.st.call ((Below.refl _ _).alloc (Nat.le_refl _) _)).sub (by repeat (first | exact List.nil_sublist _ | apply List.Sublist.cons_cons | apply List.Sublist.cons)), ⟨f0, g1, g2, g3, true, g5, g6, g7, g8, g9, g10, i1, i2, i3, false, i5, i6, i7, i8, i9, i10, i11, i12, i13, i14, m, x1, x2, x3, Value.func (.func 84) #[] #[.pointer (some ⟨b3, 0, none⟩), .pointer (some ⟨W.heap.size, 0, none⟩)], x5, x6, x7, x8, x9, x10⟩, rfl, rfl, ?_, ?_⟩
      · refine ⟨hI.st.call ((Below.refl _ _).alloc (Nat.le_refl _) _), fun h => ?_, fun h => ?_, (fun h => (hI.c1 h).keep (keep_alloc _ _)), hI.d1, (fun h => (hI.c2 h).keep (keep_alloc _ _)), hI.d2, (fun h => (hI.c3 h).keep (keep_alloc _ _)), hI.d3, (fun _ => ⟨W.heap.size, rfl, (keep_new W _ _), Nat.ne_of_lt hBlt⟩), (fun h => rfl), (fun h => (hI.c5 h).keep (keep_alloc _ _)), hI.d5, (fun h => (hI.c6 h).keep (keep_alloc _ _)), hI.d6, (fun h => (hI.c7 h).keep (keep_alloc _ _)), hI.d7, (fun h => (hI.c8 h).keep (keep_alloc _ _)), hI.d8, (fun h => (hI.c9 h).keep (keep_alloc _ _)), hI.d9, (fun h => (hI.c10 h).keep (keep_alloc _ _)), hI.d10⟩
        · obtain ⟨m', h1, h2, h3⟩ := hI.map h
          exact ⟨m', h1, h2, (h3.alloc _).congr fun n => by simp [S6.vals, look]⟩
        · exact hI.nomap h
      · simp only [S6.n, cond_true, cond_false] <;> omega
    · obtain rfl : i4 = false := hl
      obtain rfl : f0 = true := (dep_of (j := 24) rfl hi ⟨0, .data⟩ (by simp) rfl)
      obtain rfl : g4 = true := (dep_of (j := 24) rfl hi ⟨23, .data⟩ (by simp) rfl)
      obtain ⟨m', h1, h2, h3⟩ := hI.map rfl
      obtain rfl : m = .map (some m') := h1
      refine wpOp_step rfl (fun K' hK => ?_)
      rw [if_pos (by rfl)]
      refine wp_insert_op rfl _ _ umap uint' rfl h3 4 (x4) rfl rfl (by simp [S6.vals, look]) (fun w' hmp hkp hgb hme => ?_)
      have hSt := hI.st.keepMap hgb h2 hme
      refine hK _ _ ⟨hSt.sub (by repeat (first | exact List.nil_sublist _ | apply List.Sublist.cons_cons | apply List.Sublist.cons)), ⟨true, g1, g2, g3, true, g5, g6, g7, g8, g9, g10, i1, i2, i3, true, i5, i6, i7, i8, i9, i10, i11, i12, i13, i14, .map (some m'), x1, x2, x3, x4, x5, x6, x7, x8, x9, x10⟩, rfl, rfl, ?_, ?_⟩
      · refine ⟨hSt, fun _ => ⟨m', rfl, h2, hmp.congr fun n => ?_⟩, fun h => (by cases h), (fun h => (hI.c1 h).keep hkp), hI.d1, (fun h => (hI.c2 h).keep hkp), hI.d2, (fun h => (hI.c3 h).keep hkp), hI.d3, (fun h => (hI.c4 h).keep hkp), (fun h => rfl), (fun h => (hI.c5 h).keep hkp), hI.d5, (fun h => (hI.c6 h).keep hkp), hI.d6, (fun h => (hI.c7 h).keep hkp), hI.d7, (fun h => (hI.c8 h).keep hkp), hI.d8, (fun h => (hI.c9 h).keep hkp), hI.d9, (fun h => (hI.c10 h).keep hkp), hI.d10⟩
        by_cases hn : n = 4
        · subst hn
          simp [S6.vals, look]
        · simp [S6.vals, look, hn]
      · simp only [S6.n, cond_true, cond_false] <;> omega
    · exact Bool.noConfusion (show true = false from hl)
    · exact Bool.noConfusion (show true = false from hl)
    · exact Bool.noConfusion (show true = false from hl)
    · exact Bool.noConfusion (show true = false from hl)
    · obtain rfl : g5 = false := hl
      obtain rfl : i5 = false := by
        cases i5 with
        | false => rfl
        | true => exact (hI.d5 rfl).symm
      have hBlt : B < W.heap.size := Nat.lt_of_lt_of_le hB hI.st.size
      refine wpOp_step rfl (fun K' hK => ?_)
      rw [if_pos (by rfl)]
      go_simp
      refine (mk1 B 3 b3 W).mono ?_
      rintro e w' ⟨rfl, rfl⟩
      refine hK _ _ ⟨(hI.st.call ((Below.refl _ _).alloc (Nat.le_refl _) _)).sub (by repeat (first | exact List.nil_sublist _ | apply List.Sublist.cons_cons | apply List.Sublist.cons)), ⟨f0, g1, g2, g3, g4, true, g6, g7, g8, g9, g10, i1, i2, i3, i4, false, i6, i7, i8, i9, i10, i11, i12, i13, i14, m, x1, x2, x3, x4, Value.func (.func 81) #[] #[.pointer (some ⟨W.heap.size, 0, none⟩), .pointer (some ⟨b3, 0, none⟩)], x6, x7, x8, x9, x10⟩, rfl, rfl, ?_, ?_⟩
      · refine ⟨hI.st.call ((Below.refl _ _).alloc (Nat.le_refl _) _), fun h => ?_, fun h => ?_, (fun h => (hI.c1 h).keep (keep_alloc _ _)), hI.d1, (fun h => (hI.c2 h).keep (keep_alloc _ _)), hI.d2, (fun h => (hI.c3 h).keep (keep_alloc _ _)), hI.d3, (fun h => (hI.c4 h).keep (keep_alloc _ _)), hI.d4, (fun _ => ⟨W.heap.size, rfl, (keep_new W _ _), Nat.ne_of_lt hBlt⟩), (fun h => rfl), (fun h => (hI.c6 h).keep (keep_alloc _ _)), hI.d6, (fun h => (hI.c7 h).keep (keep_alloc _ _)), hI.d7, (fun h => (hI.c8 h).keep (keep_alloc _ _)), hI.d8, (fun h => (hI.c9 h).keep (keep_alloc _ _)), hI.d9, (fun h => (hI.c10 h).keep (keep_alloc _ _)), hI.d10⟩
        · obtain ⟨m', h1, h2, h3⟩ := hI.map h
          exact ⟨m', h1, h2, (h3.alloc _).congr fun n => by simp [S6.vals, look]⟩
        · exact hI.nomap h
      · simp only [S6.n, cond_true, cond_false] <;> omega
    · obtain rfl : i5 = false := hl
      obtain rfl : f0 = true := (dep_of (j := 30) rfl hi ⟨0, .data⟩ (by simp) rfl)
      obtain rfl : g5 = true := (dep_of (j := 30) rfl hi ⟨29, .data⟩ (by simp) rfl)
      obtain ⟨m', h1, h2, h3⟩ := hI.map rfl
      obtain rfl : m = .map (some m') := h1
      refine wpOp_step rfl (fun K' hK => ?_)
      rw [if_pos (by rfl)]
      refine wp_insert_op rfl _ _ umap uint' rfl h3 9 (x5) rfl rfl (by simp [S6.vals, look]) (fun w' hmp hkp hgb hme => ?_)
      have hSt := hI.st.keepMap hgb h2 hme
      refine hK _ _ ⟨hSt.sub (by repeat (first | exact List.nil_sublist _ | apply List.Sublist.cons_cons | apply List.Sublist.cons)), ⟨true, g1, g2, g3, g4, true, g6, g7, g8, g9, g10, i1, i2, i3, i4, true, i6, i7, i8, i9, i10, i11, i12, i13, i14, .map (some m'), x1, x2, x3, x4, x5, x6, x7, x8, x9, x10⟩, rfl, rfl, ?_, ?_⟩
      · refine ⟨hSt, fun _ => ⟨m', rfl, h2, hmp.congr fun n => ?_⟩, fun h => (by cases h), (fun h => (hI.c1 h).keep hkp), hI.d1, (fun h => (hI.c2 h).keep hkp), hI.d2, (fun h => (hI.c3 h).keep hkp), hI.d3, (fun h => (hI.c4 h).keep hkp), hI.d4, (fun h => (hI.c5 h).keep hkp), (fun h => rfl), (fun h => (hI.c6 h).keep hkp), hI.d6, (fun h => (hI.c7 h).keep hkp), hI.d7, (fun h => (hI.c8 h).keep hkp), hI.d8, (fun h => (hI.c9 h).keep hkp), hI.d9, (fun h => (hI.c10 h).keep hkp), hI.d10⟩
        by_cases hn : n = 9
        · subst hn
          simp [S6.vals, look]
        · simp [S6.vals, look, hn]
      · simp only [S6.n, cond_true, cond_false] <;> omega
    · exact Bool.noConfusion (show true = false from hl)
    · exact Bool.noConfusion (show true = false from hl)
    · exact Bool.noConfusion (show true = false from hl)
    · exact Bool.noConfusion (show true = false from hl)
    · obtain rfl : g6 = false := hl
      obtain rfl : i6 = false := by
        cases i6 with
        | false => rfl
        | true => exact (hI.d6 rfl).symm
      have hBlt : B < W.heap.size := Nat.lt_of_lt_of_le hB hI.st.size
      refine wpOp_step rfl (fun K' hK => ?_)
      rw [if_pos (by rfl)]
      go_simp
      refine (mk2 B 3 b3 W).mono ?_
      rintro e w' ⟨rfl, rfl⟩
      refine hK _ _ ⟨(hI.st.call ((Below.refl _ _).alloc (Nat.le_refl _) _)).sub (by repeat (first | exact List.nil_sublist _ | apply List.Sublist.cons_cons | apply List.Sublist.cons)), ⟨f0, g1, g2, g3, g4, g5, true, g7, g8, g9, g10, i1, i2, i3, i4, i5, false, i7, i8, i9, i10, i11, i12, i13, i14, m, x1, x2, x3, x4, x5, Value.func (.func 84) #[] #[.pointer (some ⟨b3, 0, none⟩), .pointer (some ⟨W.heap.size, 0, none⟩)], x7, x8, x9, x10⟩, rfl, rfl, ?_, ?_⟩
      · refine ⟨hI.st.call ((Below.refl _ _).alloc (Nat.le_refl _) _), fun h => ?_, fun h => ?_, (fun h => (hI.c1 h).keep (keep_alloc _ _)), hI.d1, (fun h => (hI.c2 h).keep (keep_alloc _ _)), hI.d2, (fun h => (hI.c3 h).keep (keep_alloc _ _)), hI.d3, (fun h => (hI.c4 h).keep (keep_alloc _ _)), hI.d4, (fun h => (hI.c5 h).keep (keep_alloc _ _)), hI.d5, (fun _ => ⟨W.heap.size, rfl, (keep_new W _ _), Nat.ne_of_lt hBlt⟩), (fun h => rfl), (fun h => (hI.c7 h).keep (keep_alloc _ _)), hI.d7, (fun h => (hI.c8 h).keep (keep_alloc _ _)), hI.d8, (fun h => (hI.c9 h).keep (keep_alloc _ _)), hI.d9, (fun h => (hI.c10 h).keep (keep_alloc _ _)), hI.d10⟩
        · obtain ⟨m', h1, h2, h3⟩ := hI.map h
          exact ⟨m', h1, h2, (h3.alloc _).congr fun n => by simp [S6.vals, look]⟩
        · exact hI.nomap h
      · simp only [S6.n, cond_true, cond_false] <;> omega
    · obtain rfl : i6 = false := hl
      obtain rfl : f0 = true := (dep_of (j := 36) rfl hi ⟨0, .data⟩ (by simp) rfl)
      obtain rfl : g6 = true := (dep_of (j := 36) rfl hi ⟨35, .data⟩ (by simp) rfl)
      obtain ⟨m', h1, h2, h3⟩ := hI.map rfl
      obtain rfl : m = .map (some m') := h1
      refine wpOp_step rfl (fun K' hK => ?_)
      rw [if_pos (by rfl)]
      refine wp_insert_op rfl _ _ umap uint' rfl h3 10 (x6) rfl rfl (by simp [S6.vals, look]) (fun w' hmp hkp hgb hme => ?_)
      have hSt := hI.st.keepMap hgb h2 hme
      refine hK _ _ ⟨hSt.sub (by repeat (first | exact List.nil_sublist _ | apply List.Sublist.cons_cons | apply List.Sublist.cons)), ⟨true, g1, g2, g3, g4, g5, true, g7, g8, g9, g10, i1, i2, i3, i4, i5, true, i7, i8, i9, i10, i11, i12, i13, i14, .map (some m'), x1, x2, x3, x4, x5, x6, x7, x8, x9, x10⟩, rfl, rfl, ?_, ?_⟩
      · refine ⟨hSt, fun _ => ⟨m', rfl, h2, hmp.congr fun n => ?_⟩, fun h => (by cases h), (fun h => (hI.c1 h).keep hkp), hI.d1, (fun h => (hI.c2 h).keep hkp), hI.d2, (fun h => (hI.c3 h).keep hkp), hI.d3, (fun h => (hI.c4 h).keep hkp), hI.d4, (fun h => (hI.c5 h).keep hkp), hI.d5, (fun h => (hI.c6 h).keep hkp), (fun h => rfl), (fun h => (hI.c7 h).keep hkp), hI.d7, (fun h => (hI.c8 h).keep hkp), hI.d8, (fun h => (hI.c9 h).keep hkp), hI.d9, (fun h => (hI.c10 h).keep hkp), hI.d10⟩
        by_cases hn : n = 10
        · subst hn
          simp [S6.vals, look]
        · simp [S6.vals, look, hn]
      · simp only [S6.n, cond_true, cond_false] <;> omega
    · exact Bool.noConfusion (show true = false from hl)
    · obtain rfl : i11 = false := hl
      obtain rfl : f0 = true := (dep_of (j := 38) rfl hi ⟨0, .data⟩ (by simp) rfl)
      obtain ⟨m', h1, h2, h3⟩ := hI.map rfl
      obtain rfl : m = .map (some m') := h1
      refine wpOp_step rfl (fun K' hK => ?_)
      rw [if_pos (by rfl)]
      refine wp_insert_op rfl _ _ umap uint' rfl h3 5 (Value.func (.func 87) #[] #[.pointer (some ⟨b3, 0, none⟩), .pointer (some ⟨b2, 0, none⟩)]) rfl rfl (by simp [S6.vals, look]) (fun w' hmp hkp hgb hme => ?_)
      have hSt := hI.st.keepMap hgb h2 hme
      refine hK _ _ ⟨hSt.sub (by repeat (first | exact List.nil_sublist _ | apply List.Sublist.cons_cons | apply List.Sublist.cons)), ⟨true, g1, g2, g3, g4, g5, g6, g7, g8, g9, g10, i1, i2, i3, i4, i5, i6, i7, i8, i9, i10, true, i12, i13, i14, .map (some m'), x1, x2, x3, x4, x5, x6, x7, x8, x9, x10⟩, rfl, rfl, ?_, ?_⟩
      · refine ⟨hSt, fun _ => ⟨m', rfl, h2, hmp.congr fun n => ?_⟩, fun h => (by cases h), (fun h => (hI.c1 h).keep hkp), hI.d1, (fun h => (hI.c2 h).keep hkp), hI.d2, (fun h => (hI.c3 h).keep hkp), hI.d3, (fun h => (hI.c4 h).keep hkp), hI.d4, (fun h => (hI.c5 h).keep hkp), hI.d5, (fun h => (hI.c6 h).keep hkp), hI.d6, (fun h => (hI.c7 h).keep hkp), hI.d7, (fun h => (hI.c8 h).keep hkp), hI.d8, (fun h => (hI.c9 h).keep hkp), hI.d9, (fun h => (hI.c10 h).keep hkp), hI.d10⟩
        by_cases hn : n = 5
        · subst hn
          simp [S6.vals, look]
        · simp [S6.vals, look, hn]
      · simp only [S6.n, cond_true, cond_false] <;> omega
    · exact Bool.noConfusion (show true = false from hl)
    · obtain rfl : i12 = false := hl
      obtain rfl : f0 = true := (dep_of (j := 40) rfl hi ⟨0, .data⟩ (by simp) rfl)
      obtain ⟨m', h1, h2, h3⟩ := hI.map rfl
      obtain rfl : m = .map (some m') := h1
      refine wpOp_step rfl (fun K' hK => ?_)
      rw [if_pos (by rfl)]
      refine wp_insert_op rfl _ _ umap uint' rfl h3 6 (Value.func (.func 89) #[] #[.pointer (some ⟨b3, 0, none⟩), .pointer (some ⟨b2, 0, none⟩)]) rfl rfl (by simp [S6.vals, look]) (fun w' hmp hkp hgb hme => ?_)
      have hSt := hI.st.keepMap hgb h2 hme
      refine hK _ _ ⟨hSt.sub (by repeat (first | exact List.nil_sublist _ | apply List.Sublist.cons_cons | apply List.Sublist.cons)), ⟨true, g1, g2, g3, g4, g5, g6, g7, g8, g9, g10, i1, i2, i3, i4, i5, i6, i7, i8, i9, i10, i11, true, i13, i14, .map (some m'), x1, x2, x3, x4, x5, x6, x7, x8, x9, x10⟩, rfl, rfl, ?_, ?_⟩
      · refine ⟨hSt, fun _ => ⟨m', rfl, h2, hmp.congr fun n => ?_⟩, fun h => (by cases h), (fun h => (hI.c1 h).keep hkp), hI.d1, (fun h => (hI.c2 h).keep hkp), hI.d2, (fun h => (hI.c3 h).keep hkp), hI.d3, (fun h => (hI.c4 h).keep hkp), hI.d4, (fun h => (hI.c5 h).keep hkp), hI.d5, (fun h => (hI.c6 h).keep hkp), hI.d6, (fun h => (hI.c7 h).keep hkp), hI.d7, (fun h => (hI.c8 h).keep hkp), hI.d8, (fun h => (hI.c9 h).keep hkp), hI.d9, (fun h => (hI.c10 h).keep hkp), hI.d10⟩
        by_cases hn : n = 6
        · subst hn
          simp [S6.vals, look]
        · simp [S6.vals, look, hn]
      · simp only [S6.n, cond_true, cond_false] <;> omega
    · exact Bool.noConfusion (show true = false from hl)
    · exact Bool.noConfusion (show true = false from hl)
    · exact Bool.noConfusion (show true = false from hl)
    · exact Bool.noConfusion (show true = false from hl)
    · obtain rfl : g7 = false := hl
      obtain rfl : i7 = false := by
        cases i7 with
        | false => rfl
        | true => exact (hI.d7 rfl).symm
      have hBlt : B < W.heap.size := Nat.lt_of_lt_of_le hB hI.st.size
      refine wpOp_step rfl (fun K' hK => ?_)
      rw [if_pos (by rfl)]
      go_simp
      refine (mk3 B 11 b3 W).mono ?_
      rintro e w' ⟨rfl, rfl⟩
      refine hK _ _ ⟨(hI.st.call ((Below.refl _ _).alloc (Nat.le_refl _) _)).sub (by repeat (first | exact List.nil_sublist _ | apply List.Sublist.cons_cons | apply List.Sublist.cons)), ⟨f0, g1, g2, g3, g4, g5, g6, true, g8, g9, g10, i1, i2, i3, i4, i5, i6, false, i8, i9, i10, i11, i12, i13, i14, m, x1, x2, x3, x4, x5, x6, Value.func (.func 86) #[] #[.pointer (some ⟨b3, 0, none⟩), .pointer (some ⟨W.heap.size, 0, none⟩)], x8, x9, x10⟩, rfl, rfl, ?_, ?_⟩
      · refine ⟨hI.st.call ((Below.refl _ _).alloc (Nat.le_refl _) _), fun h => ?_, fun h => ?_, (fun h => (hI.c1 h).keep (keep_alloc _ _)), hI.d1, (fun h => (hI.c2 h).keep (keep_alloc _ _)), hI.d2, (fun h => (hI.c3 h).keep (keep_alloc _ _)), hI.d3, (fun h => (hI.c4 h).keep (keep_alloc _ _)), hI.d4, (fun h => (hI.c5 h).keep (keep_alloc _ _)), hI.d5, (fun h => (hI.c6 h).keep (keep_alloc _ _)), hI.d6, (fun _ => ⟨W.heap.size, rfl, (keep_new W _ _), Nat.ne_of_lt hBlt⟩), (fun h => rfl), (fun h => (hI.c8 h).keep (keep_alloc _ _)), hI.d8, (fun h => (hI.c9 h).keep (keep_alloc _ _)), hI.d9, (fun h => (hI.c10 h).keep (keep_alloc _ _)), hI.d10⟩
        · obtain ⟨m', h1, h2, h3⟩ := hI.map h
          exact ⟨m', h1, h2, (h3.alloc _).congr fun n => by simp [S6.vals, look]⟩
        · exact hI.nomap h
      · simp only [S6.n, cond_true, cond_false] <;> omega
    · obtain rfl : i7 = false := hl
      obtain rfl : f0 = true := (dep_of (j := 46) rfl hi ⟨0, .data⟩ (by simp) rfl)
      obtain rfl : g7 = true := (dep_of (j := 46) rfl hi ⟨45, .data⟩ (by simp) rfl)
      obtain ⟨m', h1, h2, h3⟩ := hI.map rfl
      obtain rfl : m = .map (some m') := h1
      refine wpOp_step rfl (fun K' hK => ?_)
      rw [if_pos (by rfl)]
      refine wp_insert_op rfl _ _ umap uint' rfl h3 7 (x7) rfl rfl (by simp [S6.vals, look]) (fun w' hmp hkp hgb hme => ?_)
      have hSt := hI.st.keepMap hgb h2 hme
      refine hK _ _ ⟨hSt.sub (by repeat (first | exact List.nil_sublist _ | apply List.Sublist.cons_cons | apply List.Sublist.cons)), ⟨true, g1, g2, g3, g4, g5, g6, true, g8, g9, g10, i1, i2, i3, i4, i5, i6, true, i8, i9, i10, i11, i12, i13, i14, .map (some m'), x1, x2, x3, x4, x5, x6, x7, x8, x9, x10⟩, rfl, rfl, ?_, ?_⟩
      · refine ⟨hSt, fun _ => ⟨m', rfl, h2, hmp.congr fun n => ?_⟩, fun h => (by cases h), (fun h => (hI.c1 h).keep hkp), hI.d1, (fun h => (hI.c2 h).keep hkp), hI.d2, (fun h => (hI.c3 h).keep hkp), hI.d3, (fun h => (hI.c4 h).keep hkp), hI.d4, (fun h => (hI.c5 h).keep hkp), hI.d5, (fun h => (hI.c6 h).keep hkp), hI.d6, (fun h => (hI.c7 h).keep hkp), (fun h => rfl), (fun h => (hI.c8 h).keep hkp), hI.d8, (fun h => (hI.c9 h).keep hkp), hI.d9, (fun h => (hI.c10 h).keep hkp), hI.d10⟩
        by_cases hn : n = 7
        · subst hn
          simp [S6.vals, look]
        · simp [S6.vals, look, hn]
      · simp only [S6.n, cond_true, cond_false] <;> omega
    · exact Bool.noConfusion (show true = false from hl)
    · exact Bool.noConfusion (show true = false from hl)
    · exact Bool.noConfusion (show true = false from hl)
    · exact Bool.noConfusion (show true = false from hl)
    · obtain rfl : g8 = false := hl
      obtain rfl : i8 = false := by
        cases i8 with
        | false => rfl
        | true => exact (hI.d8 rfl).symm
      have hBlt : B < W.heap.size := Nat.lt_of_lt_of_le hB hI.st.size
      refine wpOp_step rfl (fun K' hK => ?_)
      rw [if_pos (by rfl)]
      go_simp
      refine (mk3 B 12 b3 W).mono ?_
      rintro e w' ⟨rfl, rfl⟩
      refine hK _ _ ⟨(hI.st.call ((Below.refl _ _).alloc (Nat.le_refl _) _)).sub (by repeat (first | exact List.nil_sublist _ | apply List.Sublist.cons_cons | apply List.Sublist.cons)), ⟨f0, g1, g2, g3, g4, g5, g6, g7, true, g9, g10, i1, i2, i3, i4, i5, i6, i7, false, i9, i10, i11, i12, i13, i14, m, x1, x2, x3, x4, x5, x6, x7, Value.func (.func 86) #[] #[.pointer (some ⟨b3, 0, none⟩), .pointer (some ⟨W.heap.size, 0, none⟩)], x9, x10⟩, rfl, rfl, ?_, ?_⟩
      · refine ⟨hI.st.call ((Below.refl _ _).alloc (Nat.le_refl _) _), fun h => ?_, fun h => ?_, (fun h => (hI.c1 h).keep (keep_alloc _ _)), hI.d1, (fun h => (hI.c2 h).keep (keep_alloc _ _)), hI.d2, (fun h => (hI.c3 h).keep (keep_alloc _ _)), hI.d3, (fun h => (hI.c4 h).keep (keep_alloc _ _)), hI.d4, (fun h => (hI.c5 h).keep (keep_alloc _ _)), hI.d5, (fun h => (hI.c6 h).keep (keep_alloc _ _)), hI.d6, (fun h => (hI.c7 h).keep (keep_alloc _ _)), hI.d7, (fun _ => ⟨W.heap.size, rfl, (keep_new W _ _), Nat.ne_of_lt hBlt⟩), (fun h => rfl), (fun h => (hI.c9 h).keep (keep_alloc _ _)), hI.d9, (fun h => (hI.c10 h).keep (keep_alloc _ _)), hI.d10⟩
        · obtain ⟨m', h1, h2, h3⟩ := hI.map h
          exact ⟨m', h1, h2, (h3.alloc _).congr fun n => by simp [S6.vals, look]⟩
        · exact hI.nomap h
      · simp only [S6.n, cond_true, cond_false] <;> omega
    · obtain rfl : i8 = false := hl
      obtain rfl : f0 = true := (dep_of (j := 52) rfl hi ⟨0, .data⟩ (by simp) rfl)
      obtain rfl : g8 = true := (dep_of (j := 52) rfl hi ⟨51, .data⟩ (by simp) rfl)
      obtain ⟨m', h1, h2, h3⟩ := hI.map rfl
      obtain rfl : m = .map (some m') := h1
      refine wpOp_step rfl (fun K' hK => ?_)
      rw [if_pos (by rfl)]
      refine wp_insert_op rfl _ _ umap uint' rfl h3 8 (x8) rfl rfl (by simp [S6.vals, look]) (fun w' hmp hkp hgb hme => ?_)
      have hSt := hI.st.keepMap hgb h2 hme
      refine hK _ _ ⟨hSt.sub (by repeat (first | exact List.nil_sublist _ | apply List.Sublist.cons_cons | apply List.Sublist.cons)), ⟨true, g1, g2, g3, g4, g5, g6, g7, true, g9, g10, i1, i2, i3, i4, i5, i6, i7, true, i9, i10, i11, i12, i13, i14, .map (some m'), x1, x2, x3, x4, x5, x6, x7, x8, x9, x10⟩, rfl, rfl, ?_, ?_⟩
      · refine ⟨hSt, fun _ => ⟨m', rfl, h2, hmp.congr fun n => ?_⟩, fun h => (by cases h), (fun h => (hI.c1 h).keep hkp), hI.d1, (fun h => (hI.c2 h).keep hkp), hI.d2, (fun h => (hI.c3 h).keep hkp), hI.d3, (fun h => (hI.c4 h).keep hkp), hI.d4, (fun h => (hI.c5 h).keep hkp), hI.d5, (fun h => (hI.c6 h).keep hkp), hI.d6, (fun h => (hI.c7 h).keep hkp), hI.d7, (fun h => (hI.c8 h).keep hkp), (fun h => rfl), (fun h => (hI.c9 h).keep hkp), hI.d9, (fun h => (hI.c10 h).keep hkp), hI.d10⟩
        by_cases hn : n = 8
        · subst hn
          simp [S6.vals, look]
        · simp [S6.vals, look, hn]
      · simp only [S6.n, cond_true, cond_false] <;> omega
    · exact Bool.noConfusion (show true = false from hl)
    · exact Bool.noConfusion (show true = false from hl)
    · exact Bool.noConfusion (show true = false from hl)
    · exact Bool.noConfusion (show true = false from hl)
    · obtain rfl : g9 = false := hl
      obtain rfl : i9 = false := by
        cases i9 with
        | false => rfl
        | true => exact (hI.d9 rfl).symm
      have hBlt : B < W.heap.size := Nat.lt_of_lt_of_le hB hI.st.size
      refine wpOp_step rfl (fun K' hK => ?_)
      rw [if_pos (by rfl)]
      go_simp
      refine (mk3 B 16 b3 W).mono ?_
      rintro e w' ⟨rfl, rfl⟩
      refine hK _ _ ⟨(hI.st.call ((Below.refl _ _).alloc (Nat.le_refl _) _)).sub (by repeat (first | exact List.nil_sublist _ | apply List.Sublist.cons_cons | apply List.Sublist.cons)), ⟨f0, g1, g2, g3, g4, g5, g6, g7, g8, true, g10, i1, i2, i3, i4, i5, i6, i7, i8, false, i10, i11, i12, i13, i14, m, x1, x2, x3, x4, x5, x6, x7, x8, Value.func (.func 86) #[] #[.pointer (some ⟨b3, 0, none⟩), .pointer (some ⟨W.heap.size, 0, none⟩)], x10⟩, rfl, rfl, ?_, ?_⟩
      · refine ⟨hI.st.call ((Below.refl _ _).alloc (Nat.le_refl _) _), fun h => ?_, fun h => ?_, (fun h => (hI.c1 h).keep (keep_alloc _ _)), hI.d1, (fun h => (hI.c2 h).keep (keep_alloc _ _)), hI.d2, (fun h => (hI.c3 h).keep (keep_alloc _ _)), hI.d3, (fun h => (hI.c4 h).keep (keep_alloc _ _)), hI.d4, (fun h => (hI.c5 h).keep (keep_alloc _ _)), hI.d5, (fun h => (hI.c6 h).keep (keep_alloc _ _)), hI.d6, (fun h => (hI.c7 h).keep (keep_alloc _ _)), hI.d7, (fun h => (hI.c8 h).keep (keep_alloc _ _)), hI.d8, (fun _ => ⟨W.heap.size, rfl, (keep_new W _ _), Nat.ne_of_lt hBlt⟩), (fun h => rfl), (fun h => (hI.c10 h).keep (keep_alloc _ _)), hI.d10⟩
        · obtain ⟨m', h1, h2, h3⟩ := hI.map h
          exact ⟨m', h1, h2, (h3.alloc _).congr fun n => by simp [S6.vals, look]⟩
        · exact hI.nomap h
      · simp only [S6.n, cond_true, cond_false] <;> omega
    · obtain rfl : i9 = false := hl
      obtain rfl : f0 = true := (dep_of (j := 58) rfl hi ⟨0, .data⟩ (by simp) rfl)
      obtain rfl : g9 = true := (dep_of (j := 58) rfl hi ⟨57, .data⟩ (by simp) rfl)
      obtain ⟨m', h1, h2, h3⟩ := hI.map rfl
      obtain rfl : m = .map (some m') := h1
      refine wpOp_step rfl (fun K' hK => ?_)
      rw [if_pos (by rfl)]
      refine wp_insert_op rfl _ _ umap uint' rfl h3 12 (x9) rfl rfl (by simp [S6.vals, look]) (fun w' hmp hkp hgb hme => ?_)
      have hSt := hI.st.keepMap hgb h2 hme
      refine hK _ _ ⟨hSt.sub (by repeat (first | exact List.nil_sublist _ | apply List.Sublist.cons_cons | apply List.Sublist.cons)), ⟨true, g1, g2, g3, g4, g5, g6, g7, g8, true, g10, i1, i2, i3, i4, i5, i6, i7, i8, true, i10, i11, i12, i13, i14, .map (some m'), x1, x2, x3, x4, x5, x6, x7, x8, x9, x10⟩, rfl, rfl, ?_, ?_⟩
      · refine ⟨hSt, fun _ => ⟨m', rfl, h2, hmp.congr fun n => ?_⟩, fun h => (by cases h), (fun h => (hI.c1 h).keep hkp), hI.d1, (fun h => (hI.c2 h).keep hkp), hI.d2, (fun h => (hI.c3 h).keep hkp), hI.d3, (fun h => (hI.c4 h).keep hkp), hI.d4, (fun h => (hI.c5 h).keep hkp), hI.d5, (fun h => (hI.c6 h).keep hkp), hI.d6, (fun h => (hI.c7 h).keep hkp), hI.d7, (fun h => (hI.c8 h).keep hkp), hI.d8, (fun h => (hI.c9 h).keep hkp), (fun h => rfl), (fun h => (hI.c10 h).keep hkp), hI.d10⟩
        by_cases hn : n = 12
        · subst hn
          simp [S6.vals, look]
        · simp [S6.vals, look, hn]
      · simp only [S6.n, cond_true, cond_false] <;> omega
    · exact Bool.noConfusion (show true = false from hl)
    · exact Bool.noConfusion (show true = false from hl)
    · exact Bool.noConfusion (show true = false from hl)
    · exact Bool.noConfusion (show true = false from hl)
    · obtain rfl : g10 = false := hl
      obtain rfl : i10 = false := by
        cases i10 with
        | false => rfl
        | true => exact (hI.d10 rfl).symm
      have hBlt : B < W.heap.size := Nat.lt_of_lt_of_le hB hI.st.size
      refine wpOp_step rfl (fun K' hK => ?_)
      rw [if_pos (by rfl)]
      go_simp
      refine (mk3 B 17 b3 W).mono ?_
      rintro e w' ⟨rfl, rfl⟩
      refine hK _ _ ⟨(hI.st.call ((Below.refl _ _).alloc (Nat.le_refl _) _)).sub (by repeat (first | exact List.nil_sublist _ | apply List.Sublist.cons_cons | apply List.Sublist.cons)), ⟨f0, g1, g2, g3, g4, g5, g6, g7, g8, g9, true, i1, i2, i3, i4, i5, i6, i7, i8, i9, false, i11, i12, i13, i14, m, x1, x2, x3, x4, x5, x6, x7, x8, x9, Value.func (.func 86) #[] #[.pointer (some ⟨b3, 0, none⟩), .pointer (some ⟨W.heap.size, 0, none⟩)]⟩, rfl, rfl, ?_, ?_⟩
      · refine ⟨hI.st.call ((Below.refl _ _).alloc (Nat.le_refl _) _), fun h => ?_, fun h => ?_, (fun h => (hI.c1 h).keep (keep_alloc _ _)), hI.d1, (fun h => (hI.c2 h).keep (keep_alloc _ _)), hI.d2, (fun h => (hI.c3 h).keep (keep_alloc _ _)), hI.d3, (fun h => (hI.c4 h).keep (keep_alloc _ _)), hI.d4, (fun h => (hI.c5 h).keep (keep_alloc _ _)), hI.d5, (fun h => (hI.c6 h).keep (keep_alloc _ _)), hI.d6, (fun h => (hI.c7 h).keep (keep_alloc _ _)), hI.d7, (fun h => (hI.c8 h).keep (keep_alloc _ _)), hI.d8, (fun h => (hI.c9 h).keep (keep_alloc _ _)), hI.d9, (fun _ => ⟨W.heap.size, rfl, (keep_new W _ _), Nat.ne_of_lt hBlt⟩), (fun h => rfl)⟩
        · obtain ⟨m', h1, h2, h3⟩ := hI.map h
          exact ⟨m', h1, h2, (h3.alloc _).congr fun n => by simp [S6.vals, look]⟩
        · exact hI.nomap h
      · simp only [S6.n, cond_true, cond_false] <;> omega
    · obtain rfl : i10 = false := hl
      obtain rfl : f0 = true := (dep_of (j := 64) rfl hi ⟨0, .data⟩ (by simp) rfl)
      obtain rfl : g10 = true := (dep_of (j := 64) rfl hi ⟨63, .data⟩ (by simp) rfl)
      obtain ⟨m', h1, h2, h3⟩ := hI.map rfl
      obtain rfl : m = .map (some m') := h1
      refine wpOp_step rfl (fun K' hK => ?_)
      rw [if_pos (by rfl)]
      refine wp_insert_op rfl _ _ umap uint' rfl h3 13 (x10) rfl rfl (by simp [S6.vals, look]) (fun w' hmp hkp hgb hme => ?_)
      have hSt := hI.st.keepMap hgb h2 hme
      refine hK _ _ ⟨hSt.sub (by repeat (first | exact List.nil_sublist _ | apply List.Sublist.cons_cons | apply List.Sublist.cons)), ⟨true, g1, g2, g3, g4, g5, g6, g7, g8, g9, true, i1, i2, i3, i4, i5, i6, i7, i8, i9, true, i11, i12, i13, i14, .map (some m'), x1, x2, x3, x4, x5, x6, x7, x8, x9, x10⟩, rfl, rfl, ?_, ?_⟩
      · refine ⟨hSt, fun _ => ⟨m', rfl, h2, hmp.congr fun n => ?_⟩, fun h => (by cases h), (fun h => (hI.c1 h).keep hkp), hI.d1, (fun h => (hI.c2 h).keep hkp), hI.d2, (fun h => (hI.c3 h).keep hkp), hI.d3, (fun h => (hI.c4 h).keep hkp), hI.d4, (fun h => (hI.c5 h).keep hkp), hI.d5, (fun h => (hI.c6 h).keep hkp), hI.d6, (fun h => (hI.c7 h).keep hkp), hI.d7, (fun h => (hI.c8 h).keep hkp), hI.d8, (fun h => (hI.c9 h).keep hkp), hI.d9, (fun h => (hI.c10 h).keep hkp), (fun h => rfl)⟩
        by_cases hn : n = 13
        · subst hn
          simp [S6.vals, look]
        · simp [S6.vals, look, hn]
      · simp only [S6.n, cond_true, cond_false] <;> omega
    · exact Bool.noConfusion (show true = false from hl)
    · obtain rfl : i13 = false := hl
      obtain rfl : f0 = true := (dep_of (j := 66) rfl hi ⟨0, .data⟩ (by simp) rfl)
      obtain ⟨m', h1, h2, h3⟩ := hI.map rfl
      obtain rfl : m = .map (some m') := h1
      refine wpOp_step rfl (fun K' hK => ?_)
      rw [if_pos (by rfl)]
      refine wp_insert_op rfl _ _ umap uint' rfl h3 11 (Value.func (.func 90) #[] #[.pointer (some ⟨b3, 0, none⟩), .pointer (some ⟨b2, 0, none⟩)]) rfl rfl (by simp [S6.vals, look]) (fun w' hmp hkp hgb hme => ?_)
      have hSt := hI.st.keepMap hgb h2 hme
      refine hK _ _ ⟨hSt.sub (by repeat (first | exact List.nil_sublist _ | apply List.Sublist.cons_cons | apply List.Sublist.cons)), ⟨true, g1, g2, g3, g4, g5, g6, g7, g8, g9, g10, i1, i2, i3, i4, i5, i6, i7, i8, i9, i10, i11, i12, true, i14, .map (some m'), x1, x2, x3, x4, x5, x6, x7, x8, x9, x10⟩, rfl, rfl, ?_, ?_⟩
      · refine ⟨hSt, fun _ => ⟨m', rfl, h2, hmp.congr fun n => ?_⟩, fun h => (by cases h), (fun h => (hI.c1 h).keep hkp), hI.d1, (fun h => (hI.c2 h).keep hkp), hI.d2, (fun h => (hI.c3 h).keep hkp), hI.d3, (fun h => (hI.c4 h).keep hkp), hI.d4, (fun h => (hI.c5 h).keep hkp), hI.d5, (fun h => (hI.c6 h).keep hkp), hI.d6, (fun h => (hI.c7 h).keep hkp), hI.d7, (fun h => (hI.c8 h).keep hkp), hI.d8, (fun h => (hI.c9 h).keep hkp), hI.d9, (fun h => (hI.c10 h).keep hkp), hI.d10⟩
        by_cases hn : n = 11
        · subst hn
          simp [S6.vals, look]
        · simp [S6.vals, look, hn]
      · simp only [S6.n, cond_true, cond_false] <;> omega
    · exact Bool.noConfusion (show true = false from hl)
    · obtain rfl : i14 = false := hl
      obtain rfl : f0 = true := (dep_of (j := 68) rfl hi ⟨0, .data⟩ (by simp) rfl)
      obtain ⟨m', h1, h2, h3⟩ := hI.map rfl
      obtain rfl : m = .map (some m') := h1
      refine wpOp_step rfl (fun K' hK => ?_)
      rw [if_pos (by rfl)]
      refine wp_insert_op rfl _ _ umap uint' rfl h3 14 (Value.func (.func 93) #[] #[.pointer (some ⟨b3, 0, none⟩), .pointer (some ⟨b2, 0, none⟩)]) rfl rfl (by simp [S6.vals, look]) (fun w' hmp hkp hgb hme => ?_)
      have hSt := hI.st.keepMap hgb h2 hme
      refine hK _ _ ⟨hSt.sub (by repeat (first | exact List.nil_sublist _ | apply List.Sublist.cons_cons | apply List.Sublist.cons)), ⟨true, g1, g2, g3, g4, g5, g6, g7, g8, g9, g10, i1, i2, i3, i4, i5, i6, i7, i8, i9, i10, i11, i12, i13, true, .map (some m'), x1, x2, x3, x4, x5, x6, x7, x8, x9, x10⟩, rfl, rfl, ?_, ?_⟩
      · refine ⟨hSt, fun _ => ⟨m', rfl, h2, hmp.congr fun n => ?_⟩, fun h => (by cases h), (fun h => (hI.c1 h).keep hkp), hI.d1, (fun h => (hI.c2 h).keep hkp), hI.d2, (fun h => (hI.c3 h).keep hkp), hI.d3, (fun h => (hI.c4 h).keep hkp), hI.d4, (fun h => (hI.c5 h).keep hkp), hI.d5, (fun h => (hI.c6 h).keep hkp), hI.d6, (fun h => (hI.c7 h).keep hkp), hI.d7, (fun h => (hI.c8 h).keep hkp), hI.d8, (fun h => (hI.c9 h).keep hkp), hI.d9, (fun h => (hI.c10 h).keep hkp), hI.d10⟩
        by_cases hn : n = 14
        · subst hn
          simp [S6.vals, look]
        · simp [S6.vals, look, hn]
      · simp only [S6.n, cond_true, cond_false] <;> omega
    · exfalso
      obtain rfl : f0 = true := (dep_of (j := 69) rfl hi ⟨0, .data⟩ (by simp) rfl)
      obtain rfl : g1 = true := (dep_of (j := 69) rfl hi ⟨5, .data⟩ (by simp) rfl)
      obtain rfl : g2 = true := (dep_of (j := 69) rfl hi ⟨11, .data⟩ (by simp) rfl)
      obtain rfl : g3 = true := (dep_of (j := 69) rfl hi ⟨17, .data⟩ (by simp) rfl)
      obtain rfl : g4 = true := (dep_of (j := 69) rfl hi ⟨23, .data⟩ (by simp) rfl)
      obtain rfl : g5 = true := (dep_of (j := 69) rfl hi ⟨29, .data⟩ (by simp) rfl)
      obtain rfl : g6 = true := (dep_of (j := 69) rfl hi ⟨35, .data⟩ (by simp) rfl)
      obtain rfl : g7 = true := (dep_of (j := 69) rfl hi ⟨45, .data⟩ (by simp) rfl)
      obtain rfl : g8 = true := (dep_of (j := 69) rfl hi ⟨51, .data⟩ (by simp) rfl)
      obtain rfl : g9 = true := (dep_of (j := 69) rfl hi ⟨57, .data⟩ (by simp) rfl)
      obtain rfl : g10 = true := (dep_of (j := 69) rfl hi ⟨63, .data⟩ (by simp) rfl)
      obtain rfl : i1 = true := (dep_of (j := 69) rfl hi ⟨6, .data⟩ (by simp) rfl)
      obtain rfl : i2 = true := (dep_of (j := 69) rfl hi ⟨12, .data⟩ (by simp) rfl)
      obtain rfl : i3 = true := (dep_of (j := 69) rfl hi ⟨18, .data⟩ (by simp) rfl)
      obtain rfl : i4 = true := (dep_of (j := 69) rfl hi ⟨24, .data⟩ (by simp) rfl)
      obtain rfl : i5 = true := (dep_of (j := 69) rfl hi ⟨30, .data⟩ (by simp) rfl)
      obtain rfl : i6 = true := (dep_of (j := 69) rfl hi ⟨36, .data⟩ (by simp) rfl)
      obtain rfl : i7 = true := (dep_of (j := 69) rfl hi ⟨46, .data⟩ (by simp) rfl)
      obtain rfl : i8 = true := (dep_of (j := 69) rfl hi ⟨52, .data⟩ (by simp) rfl)
      obtain rfl : i9 = true := (dep_of (j := 69) rfl hi ⟨58, .data⟩ (by simp) rfl)
      obtain rfl : i10 = true := (dep_of (j := 69) rfl hi ⟨64, .data⟩ (by simp) rfl)
      obtain rfl : i11 = true := (dep_of (j := 69) rfl hi ⟨38, .data⟩ (by simp) rfl)
      obtain rfl : i12 = true := (dep_of (j := 69) rfl hi ⟨40, .data⟩ (by simp) rfl)
      obtain rfl : i13 = true := (dep_of (j := 69) rfl hi ⟨66, .data⟩ (by simp) rfl)
      obtain rfl : i14 = true := (dep_of (j := 69) rfl hi ⟨68, .data⟩ (by simp) rfl)
      exact hN rfl
    · exact Bool.noConfusion (show true = false from hl)
    · exact Bool.noConfusion (show false = true from dep_of (j := 71) rfl hi ⟨69, .data⟩ (by simp) rfl)
    · exact Bool.noConfusion (show false = true from dep_of (j := 72) rfl hi ⟨71, .data⟩ (by simp) rfl)
  case fin =>
    intro x W hI hN
    obtain ⟨f0, g1, g2, g3, g4, g5, g6, g7, g8, g9, g10, i1, i2, i3, i4, i5, i6, i7, i8, i9, i10, i11, i12, i13, i14, m, x1, x2, x3, x4, x5, x6, x7, x8, x9, x10⟩ := x
    obtain rfl : f0 = true := by
      cases f0 with
      | true => rfl
      | false => exact absurd hN (by simp only [S6.n, cond_false, cond_true]; omega)
    obtain rfl : g1 = true := by
      cases g1 with
      | true => rfl
      | false => exact absurd hN (by simp only [S6.n, cond_false, cond_true]; omega)
    obtain rfl : g2 = true := by
      cases g2 with
      | true => rfl
      | false => exact absurd hN (by simp only [S6.n, cond_false, cond_true]; omega)
    obtain rfl : g3 = true := by
      cases g3 with
      | true => rfl
      | false => exact absurd hN (by simp only [S6.n, cond_false, cond_true]; omega)
    obtain rfl : g4 = true := by
      cases g4 with
      | true => rfl
      | false => exact absurd hN (by simp only [S6.n, cond_false, cond_true]; omega)
    obtain rfl : g5 = true := by
      cases g5 with
      | true => rfl
      | false => exact absurd hN (by simp only [S6.n, cond_false, cond_true]; omega)
    obtain rfl : g6 = true := by
      cases g6 with
      | true => rfl
      | false => exact absurd hN (by simp only [S6.n, cond_false, cond_true]; omega)
    obtain rfl : g7 = true := by
      cases g7 with
      | true => rfl
      | false => exact absurd hN (by simp only [S6.n, cond_false, cond_true]; omega)
    obtain rfl : g8 = true := by
      cases g8 with
      | true => rfl
      | false => exact absurd hN (by simp only [S6.n, cond_false, cond_true]; omega)
    obtain rfl : g9 = true := by
      cases g9 with
      | true => rfl
      | false => exact absurd hN (by simp only [S6.n, cond_false, cond_true]; omega)
    obtain rfl : g10 = true := by
      cases g10 with
      | true => rfl
      | false => exact absurd hN (by simp only [S6.n, cond_false, cond_true]; omega)
    obtain rfl : i1 = true := by
      cases i1 with
      | true => rfl
      | false => exact absurd hN (by simp only [S6.n, cond_false, cond_true]; omega)
    obtain rfl : i2 = true := by
      cases i2 with
      | true => rfl
      | false => exact absurd hN (by simp only [S6.n, cond_false, cond_true]; omega)
    obtain rfl : i3 = true := by
      cases i3 with
      | true => rfl
      | false => exact absurd hN (by simp only [S6.n, cond_false, cond_true]; omega)
    obtain rfl : i4 = true := by
      cases i4 with
      | true => rfl
      | false => exact absurd hN (by simp only [S6.n, cond_false, cond_true]; omega)
    obtain rfl : i5 = true := by
      cases i5 with
      | true => rfl
      | false => exact absurd hN (by simp only [S6.n, cond_false, cond_true]; omega)
    obtain rfl : i6 = true := by
      cases i6 with
      | true => rfl
      | false => exact absurd hN (by simp only [S6.n, cond_false, cond_true]; omega)
    obtain rfl : i7 = true := by
      cases i7 with
      | true => rfl
      | false => exact absurd hN (by simp only [S6.n, cond_false, cond_true]; omega)
    obtain rfl : i8 = true := by
      cases i8 with
      | true => rfl
      | false => exact absurd hN (by simp only [S6.n, cond_false, cond_true]; omega)
    obtain rfl : i9 = true := by
      cases i9 with
      | true => rfl
      | false => exact absurd hN (by simp only [S6.n, cond_false, cond_true]; omega)
    obtain rfl : i10 = true := by
      cases i10 with
      | true => rfl
      | false => exact absurd hN (by simp only [S6.n, cond_false, cond_true]; omega)
    obtain rfl : i11 = true := by
      cases i11 with
      | true => rfl
      | false => exact absurd hN (by simp only [S6.n, cond_false, cond_true]; omega)
    obtain rfl : i12 = true := by
      cases i12 with
      | true => rfl
      | false => exact absurd hN (by simp only [S6.n, cond_false, cond_true]; omega)
    obtain rfl : i13 = true := by
      cases i13 with
      | true => rfl
      | false => exact absurd hN (by simp only [S6.n, cond_false, cond_true]; omega)
    obtain rfl : i14 = true := by
      cases i14 with
      | true => rfl
      | false => exact absurd hN (by simp only [S6.n, cond_false, cond_true]; omega)
    obtain ⟨m', hm1, hm2, hm3⟩ := hI.map rfl
    obtain rfl : m = .map (some m') := hm1
    have hS := hI.st
    obtain ⟨P1, e1, hp1, hn1⟩ := hI.c1 rfl
    replace e1 : x1 = Value.func (.func 81) #[] #[.pointer (some ⟨P1, 0, none⟩), .pointer (some ⟨b3, 0, none⟩)] := e1
    subst e1
    obtain ⟨P2, e2, hp2, hn2⟩ := hI.c2 rfl
    replace e2 : x2 = Value.func (.func 84) #[] #[.pointer (some ⟨b3, 0, none⟩), .pointer (some ⟨P2, 0, none⟩)] := e2
    subst e2
    obtain ⟨P3, e3, hp3, hn3⟩ := hI.c3 rfl
    replace e3 : x3 = Value.func (.func 81) #[] #[.pointer (some ⟨P3, 0, none⟩), .pointer (some ⟨b3, 0, none⟩)] := e3
    subst e3
    obtain ⟨P4, e4, hp4, hn4⟩ := hI.c4 rfl
    replace e4 : x4 = Value.func (.func 84) #[] #[.pointer (some ⟨b3, 0, none⟩), .pointer (some ⟨P4, 0, none⟩)] := e4
    subst e4
    obtain ⟨P5, e5, hp5, hn5⟩ := hI.c5 rfl
    replace e5 : x5 = Value.func (.func 81) #[] #[.pointer (some ⟨P5, 0, none⟩), .pointer (some ⟨b3, 0, none⟩)] := e5
    subst e5
    obtain ⟨P6, e6, hp6, hn6⟩ := hI.c6 rfl
    replace e6 : x6 = Value.func (.func 84) #[] #[.pointer (some ⟨b3, 0, none⟩), .pointer (some ⟨P6, 0, none⟩)] := e6
    subst e6
    obtain ⟨P7, e7, hp7, hn7⟩ := hI.c7 rfl
    replace e7 : x7 = Value.func (.func 86) #[] #[.pointer (some ⟨b3, 0, none⟩), .pointer (some ⟨P7, 0, none⟩)] := e7
    subst e7
    obtain ⟨P8, e8, hp8, hn8⟩ := hI.c8 rfl
    replace e8 : x8 = Value.func (.func 86) #[] #[.pointer (some ⟨b3, 0, none⟩), .pointer (some ⟨P8, 0, none⟩)] := e8
    subst e8
    obtain ⟨P9, e9, hp9, hn9⟩ := hI.c9 rfl
    replace e9 : x9 = Value.func (.func 86) #[] #[.pointer (some ⟨b3, 0, none⟩), .pointer (some ⟨P9, 0, none⟩)] := e9
    subst e9
    obtain ⟨P10, e10, hp10, hn10⟩ := hI.c10 rfl
    replace e10 : x10 = Value.func (.func 86) #[] #[.pointer (some ⟨b3, 0, none⟩), .pointer (some ⟨P10, 0, none⟩)] := e10
    subst e10
    clear hI hN
    simp only [S6.L, S6.A]
    refine wpAnyH_take (i := 69) (v := ?_) rfl (by kernel_rfl) (by kernel_rfl) (by kernel_rfl) (fun _ _ _ h => h) (Or.inl ⟨by rfl, ?_⟩) (hS.sub (by repeat (first | exact List.nil_sublist _ | apply List.Sublist.cons_cons | apply List.Sublist.cons))) ?_
    rotate_left 1
    · intro W hW
      clear hW
      go_simp
      all_goals with_reducible rfl
    try simp only [nR]
    refine wpAnyH_ready (rs := [71]) (by kernel_rfl) (by simp) (AllReadyH.cons rfl ?_ AllReadyH.nil)
    intro K1 hK1
    rw [if_pos (by rfl)]
    try simp only [nR]
    refine wp_look_op rfl _ _ umap uint' rfl hm3 k _ rfl (zfn _) ?_
    refine hK1.out _ _ (hS.sub (by repeat (first | exact List.nil_sublist _ | apply List.Sublist.cons_cons | apply List.Sublist.cons))) (fun _ => ?_)
    clear hK1
    try simp only [nR]
    refine wpAnyH_take (i := 72) (v := ?_) rfl (by kernel_rfl) (by kernel_rfl) (by kernel_rfl) (fun _ _ _ h => h) (Or.inl ⟨by rfl, ?_⟩) (hS.sub (by repeat (first | exact List.nil_sublist _ | apply List.Sublist.cons_cons | apply List.Sublist.cons))) ?_
    rotate_left 1
    · intro W hW
      clear hW
      go_simp
      all_goals with_reducible rfl
    try simp only [nR]
    refine wpAnyH_done (by kernel_rfl) ?_ _
    have hBb2 : B ≠ b2 := ((St.ne (x := ⟨b2, 0, true, #[.pointer (some ⟨B, 0, none⟩)]⟩) (y := ⟨B, 0, true, r.c (.slice A1 rest.length c1)⟩) (hS.sub (by repeat (first | exact List.nil_sublist _ | apply List.Sublist.cons_cons | apply List.Sublist.cons))) rfl rfl rfl (Nat.succ_ne_zero 0) (Nat.succ_ne_zero 23)) : b2 ≠ B).symm
    have hBb3 : B ≠ b3 := ((St.ne (x := ⟨b3, 0, true, #[.int .u8 b]⟩) (y := ⟨B, 0, true, r.c (.slice A1 rest.length c1)⟩) (hS.sub (by repeat (first | exact List.nil_sublist _ | apply List.Sublist.cons_cons | apply List.Sublist.cons))) rfl rfl rfl (Nat.succ_ne_zero 0) (Nat.succ_ne_zero 23)) : b3 ≠ B).symm
    have hat := hS.rgAt (.tail _ (.tail _ (.head _)))
    have hc3 := hS.cell0 (.head _) (j := 0) rfl
    have hc2' := hS.cell0 (.tail _ (.head _)) (j := 0) rfl
    have hra := hr.a
    have hrb := hr.b
    have hrl := hr.len
    clear hm3
    have hneq := fneq
    have hneq0 := fneq0
    by_cases k1 : k = 1
    · subst k1
      have hV : (look (S6.vals b2 b3 ⟨true, true, true, true, true, true, true, true, true, true, true, true, true, true, true, true, true, true, true, true, true, true, true, true, true, .map (some m'), Value.func (.func 81) #[] #[.pointer (some ⟨P1, 0, none⟩), .pointer (some ⟨b3, 0, none⟩)], Value.func (.func 84) #[] #[.pointer (some ⟨b3, 0, none⟩), .pointer (some ⟨P2, 0, none⟩)], Value.func (.func 81) #[] #[.pointer (some ⟨P3, 0, none⟩), .pointer (some ⟨b3, 0, none⟩)], Value.func (.func 84) #[] #[.pointer (some ⟨b3, 0, none⟩), .pointer (some ⟨P4, 0, none⟩)], Value.func (.func 81) #[] #[.pointer (some ⟨P5, 0, none⟩), .pointer (some ⟨b3, 0, none⟩)], Value.func (.func 84) #[] #[.pointer (some ⟨b3, 0, none⟩), .pointer (some ⟨P6, 0, none⟩)], Value.func (.func 86) #[] #[.pointer (some ⟨b3, 0, none⟩), .pointer (some ⟨P7, 0, none⟩)], Value.func (.func 86) #[] #[.pointer (some ⟨b3, 0, none⟩), .pointer (some ⟨P8, 0, none⟩)], Value.func (.func 86) #[] #[.pointer (some ⟨b3, 0, none⟩), .pointer (some ⟨P9, 0, none⟩)], Value.func (.func 86) #[] #[.pointer (some ⟨b3, 0, none⟩), .pointer (some ⟨P10, 0, none⟩)]⟩) 1).getD Value.nilFunc = Value.func (.func 81) #[] #[.pointer (some ⟨P1, 0, none⟩), .pointer (some ⟨b3, 0, none⟩)] := by simp [look, S6.vals]
      rw [hV]
      clear hV
      have eT : M.rTake r b 1 rest = { r with want := rest, a := M.lowW r.a b } := by unfold M.rTake; simp
      have ht := low_a B P1 b3 r _ b hra h0 h1 _ hat hp1 hc3 hn1 hBb3
      clear hat hc3 hc2' hp1 hp2 hp3 hp4 hp5 hp6 hp7 hp8 hp9 hp10
      go_wp2_with fail
      refine ht.mono ?_
      rintro e w1 ⟨rfl, hr1, ht1⟩
      replace hS := hS.callT (.tail _ (.tail _ (.head _ _ _ _ _))) hr1 ht1 rfl
      go_wp2_with fail
      go_returns
      rw [eT]
      exact ⟨A1, c1, rfl, hS.range (.tail _ (.tail _ (.head _))), hS.lsF hshA1 hfA1 (fun e he => by repeat (first | exact List.mem_append_right _ he | refine List.Mem.tail _ ?_)), hS.touch⟩
    by_cases k2 : k = 2
    · subst k2
      have hV : (look (S6.vals b2 b3 ⟨true, true, true, true, true, true, true, true, true, true, true, true, true, true, true, true, true, true, true, true, true, true, true, true, true, .map (some m'), Value.func (.func 81) #[] #[.pointer (some ⟨P1, 0, none⟩), .pointer (some ⟨b3, 0, none⟩)], Value.func (.func 84) #[] #[.pointer (some ⟨b3, 0, none⟩), .pointer (some ⟨P2, 0, none⟩)], Value.func (.func 81) #[] #[.pointer (some ⟨P3, 0, none⟩), .pointer (some ⟨b3, 0, none⟩)], Value.func (.func 84) #[] #[.pointer (some ⟨b3, 0, none⟩), .pointer (some ⟨P4, 0, none⟩)], Value.func (.func 81) #[] #[.pointer (some ⟨P5, 0, none⟩), .pointer (some ⟨b3, 0, none⟩)], Value.func (.func 84) #[] #[.pointer (some ⟨b3, 0, none⟩), .pointer (some ⟨P6, 0, none⟩)], Value.func (.func 86) #[] #[.pointer (some ⟨b3, 0, none⟩), .pointer (some ⟨P7, 0, none⟩)], Value.func (.func 86) #[] #[.pointer (some ⟨b3, 0, none⟩), .pointer (some ⟨P8, 0, none⟩)], Value.func (.func 86) #[] #[.pointer (some ⟨b3, 0, none⟩), .pointer (some ⟨P9, 0, none⟩)], Value.func (.func 86) #[] #[.pointer (some ⟨b3, 0, none⟩), .pointer (some ⟨P10, 0, none⟩)]⟩) 2).getD Value.nilFunc = Value.func (.func 84) #[] #[.pointer (some ⟨b3, 0, none⟩), .pointer (some ⟨P2, 0, none⟩)] := by simp [look, S6.vals]
      rw [hV]
      clear hV
      have eT : M.rTake r b 2 rest = { r with want := rest, a := M.highW r.a b } := by unfold M.rTake; simp
      have ht := high_a B P2 b3 r _ b hra h0 h1 _ hat hp2 hc3 hn2 hBb3
      clear hat hc3 hc2' hp1 hp2 hp3 hp4 hp5 hp6 hp7 hp8 hp9 hp10
      go_wp2_with fail
      refine ht.mono ?_
      rintro e w1 ⟨rfl, hr1, ht1⟩
      replace hS := hS.callT (.tail _ (.tail _ (.head _ _ _ _ _))) hr1 ht1 rfl
      go_wp2_with fail
      go_returns
      rw [eT]
      exact ⟨A1, c1, rfl, hS.range (.tail _ (.tail _ (.head _))), hS.lsF hshA1 hfA1 (fun e he => by repeat (first | exact List.mem_append_right _ he | refine List.Mem.tail _ ?_)), hS.touch⟩
    by_cases k3 : k = 3
    · subst k3
      have hV : (look (S6.vals b2 b3 ⟨true, true, true, true, true, true, true, true, true, true, true, true, true, true, true, true, true, true, true, true, true, true, true, true, true, .map (some m'), Value.func (.func 81) #[] #[.pointer (some ⟨P1, 0, none⟩), .pointer (some ⟨b3, 0, none⟩)], Value.func (.func 84) #[] #[.pointer (some ⟨b3, 0, none⟩), .pointer (some ⟨P2, 0, none⟩)], Value.func (.func 81) #[] #[.pointer (some ⟨P3, 0, none⟩), .pointer (some ⟨b3, 0, none⟩)], Value.func (.func 84) #[] #[.pointer (some ⟨b3, 0, none⟩), .pointer (some ⟨P4, 0, none⟩)], Value.func (.func 81) #[] #[.pointer (some ⟨P5, 0, none⟩), .pointer (some ⟨b3, 0, none⟩)], Value.func (.func 84) #[] #[.pointer (some ⟨b3, 0, none⟩), .pointer (some ⟨P6, 0, none⟩)], Value.func (.func 86) #[] #[.pointer (some ⟨b3, 0, none⟩), .pointer (some ⟨P7, 0, none⟩)], Value.func (.func 86) #[] #[.pointer (some ⟨b3, 0, none⟩), .pointer (some ⟨P8, 0, none⟩)], Value.func (.func 86) #[] #[.pointer (some ⟨b3, 0, none⟩), .pointer (some ⟨P9, 0, none⟩)], Value.func (.func 86) #[] #[.pointer (some ⟨b3, 0, none⟩), .pointer (some ⟨P10, 0, none⟩)]⟩) 3).getD Value.nilFunc = Value.func (.func 81) #[] #[.pointer (some ⟨P3, 0, none⟩), .pointer (some ⟨b3, 0, none⟩)] := by simp [look, S6.vals]
      rw [hV]
      clear hV
      have eT : M.rTake r b 3 rest = { r with want := rest, len := M.lowW r.len b } := by unfold M.rTake; simp
      have ht := low_len B P3 b3 r _ b hrl h0 h1 _ hat hp3 hc3 hn3 hBb3
      clear hat hc3 hc2' hp1 hp2 hp3 hp4 hp5 hp6 hp7 hp8 hp9 hp10
      go_wp2_with fail
      refine ht.mono ?_
      rintro e w1 ⟨rfl, hr1, ht1⟩
      replace hS := hS.callT (.tail _ (.tail _ (.head _ _ _ _ _))) hr1 ht1 rfl
      go_wp2_with fail
      go_returns
      rw [eT]
      exact ⟨A1, c1, rfl, hS.range (.tail _ (.tail _ (.head _))), hS.lsF hshA1 hfA1 (fun e he => by repeat (first | exact List.mem_append_right _ he | refine List.Mem.tail _ ?_)), hS.touch⟩
    by_cases k4 : k = 4
    · subst k4
      have hV : (look (S6.vals b2 b3 ⟨true, true, true, true, true, true, true, true, true, true, true, true, true, true, true, true, true, true, true, true, true, true, true, true, true, .map (some m'), Value.func (.func 81) #[] #[.pointer (some ⟨P1, 0, none⟩), .pointer (some ⟨b3, 0, none⟩)], Value.func (.func 84) #[] #[.pointer (some ⟨b3, 0, none⟩), .pointer (some ⟨P2, 0, none⟩)], Value.func (.func 81) #[] #[.pointer (some ⟨P3, 0, none⟩), .pointer (some ⟨b3, 0, none⟩)], Value.func (.func 84) #[] #[.pointer (some ⟨b3, 0, none⟩), .pointer (some ⟨P4, 0, none⟩)], Value.func (.func 81) #[] #[.pointer (some ⟨P5, 0, none⟩), .pointer (some ⟨b3, 0, none⟩)], Value.func (.func 84) #[] #[.pointer (some ⟨b3, 0, none⟩), .pointer (some ⟨P6, 0, none⟩)], Value.func (.func 86) #[] #[.pointer (some ⟨b3, 0, none⟩), .pointer (some ⟨P7, 0, none⟩)], Value.func (.func 86) #[] #[.pointer (some ⟨b3, 0, none⟩), .pointer (some ⟨P8, 0, none⟩)], Value.func (.func 86) #[] #[.pointer (some ⟨b3, 0, none⟩), .pointer (some ⟨P9, 0, none⟩)], Value.func (.func 86) #[] #[.pointer (some ⟨b3, 0, none⟩), .pointer (some ⟨P10, 0, none⟩)]⟩) 4).getD Value.nilFunc = Value.func (.func 84) #[] #[.pointer (some ⟨b3, 0, none⟩), .pointer (some ⟨P4, 0, none⟩)] := by simp [look, S6.vals]
      rw [hV]
      clear hV
      have eT : M.rTake r b 4 rest = { r with want := rest, len := M.highW r.len b } := by unfold M.rTake; simp
      have ht := high_len B P4 b3 r _ b hrl h0 h1 _ hat hp4 hc3 hn4 hBb3
      clear hat hc3 hc2' hp1 hp2 hp3 hp4 hp5 hp6 hp7 hp8 hp9 hp10
      go_wp2_with fail
      refine ht.mono ?_
      rintro e w1 ⟨rfl, hr1, ht1⟩
      replace hS := hS.callT (.tail _ (.tail _ (.head _ _ _ _ _))) hr1 ht1 rfl
      go_wp2_with fail
      go_returns
      rw [eT]
      exact ⟨A1, c1, rfl, hS.range (.tail _ (.tail _ (.head _))), hS.lsF hshA1 hfA1 (fun e he => by repeat (first | exact List.mem_append_right _ he | refine List.Mem.tail _ ?_)), hS.touch⟩
    by_cases k5 : k = 5
    · subst k5
      have hV : (look (S6.vals b2 b3 ⟨true, true, true, true, true, true, true, true, true, true, true, true, true, true, true, true, true, true, true, true, true, true, true, true, true, .map (some m'), Value.func (.func 81) #[] #[.pointer (some ⟨P1, 0, none⟩), .pointer (some ⟨b3, 0, none⟩)], Value.func (.func 84) #[] #[.pointer (some ⟨b3, 0, none⟩), .pointer (some ⟨P2, 0, none⟩)], Value.func (.func 81) #[] #[.pointer (some ⟨P3, 0, none⟩), .pointer (some ⟨b3, 0, none⟩)], Value.func (.func 84) #[] #[.pointer (some ⟨b3, 0, none⟩), .pointer (some ⟨P4, 0, none⟩)], Value.func (.func 81) #[] #[.pointer (some ⟨P5, 0, none⟩), .pointer (some ⟨b3, 0, none⟩)], Value.func (.func 84) #[] #[.pointer (some ⟨b3, 0, none⟩), .pointer (some ⟨P6, 0, none⟩)], Value.func (.func 86) #[] #[.pointer (some ⟨b3, 0, none⟩), .pointer (some ⟨P7, 0, none⟩)], Value.func (.func 86) #[] #[.pointer (some ⟨b3, 0, none⟩), .pointer (some ⟨P8, 0, none⟩)], Value.func (.func 86) #[] #[.pointer (some ⟨b3, 0, none⟩), .pointer (some ⟨P9, 0, none⟩)], Value.func (.func 86) #[] #[.pointer (some ⟨b3, 0, none⟩), .pointer (some ⟨P10, 0, none⟩)]⟩) 5).getD Value.nilFunc = Value.func (.func 87) #[] #[.pointer (some ⟨b3, 0, none⟩), .pointer (some ⟨b2, 0, none⟩)] := by simp [look, S6.vals]
      rw [hV]
      clear hV
      have eT : M.rTake r b 5 rest = { r with want := rest, atime := M.rTime b } := by unfold M.rTake; simp
      have ht := timed_atime B b2 b3 r _ b h0 h1 _ hat hc2' hc3 hBb2 hBb3
      clear hat hc3 hc2' hp1 hp2 hp3 hp4 hp5 hp6 hp7 hp8 hp9 hp10
      go_wp2_with fail
      refine ht.mono ?_
      rintro e w1 ⟨rfl, hr1, ht1⟩
      replace hS := hS.callT (.tail _ (.tail _ (.head _ _ _ _ _))) hr1 ht1 rfl
      go_wp2_with fail
      go_returns
      rw [eT]
      exact ⟨A1, c1, rfl, hS.range (.tail _ (.tail _ (.head _))), hS.lsF hshA1 hfA1 (fun e he => by repeat (first | exact List.mem_append_right _ he | refine List.Mem.tail _ ?_)), hS.touch⟩
    by_cases k6 : k = 6
    · subst k6
      have hV : (look (S6.vals b2 b3 ⟨true, true, true, true, true, true, true, true, true, true, true, true, true, true, true, true, true, true, true, true, true, true, true, true, true, .map (some m'), Value.func (.func 81) #[] #[.pointer (some ⟨P1, 0, none⟩), .pointer (some ⟨b3, 0, none⟩)], Value.func (.func 84) #[] #[.pointer (some ⟨b3, 0, none⟩), .pointer (some ⟨P2, 0, none⟩)], Value.func (.func 81) #[] #[.pointer (some ⟨P3, 0, none⟩), .pointer (some ⟨b3, 0, none⟩)], Value.func (.func 84) #[] #[.pointer (some ⟨b3, 0, none⟩), .pointer (some ⟨P4, 0, none⟩)], Value.func (.func 81) #[] #[.pointer (some ⟨P5, 0, none⟩), .pointer (some ⟨b3, 0, none⟩)], Value.func (.func 84) #[] #[.pointer (some ⟨b3, 0, none⟩), .pointer (some ⟨P6, 0, none⟩)], Value.func (.func 86) #[] #[.pointer (some ⟨b3, 0, none⟩), .pointer (some ⟨P7, 0, none⟩)], Value.func (.func 86) #[] #[.pointer (some ⟨b3, 0, none⟩), .pointer (some ⟨P8, 0, none⟩)], Value.func (.func 86) #[] #[.pointer (some ⟨b3, 0, none⟩), .pointer (some ⟨P9, 0, none⟩)], Value.func (.func 86) #[] #[.pointer (some ⟨b3, 0, none⟩), .pointer (some ⟨P10, 0, none⟩)]⟩) 6).getD Value.nilFunc = Value.func (.func 89) #[] #[.pointer (some ⟨b3, 0, none⟩), .pointer (some ⟨b2, 0, none⟩)] := by simp [look, S6.vals]
      rw [hV]
      clear hV
      have eT : M.rTake r b 6 rest = { r with want := rest, btime := M.rTime b } := by unfold M.rTake; simp
      have ht := timed_btime B b2 b3 r _ b h0 h1 _ hat hc2' hc3 hBb2 hBb3
      clear hat hc3 hc2' hp1 hp2 hp3 hp4 hp5 hp6 hp7 hp8 hp9 hp10
      go_wp2_with fail
      refine ht.mono ?_
      rintro e w1 ⟨rfl, hr1, ht1⟩
      replace hS := hS.callT (.tail _ (.tail _ (.head _ _ _ _ _))) hr1 ht1 rfl
      go_wp2_with fail
      go_returns
      rw [eT]
      exact ⟨A1, c1, rfl, hS.range (.tail _ (.tail _ (.head _))), hS.lsF hshA1 hfA1 (fun e he => by repeat (first | exact List.mem_append_right _ he | refine List.Mem.tail _ ?_)), hS.touch⟩
    by_cases k7 : k = 7
    · subst k7
      have hV : (look (S6.vals b2 b3 ⟨true, true, true, true, true, true, true, true, true, true, true, true, true, true, true, true, true, true, true, true, true, true, true, true, true, .map (some m'), Value.func (.func 81) #[] #[.pointer (some ⟨P1, 0, none⟩), .pointer (some ⟨b3, 0, none⟩)], Value.func (.func 84) #[] #[.pointer (some ⟨b3, 0, none⟩), .pointer (some ⟨P2, 0, none⟩)], Value.func (.func 81) #[] #[.pointer (some ⟨P3, 0, none⟩), .pointer (some ⟨b3, 0, none⟩)], Value.func (.func 84) #[] #[.pointer (some ⟨b3, 0, none⟩), .pointer (some ⟨P4, 0, none⟩)], Value.func (.func 81) #[] #[.pointer (some ⟨P5, 0, none⟩), .pointer (some ⟨b3, 0, none⟩)], Value.func (.func 84) #[] #[.pointer (some ⟨b3, 0, none⟩), .pointer (some ⟨P6, 0, none⟩)], Value.func (.func 86) #[] #[.pointer (some ⟨b3, 0, none⟩), .pointer (some ⟨P7, 0, none⟩)], Value.func (.func 86) #[] #[.pointer (some ⟨b3, 0, none⟩), .pointer (some ⟨P8, 0, none⟩)], Value.func (.func 86) #[] #[.pointer (some ⟨b3, 0, none⟩), .pointer (some ⟨P9, 0, none⟩)], Value.func (.func 86) #[] #[.pointer (some ⟨b3, 0, none⟩), .pointer (some ⟨P10, 0, none⟩)]⟩) 7).getD Value.nilFunc = Value.func (.func 86) #[] #[.pointer (some ⟨b3, 0, none⟩), .pointer (some ⟨P7, 0, none⟩)] := by simp [look, S6.vals]
      rw [hV]
      clear hV
      have eT : M.rTake r b 7 rest = { r with want := rest, mask := b } := by unfold M.rTake; simp
      have ht := whole_mask B P7 b3 r _ b h0 h1 _ hat hp7 hc3 hn7 hBb3
      clear hat hc3 hc2' hp1 hp2 hp3 hp4 hp5 hp6 hp7 hp8 hp9 hp10
      go_wp2_with fail
      refine ht.mono ?_
      rintro e w1 ⟨rfl, hr1, ht1⟩
      replace hS := hS.callT (.tail _ (.tail _ (.head _ _ _ _ _))) hr1 ht1 rfl
      go_wp2_with fail
      go_returns
      rw [eT]
      exact ⟨A1, c1, rfl, hS.range (.tail _ (.tail _ (.head _))), hS.lsF hshA1 hfA1 (fun e he => by repeat (first | exact List.mem_append_right _ he | refine List.Mem.tail _ ?_)), hS.touch⟩
    by_cases k8 : k = 8
    · subst k8
      have hV : (look (S6.vals b2 b3 ⟨true, true, true, true, true, true, true, true, true, true, true, true, true, true, true, true, true, true, true, true, true, true, true, true, true, .map (some m'), Value.func (.func 81) #[] #[.pointer (some ⟨P1, 0, none⟩), .pointer (some ⟨b3, 0, none⟩)], Value.func (.func 84) #[] #[.pointer (some ⟨b3, 0, none⟩), .pointer (some ⟨P2, 0, none⟩)], Value.func (.func 81) #[] #[.pointer (some ⟨P3, 0, none⟩), .pointer (some ⟨b3, 0, none⟩)], Value.func (.func 84) #[] #[.pointer (some ⟨b3, 0, none⟩), .pointer (some ⟨P4, 0, none⟩)], Value.func (.func 81) #[] #[.pointer (some ⟨P5, 0, none⟩), .pointer (some ⟨b3, 0, none⟩)], Value.func (.func 84) #[] #[.pointer (some ⟨b3, 0, none⟩), .pointer (some ⟨P6, 0, none⟩)], Value.func (.func 86) #[] #[.pointer (some ⟨b3, 0, none⟩), .pointer (some ⟨P7, 0, none⟩)], Value.func (.func 86) #[] #[.pointer (some ⟨b3, 0, none⟩), .pointer (some ⟨P8, 0, none⟩)], Value.func (.func 86) #[] #[.pointer (some ⟨b3, 0, none⟩), .pointer (some ⟨P9, 0, none⟩)], Value.func (.func 86) #[] #[.pointer (some ⟨b3, 0, none⟩), .pointer (some ⟨P10, 0, none⟩)]⟩) 8).getD Value.nilFunc = Value.func (.func 86) #[] #[.pointer (some ⟨b3, 0, none⟩), .pointer (some ⟨P8, 0, none⟩)] := by simp [look, S6.vals]
      rw [hV]
      clear hV
      have eT : M.rTake r b 8 rest = { r with want := rest, mat := b } := by unfold M.rTake; simp
      have ht := whole_mat B P8 b3 r _ b h0 h1 _ hat hp8 hc3 hn8 hBb3
      clear hat hc3 hc2' hp1 hp2 hp3 hp4 hp5 hp6 hp7 hp8 hp9 hp10
      go_wp2_with fail
      refine ht.mono ?_
      rintro e w1 ⟨rfl, hr1, ht1⟩
      replace hS := hS.callT (.tail _ (.tail _ (.head _ _ _ _ _))) hr1 ht1 rfl
      go_wp2_with fail
      go_returns
      rw [eT]
      exact ⟨A1, c1, rfl, hS.range (.tail _ (.tail _ (.head _))), hS.lsF hshA1 hfA1 (fun e he => by repeat (first | exact List.mem_append_right _ he | refine List.Mem.tail _ ?_)), hS.touch⟩
    by_cases k9 : k = 9
    · subst k9
      have hV : (look (S6.vals b2 b3 ⟨true, true, true, true, true, true, true, true, true, true, true, true, true, true, true, true, true, true, true, true, true, true, true, true, true, .map (some m'), Value.func (.func 81) #[] #[.pointer (some ⟨P1, 0, none⟩), .pointer (some ⟨b3, 0, none⟩)], Value.func (.func 84) #[] #[.pointer (some ⟨b3, 0, none⟩), .pointer (some ⟨P2, 0, none⟩)], Value.func (.func 81) #[] #[.pointer (some ⟨P3, 0, none⟩), .pointer (some ⟨b3, 0, none⟩)], Value.func (.func 84) #[] #[.pointer (some ⟨b3, 0, none⟩), .pointer (some ⟨P4, 0, none⟩)], Value.func (.func 81) #[] #[.pointer (some ⟨P5, 0, none⟩), .pointer (some ⟨b3, 0, none⟩)], Value.func (.func 84) #[] #[.pointer (some ⟨b3, 0, none⟩), .pointer (some ⟨P6, 0, none⟩)], Value.func (.func 86) #[] #[.pointer (some ⟨b3, 0, none⟩), .pointer (some ⟨P7, 0, none⟩)], Value.func (.func 86) #[] #[.pointer (some ⟨b3, 0, none⟩), .pointer (some ⟨P8, 0, none⟩)], Value.func (.func 86) #[] #[.pointer (some ⟨b3, 0, none⟩), .pointer (some ⟨P9, 0, none⟩)], Value.func (.func 86) #[] #[.pointer (some ⟨b3, 0, none⟩), .pointer (some ⟨P10, 0, none⟩)]⟩) 9).getD Value.nilFunc = Value.func (.func 81) #[] #[.pointer (some ⟨P5, 0, none⟩), .pointer (some ⟨b3, 0, none⟩)] := by simp [look, S6.vals]
      rw [hV]
      clear hV
      have eT : M.rTake r b 9 rest = { r with want := rest, b := M.lowW r.b b } := by unfold M.rTake; simp
      have ht := low_b B P5 b3 r _ b hrb h0 h1 _ hat hp5 hc3 hn5 hBb3
      clear hat hc3 hc2' hp1 hp2 hp3 hp4 hp5 hp6 hp7 hp8 hp9 hp10
      go_wp2_with fail
      refine ht.mono ?_
      rintro e w1 ⟨rfl, hr1, ht1⟩
      replace hS := hS.callT (.tail _ (.tail _ (.head _ _ _ _ _))) hr1 ht1 rfl
      go_wp2_with fail
      go_returns
      rw [eT]
      exact ⟨A1, c1, rfl, hS.range (.tail _ (.tail _ (.head _))), hS.lsF hshA1 hfA1 (fun e he => by repeat (first | exact List.mem_append_right _ he | refine List.Mem.tail _ ?_)), hS.touch⟩
    by_cases k10 : k = 10
    · subst k10
      have hV : (look (S6.vals b2 b3 ⟨true, true, true, true, true, true, true, true, true, true, true, true, true, true, true, true, true, true, true, true, true, true, true, true, true, .map (some m'), Value.func (.func 81) #[] #[.pointer (some ⟨P1, 0, none⟩), .pointer (some ⟨b3, 0, none⟩)], Value.func (.func 84) #[] #[.pointer (some ⟨b3, 0, none⟩), .pointer (some ⟨P2, 0, none⟩)], Value.func (.func 81) #[] #[.pointer (some ⟨P3, 0, none⟩), .pointer (some ⟨b3, 0, none⟩)], Value.func (.func 84) #[] #[.pointer (some ⟨b3, 0, none⟩), .pointer (some ⟨P4, 0, none⟩)], Value.func (.func 81) #[] #[.pointer (some ⟨P5, 0, none⟩), .pointer (some ⟨b3, 0, none⟩)], Value.func (.func 84) #[] #[.pointer (some ⟨b3, 0, none⟩), .pointer (some ⟨P6, 0, none⟩)], Value.func (.func 86) #[] #[.pointer (some ⟨b3, 0, none⟩), .pointer (some ⟨P7, 0, none⟩)], Value.func (.func 86) #[] #[.pointer (some ⟨b3, 0, none⟩), .pointer (some ⟨P8, 0, none⟩)], Value.func (.func 86) #[] #[.pointer (some ⟨b3, 0, none⟩), .pointer (some ⟨P9, 0, none⟩)], Value.func (.func 86) #[] #[.pointer (some ⟨b3, 0, none⟩), .pointer (some ⟨P10, 0, none⟩)]⟩) 10).getD Value.nilFunc = Value.func (.func 84) #[] #[.pointer (some ⟨b3, 0, none⟩), .pointer (some ⟨P6, 0, none⟩)] := by simp [look, S6.vals]
      rw [hV]
      clear hV
      have eT : M.rTake r b 10 rest = { r with want := rest, b := M.highW r.b b } := by unfold M.rTake; simp
      have ht := high_b B P6 b3 r _ b hrb h0 h1 _ hat hp6 hc3 hn6 hBb3
      clear hat hc3 hc2' hp1 hp2 hp3 hp4 hp5 hp6 hp7 hp8 hp9 hp10
      go_wp2_with fail
      refine ht.mono ?_
      rintro e w1 ⟨rfl, hr1, ht1⟩
      replace hS := hS.callT (.tail _ (.tail _ (.head _ _ _ _ _))) hr1 ht1 rfl
      go_wp2_with fail
      go_returns
      rw [eT]
      exact ⟨A1, c1, rfl, hS.range (.tail _ (.tail _ (.head _))), hS.lsF hshA1 hfA1 (fun e he => by repeat (first | exact List.mem_append_right _ he | refine List.Mem.tail _ ?_)), hS.touch⟩
    by_cases k11 : k = 11
    · subst k11
      have hV : (look (S6.vals b2 b3 ⟨true, true, true, true, true, true, true, true, true, true, true, true, true, true, true, true, true, true, true, true, true, true, true, true, true, .map (some m'), Value.func (.func 81) #[] #[.pointer (some ⟨P1, 0, none⟩), .pointer (some ⟨b3, 0, none⟩)], Value.func (.func 84) #[] #[.pointer (some ⟨b3, 0, none⟩), .pointer (some ⟨P2, 0, none⟩)], Value.func (.func 81) #[] #[.pointer (some ⟨P3, 0, none⟩), .pointer (some ⟨b3, 0, none⟩)], Value.func (.func 84) #[] #[.pointer (some ⟨b3, 0, none⟩), .pointer (some ⟨P4, 0, none⟩)], Value.func (.func 81) #[] #[.pointer (some ⟨P5, 0, none⟩), .pointer (some ⟨b3, 0, none⟩)], Value.func (.func 84) #[] #[.pointer (some ⟨b3, 0, none⟩), .pointer (some ⟨P6, 0, none⟩)], Value.func (.func 86) #[] #[.pointer (some ⟨b3, 0, none⟩), .pointer (some ⟨P7, 0, none⟩)], Value.func (.func 86) #[] #[.pointer (some ⟨b3, 0, none⟩), .pointer (some ⟨P8, 0, none⟩)], Value.func (.func 86) #[] #[.pointer (some ⟨b3, 0, none⟩), .pointer (some ⟨P9, 0, none⟩)], Value.func (.func 86) #[] #[.pointer (some ⟨b3, 0, none⟩), .pointer (some ⟨P10, 0, none⟩)]⟩) 11).getD Value.nilFunc = Value.func (.func 90) #[] #[.pointer (some ⟨b3, 0, none⟩), .pointer (some ⟨b2, 0, none⟩)] := by simp [look, S6.vals]
      rw [hV]
      clear hV
      have eT : M.rTake r b 11 rest = { r with want := M.rWants b 12 3 2 ++ rest, ctl := b } := by unfold M.rTake; simp
      have ht := control_any B b2 b3 r A1 c1 rest hL9 b h0 h1 _ hat hc2' hc3 hBb2 hBb3 (hS.ls hshA1 (fun e he => by repeat (first | exact List.mem_append_right _ he | refine List.Mem.tail _ ?_))) (fun e he => by have := hfA1 e he; omega)
      clear hat hc3 hc2' hp1 hp2 hp3 hp4 hp5 hp6 hp7 hp8 hp9 hp10
      go_wp2_with fail
      refine ht.mono ?_
      rintro e w1 ⟨A5, c5, rfl, hr1, hl5, ht1⟩
      have hf5 := fun e he => Nat.le_trans hS.size (hl5.ent e he).1
      have hsh5 := hl5.shp
      replace hS := hS.callTN (.tail _ (.tail _ (.head _ _ _ _ _))) hr1 ht1 rfl hl5
      simp only [List.cons_append, List.nil_append] at hS
      go_wp2_with fail
      go_returns
      rw [eT]
      exact ⟨A5, c5, rfl, hS.range (.tail _ (.tail _ (.head _))), hS.lsF hsh5 hf5 (fun e he => by repeat (first | exact List.mem_append_right _ he | refine List.Mem.tail _ ?_)), hS.touch⟩
    by_cases k12 : k = 12
    · subst k12
      have hV : (look (S6.vals b2 b3 ⟨true, true, true, true, true, true, true, true, true, true, true, true, true, true, true, true, true, true, true, true, true, true, true, true, true, .map (some m'), Value.func (.func 81) #[] #[.pointer (some ⟨P1, 0, none⟩), .pointer (some ⟨b3, 0, none⟩)], Value.func (.func 84) #[] #[.pointer (some ⟨b3, 0, none⟩), .pointer (some ⟨P2, 0, none⟩)], Value.func (.func 81) #[] #[.pointer (some ⟨P3, 0, none⟩), .pointer (some ⟨b3, 0, none⟩)], Value.func (.func 84) #[] #[.pointer (some ⟨b3, 0, none⟩), .pointer (some ⟨P4, 0, none⟩)], Value.func (.func 81) #[] #[.pointer (some ⟨P5, 0, none⟩), .pointer (some ⟨b3, 0, none⟩)], Value.func (.func 84) #[] #[.pointer (some ⟨b3, 0, none⟩), .pointer (some ⟨P6, 0, none⟩)], Value.func (.func 86) #[] #[.pointer (some ⟨b3, 0, none⟩), .pointer (some ⟨P7, 0, none⟩)], Value.func (.func 86) #[] #[.pointer (some ⟨b3, 0, none⟩), .pointer (some ⟨P8, 0, none⟩)], Value.func (.func 86) #[] #[.pointer (some ⟨b3, 0, none⟩), .pointer (some ⟨P9, 0, none⟩)], Value.func (.func 86) #[] #[.pointer (some ⟨b3, 0, none⟩), .pointer (some ⟨P10, 0, none⟩)]⟩) 12).getD Value.nilFunc = Value.func (.func 86) #[] #[.pointer (some ⟨b3, 0, none⟩), .pointer (some ⟨P9, 0, none⟩)] := by simp [look, S6.vals]
      rw [hV]
      clear hV
      have eT : M.rTake r b 12 rest = { r with want := rest, pulse := b } := by unfold M.rTake; simp
      have ht := whole_pulse B P9 b3 r _ b h0 h1 _ hat hp9 hc3 hn9 hBb3
      clear hat hc3 hc2' hp1 hp2 hp3 hp4 hp5 hp6 hp7 hp8 hp9 hp10
      go_wp2_with fail
      refine ht.mono ?_
      rintro e w1 ⟨rfl, hr1, ht1⟩
      replace hS := hS.callT (.tail _ (.tail _ (.head _ _ _ _ _))) hr1 ht1 rfl
      go_wp2_with fail
      go_returns
      rw [eT]
      exact ⟨A1, c1, rfl, hS.range (.tail _ (.tail _ (.head _))), hS.lsF hshA1 hfA1 (fun e he => by repeat (first | exact List.mem_append_right _ he | refine List.Mem.tail _ ?_)), hS.touch⟩
    by_cases k13 : k = 13
    · subst k13
      have hV : (look (S6.vals b2 b3 ⟨true, true, true, true, true, true, true, true, true, true, true, true, true, true, true, true, true, true, true, true, true, true, true, true, true, .map (some m'), Value.func (.func 81) #[] #[.pointer (some ⟨P1, 0, none⟩), .pointer (some ⟨b3, 0, none⟩)], Value.func (.func 84) #[] #[.pointer (some ⟨b3, 0, none⟩), .pointer (some ⟨P2, 0, none⟩)], Value.func (.func 81) #[] #[.pointer (some ⟨P3, 0, none⟩), .pointer (some ⟨b3, 0, none⟩)], Value.func (.func 84) #[] #[.pointer (some ⟨b3, 0, none⟩), .pointer (some ⟨P4, 0, none⟩)], Value.func (.func 81) #[] #[.pointer (some ⟨P5, 0, none⟩), .pointer (some ⟨b3, 0, none⟩)], Value.func (.func 84) #[] #[.pointer (some ⟨b3, 0, none⟩), .pointer (some ⟨P6, 0, none⟩)], Value.func (.func 86) #[] #[.pointer (some ⟨b3, 0, none⟩), .pointer (some ⟨P7, 0, none⟩)], Value.func (.func 86) #[] #[.pointer (some ⟨b3, 0, none⟩), .pointer (some ⟨P8, 0, none⟩)], Value.func (.func 86) #[] #[.pointer (some ⟨b3, 0, none⟩), .pointer (some ⟨P9, 0, none⟩)], Value.func (.func 86) #[] #[.pointer (some ⟨b3, 0, none⟩), .pointer (some ⟨P10, 0, none⟩)]⟩) 13).getD Value.nilFunc = Value.func (.func 86) #[] #[.pointer (some ⟨b3, 0, none⟩), .pointer (some ⟨P10, 0, none⟩)] := by simp [look, S6.vals]
      rw [hV]
      clear hV
      have eT : M.rTake r b 13 rest = { r with want := rest, vec := b } := by unfold M.rTake; simp
      have ht := whole_vec B P10 b3 r _ b h0 h1 _ hat hp10 hc3 hn10 hBb3
      clear hat hc3 hc2' hp1 hp2 hp3 hp4 hp5 hp6 hp7 hp8 hp9 hp10
      go_wp2_with fail
      refine ht.mono ?_
      rintro e w1 ⟨rfl, hr1, ht1⟩
      replace hS := hS.callT (.tail _ (.tail _ (.head _ _ _ _ _))) hr1 ht1 rfl
      go_wp2_with fail
      go_returns
      rw [eT]
      exact ⟨A1, c1, rfl, hS.range (.tail _ (.tail _ (.head _))), hS.lsF hshA1 hfA1 (fun e he => by repeat (first | exact List.mem_append_right _ he | refine List.Mem.tail _ ?_)), hS.touch⟩
    by_cases k14 : k = 14
    · subst k14
      have hV : (look (S6.vals b2 b3 ⟨true, true, true, true, true, true, true, true, true, true, true, true, true, true, true, true, true, true, true, true, true, true, true, true, true, .map (some m'), Value.func (.func 81) #[] #[.pointer (some ⟨P1, 0, none⟩), .pointer (some ⟨b3, 0, none⟩)], Value.func (.func 84) #[] #[.pointer (some ⟨b3, 0, none⟩), .pointer (some ⟨P2, 0, none⟩)], Value.func (.func 81) #[] #[.pointer (some ⟨P3, 0, none⟩), .pointer (some ⟨b3, 0, none⟩)], Value.func (.func 84) #[] #[.pointer (some ⟨b3, 0, none⟩), .pointer (some ⟨P4, 0, none⟩)], Value.func (.func 81) #[] #[.pointer (some ⟨P5, 0, none⟩), .pointer (some ⟨b3, 0, none⟩)], Value.func (.func 84) #[] #[.pointer (some ⟨b3, 0, none⟩), .pointer (some ⟨P6, 0, none⟩)], Value.func (.func 86) #[] #[.pointer (some ⟨b3, 0, none⟩), .pointer (some ⟨P7, 0, none⟩)], Value.func (.func 86) #[] #[.pointer (some ⟨b3, 0, none⟩), .pointer (some ⟨P8, 0, none⟩)], Value.func (.func 86) #[] #[.pointer (some ⟨b3, 0, none⟩), .pointer (some ⟨P9, 0, none⟩)], Value.func (.func 86) #[] #[.pointer (some ⟨b3, 0, none⟩), .pointer (some ⟨P10, 0, none⟩)]⟩) 14).getD Value.nilFunc = Value.func (.func 93) #[] #[.pointer (some ⟨b3, 0, none⟩), .pointer (some ⟨b2, 0, none⟩)] := by simp [look, S6.vals]
      rw [hV]
      clear hV
      have eT : M.rTake r b 14 rest = { r with want := rest, rmask := b % 128 } := by unfold M.rTake; simp
      have ht := readm B b2 b3 r _ b h0 h1 _ hat hc2' hc3 hBb2 hBb3
      clear hat hc3 hc2' hp1 hp2 hp3 hp4 hp5 hp6 hp7 hp8 hp9 hp10
      go_wp2_with fail
      refine ht.mono ?_
      rintro e w1 ⟨rfl, hr1, ht1⟩
      replace hS := hS.callT (.tail _ (.tail _ (.head _ _ _ _ _))) hr1 ht1 rfl
      go_wp2_with fail
      go_returns
      rw [eT]
      exact ⟨A1, c1, rfl, hS.range (.tail _ (.tail _ (.head _))), hS.lsF hshA1 hfA1 (fun e he => by repeat (first | exact List.mem_append_right _ he | refine List.Mem.tail _ ?_)), hS.touch⟩
    have hV : (look (S6.vals b2 b3 ⟨true, true, true, true, true, true, true, true, true, true, true, true, true, true, true, true, true, true, true, true, true, true, true, true, true, .map (some m'), Value.func (.func 81) #[] #[.pointer (some ⟨P1, 0, none⟩), .pointer (some ⟨b3, 0, none⟩)], Value.func (.func 84) #[] #[.pointer (some ⟨b3, 0, none⟩), .pointer (some ⟨P2, 0, none⟩)], Value.func (.func 81) #[] #[.pointer (some ⟨P3, 0, none⟩), .pointer (some ⟨b3, 0, none⟩)], Value.func (.func 84) #[] #[.pointer (some ⟨b3, 0, none⟩), .pointer (some ⟨P4, 0, none⟩)], Value.func (.func 81) #[] #[.pointer (some ⟨P5, 0, none⟩), .pointer (some ⟨b3, 0, none⟩)], Value.func (.func 84) #[] #[.pointer (some ⟨b3, 0, none⟩), .pointer (some ⟨P6, 0, none⟩)], Value.func (.func 86) #[] #[.pointer (some ⟨b3, 0, none⟩), .pointer (some ⟨P7, 0, none⟩)], Value.func (.func 86) #[] #[.pointer (some ⟨b3, 0, none⟩), .pointer (some ⟨P8, 0, none⟩)], Value.func (.func 86) #[] #[.pointer (some ⟨b3, 0, none⟩), .pointer (some ⟨P9, 0, none⟩)], Value.func (.func 86) #[] #[.pointer (some ⟨b3, 0, none⟩), .pointer (some ⟨P10, 0, none⟩)]⟩) k).getD Value.nilFunc = Value.nilFunc := by simp [look, S6.vals, k1, k2, k3, k4, k5, k6, k7, k8, k9, k10, k11, k12, k13, k14]
    rw [hV]
    clear hV
    have eT : M.rTake r b k rest = { r with want := rest } := by unfold M.rTake; simp [k1, k2, k3, k4, k5, k6, k7, k8, k9, k10, k11, k12, k13, k14]
    go_wp2_with fail
    go_returns
    rw [eT]
    exact ⟨A1, c1, rfl, hS.range (.tail _ (.tail _ (.head _))), hS.lsF hshA1 hfA1 (fun e he => by repeat (first | exact List.mem_append_right _ he | refine List.Mem.tail _ ?_)), hS.touch⟩
end Go.Proofs.Ytkkkjdbcckaedaa
