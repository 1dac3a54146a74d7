/- The program's Reset, command, base (dmareg), each by its contract. -/
import Derived.Test.YtkkkjdbcckaedaaRgRefW
namespace Go.Proofs.Ytkkkjdbcckaedaa
open Go.RowKit
set_option linter.unusedVariables false
set_option linter.unusedSimpArgs false
set_option maxRecDepth 100000
/-- What a method of Regs is handed. -/
structure RgAt (B : Nat) (r : M.Rg) (s : Value) (w : World) : Prop where
  rng : w.rangeAt B 0 (r.c s).toList
  free : Free w B 0 24
  lt : B < w.heap.size
theorem RgAt.st {B : Nat} {r : M.Rg} {s : Value} {w : World} (h : RgAt B r s w) : St B 0 24 w [⟨B, 0, true, r.c s⟩] w := St.handed (c := r.c s) h.rng h.free h.lt
theorem St.rgAt {B o n b : Nat} {w W : World} {es : List Ent} {r : M.Rg} {s : Value} (h : St B o n w es W) (hm : (⟨b, 0, true, r.c s⟩ : Ent) ∈ es) : RgAt b r s W := ⟨h.range hm, (h.good _ hm).free rfl, (h.good _ hm).lt⟩
theorem St.callTN {B o n b q : Nat} {w W W' : World} {es es' : List Ent} {cs cs' : Array Value} {s : Value} {vs : List Value} (h : St B o n w es W) (hu : Upd es b q cs cs' es') (hr : W'.rangeAt b q cs'.toList) (ht : Touch b q cs.size W W') (hl : cs'.size = cs.size) (hs : Ls W.heap.size W' s vs) : St B o n w (es' ++ entL s vs) W' := by
  have h1 := h.put hu hl ht hr
  refine h1.plus (fun e he => (hs.ent e he).2) (fun e he y hy hf => .inl ?_)
  have hy' : ∃ y', y' ∈ es ∧ y'.b = y.b := by
    clear h h1 hr ht hs hl
    induction hu with
    | head b q cs cs' l =>
      rcases List.mem_cons.1 hy with rfl | hy
      · exact ⟨_, .head _, rfl⟩
      · exact ⟨y, .tail _ hy, rfl⟩
    | tail x hu ih =>
      rcases List.mem_cons.1 hy with rfl | hy
      · exact ⟨_, .head _, rfl⟩
      · obtain ⟨y', h1, h2⟩ := ih hy
        exact ⟨y', .tail _ h1, h2⟩
  obtain ⟨y', h3, h4⟩ := hy'
  have := (h.good y' h3).lt
  have := (hs.ent e he).1
  omega
/-- What a method of Regs leaves. -/
def RgOut (B : Nat) (r' : M.Rg) (v : Value) (w : World) (e : Ending) (w' : World) : Prop :=
  ∃ A' c', e = .returned v ∧ w'.rangeAt B 0 (r'.c (.slice A' r'.want.length c')).toList ∧ Ls w.heap.size w' (.slice A' r'.want.length c') (ints .i64 r'.want) ∧ Touch B 0 24 w w'
theorem RgOut.same {B : Nat} {r' : M.Rg} {v : Value} {w w' : World} {A : Option Addr} {c : Nat} {es : List Ent} (hw : r'.want = []) (hc : c ≤ maxLen) (hS : St B 0 24 w es w') (hm : (⟨B, 0, true, r'.c (.slice A 0 c)⟩ : Ent) ∈ es) : RgOut B r' v w (.returned v) w' := by
  unfold RgOut
  rw [hw]
  exact ⟨A, c, rfl, hS.range hm, Ls.nil _ _ _ _ hc, hS.touch⟩
theorem dreset_any (w : World) : Calls Try.prog 63 #[] w fun e w' => e = .returned (.agg (M.rReset.c (.slice none 0 0))) ∧ Below w.heap.size w w' := by
  have hS := St.start w.heap.size 0 0 w
  go_enter Try.func63, Try.ntmps63
  go_wp2_with (first | ((with_reducible refine to_alloc 27 rfl ?_); refine Wl_alloc hS (fun _ => by rfl) _ rgZ ?_; clear hS; intro b4 wW hS; simp only [nA]) | ((with_reducible refine to_store 27 rfl ?_); refine Wl_store hS (fun _ => by rfl) _ _ _ rfl rfl (rgI.trans rfl) (rg_one M.rReset none 0 0) ?_; (repeat (first | refine Turn.here rfl ?_)); clear hS; intro wW hS; try simp only [nA]))
  refine ret_st hS rfl _ _ rfl rfl _ Try.underlying27 rfl ?_
  repeat (first | (refine Row.here ⟨rgI.trans rfl, ?_⟩))
  exact ⟨rfl, hS.below⟩
set_option maxHeartbeats 8000000 in
theorem dcommand_any (B : Nat) (r : M.Rg) (hw : r.want = []) (A : Option Addr) (c : Nat) (hc : c ≤ maxLen) (b : Int) (h0 : 0 ≤ b) (h1 : b ≤ 255) (w : World) (hat : RgAt B r (.slice A 0 c) w) :
    Calls Try.prog 95 #[.pointer (some ⟨B, 0, none⟩), .int .u8 b] w (RgOut B (M.rCmd r b) (.tuple #[]) w) := by
  have hS := hat.st
  clear hat
  by_cases k1 : b = 195
  · subst k1
    have e1 : M.rCmd r 195 = M.rReset := by unfold M.rCmd; simp
    rw [e1]
    clear e1
    go_enter Try.func95, Try.ntmps95
    go_wp2_with (first
  | ((with_reducible refine to_bsl ?_); refine Wl_bsl hS 3 .i64 ([14]) Try.underlying25 szI zI rfl (by decide) (by decide) rfl ?_; clear hS; intro b5 wW hgeb5 hS; simp only [nA])
  )
    refine (dreset_any _).mono ?_
    rintro e w1 ⟨rfl, hb⟩
    replace hS := hS.call hb
    clear hb
    go_wp2_with (first
  | ((with_reducible refine to_store 27 rfl ?_); refine Wl_store hS (fun _ => by rfl) _ _ _ rfl rfl (rgI.trans rfl) (rg_one _ _ _ _) ?_; (repeat (first | refine Turn.here rfl ?_)); clear hS; intro wW hS; try simp only [nA]))
    go_returns
    exact RgOut.same (r' := M.rReset) rfl (Nat.zero_le _) hS (.head _)
  by_cases k2 : b = 199
  · subst k2
    have e1 : M.rCmd r 199 = { r with atime := 0 } := by unfold M.rCmd; simp
    rw [e1]
    clear e1
    go_enter Try.func95, Try.ntmps95
    go_wp2_with (first
  | ((with_reducible first | refine to_store 3 rfl ?_ ); (first | refine Wl_store1 hS (fun _ => by rfl) _ _ (.int _ _) rfl rfl (scT _ rfl) rfl rfl ?_ ); (repeat (first | refine Turn1.here (of_decide_eq_true rfl) (of_decide_eq_true rfl) ?_)); clear hS; intro wW hS; (try simp only [nA]); try simp only [Nat.sub_zero, Nat.add_zero, Nat.zero_add, Nat.reduceSub, Nat.add_sub_cancel_left, rg_ss] at hS))
    go_returns
    exact RgOut.same (r' := { r with atime := 0 }) hw hc hS (.head _)
  by_cases k3 : b = 203
  · subst k3
    have e1 : M.rCmd r 203 = { r with btime := 0 } := by unfold M.rCmd; simp
    rw [e1]
    clear e1
    go_enter Try.func95, Try.ntmps95
    go_wp2_with (first
  | ((with_reducible first | refine to_store 3 rfl ?_ ); (first | refine Wl_store1 hS (fun _ => by rfl) _ _ (.int _ _) rfl rfl (scT _ rfl) rfl rfl ?_ ); (repeat (first | refine Turn1.here (of_decide_eq_true rfl) (of_decide_eq_true rfl) ?_)); clear hS; intro wW hS; (try simp only [nA]); try simp only [Nat.sub_zero, Nat.add_zero, Nat.zero_add, Nat.reduceSub, Nat.add_sub_cancel_left, rg_ss] at hS))
    go_returns
    exact RgOut.same (r' := { r with btime := 0 }) hw hc hS (.head _)
  by_cases k4 : b = 175
  · subst k4
    have e1 : M.rCmd r 175 = { r with ints := false } := by unfold M.rCmd; simp
    rw [e1]
    clear e1
    go_enter Try.func95, Try.ntmps95
    go_wp2_with (first
  | ((with_reducible first | refine to_store 4 rfl ?_ ); (first | refine Wl_store1 hS (fun _ => by rfl) _ _ (.bool _) rfl rfl (scT _ rfl) rfl rfl ?_); (repeat (first | refine Turn1.here (of_decide_eq_true rfl) (of_decide_eq_true rfl) ?_)); clear hS; intro wW hS; (try simp only [nA]); try simp only [Nat.sub_zero, Nat.add_zero, Nat.zero_add, Nat.reduceSub, Nat.add_sub_cancel_left, rg_ss] at hS))
    go_returns
    exact RgOut.same (r' := { r with ints := false }) hw hc hS (.head _)
  by_cases k5 : b = 163
  · subst k5
    have e1 : M.rCmd r 163 = { r with ints := false } := by unfold M.rCmd; simp
    rw [e1]
    clear e1
    go_enter Try.func95, Try.ntmps95
    go_wp2_with (first
  | ((with_reducible first | refine to_store 4 rfl ?_ ); (first | refine Wl_store1 hS (fun _ => by rfl) _ _ (.bool _) rfl rfl (scT _ rfl) rfl rfl ?_); (repeat (first | refine Turn1.here (of_decide_eq_true rfl) (of_decide_eq_true rfl) ?_)); clear hS; intro wW hS; (try simp only [nA]); try simp only [Nat.sub_zero, Nat.add_zero, Nat.zero_add, Nat.reduceSub, Nat.add_sub_cancel_left, rg_ss] at hS))
    go_returns
    exact RgOut.same (r' := { r with ints := false }) hw hc hS (.head _)
  by_cases k6 : b = 171
  · subst k6
    have e1 : M.rCmd r 171 = { r with ints := true } := by unfold M.rCmd; simp
    rw [e1]
    clear e1
    go_enter Try.func95, Try.ntmps95
    go_wp2_with (first
  | ((with_reducible first | refine to_store 4 rfl ?_ ); (first | refine Wl_store1 hS (fun _ => by rfl) _ _ (.bool _) rfl rfl (scT _ rfl) rfl rfl ?_); (repeat (first | refine Turn1.here (of_decide_eq_true rfl) (of_decide_eq_true rfl) ?_)); clear hS; intro wW hS; (try simp only [nA]); try simp only [Nat.sub_zero, Nat.add_zero, Nat.zero_add, Nat.reduceSub, Nat.add_sub_cancel_left, rg_ss] at hS))
    go_returns
    exact RgOut.same (r' := { r with ints := true }) hw hc hS (.head _)
  by_cases k7 : b = 135
  · subst k7
    have e1 : M.rCmd r 135 = { r with on := true } := by unfold M.rCmd; simp
    rw [e1]
    clear e1
    go_enter Try.func95, Try.ntmps95
    go_wp2_with (first
  | ((with_reducible first | refine to_store 4 rfl ?_ ); (first | refine Wl_store1 hS (fun _ => by rfl) _ _ (.bool _) rfl rfl (scT _ rfl) rfl rfl ?_); (repeat (first | refine Turn1.here (of_decide_eq_true rfl) (of_decide_eq_true rfl) ?_)); clear hS; intro wW hS; (try simp only [nA]); try simp only [Nat.sub_zero, Nat.add_zero, Nat.zero_add, Nat.reduceSub, Nat.add_sub_cancel_left, rg_ss] at hS))
    go_returns
    exact RgOut.same (r' := { r with on := true }) hw hc hS (.head _)
  by_cases k8 : b = 131
  · subst k8
    have e1 : M.rCmd r 131 = { r with on := false } := by unfold M.rCmd; simp
    rw [e1]
    clear e1
    go_enter Try.func95, Try.ntmps95
    go_wp2_with (first
  | ((with_reducible first | refine to_store 4 rfl ?_ ); (first | refine Wl_store1 hS (fun _ => by rfl) _ _ (.bool _) rfl rfl (scT _ rfl) rfl rfl ?_); (repeat (first | refine Turn1.here (of_decide_eq_true rfl) (of_decide_eq_true rfl) ?_)); clear hS; intro wW hS; (try simp only [nA]); try simp only [Nat.sub_zero, Nat.add_zero, Nat.zero_add, Nat.reduceSub, Nat.add_sub_cancel_left, rg_ss] at hS))
    go_returns
    exact RgOut.same (r' := { r with on := false }) hw hc hS (.head _)
  by_cases k9 : b = 187
  · subst k9
    have e1 : M.rCmd r 187 = { r with want := [14] } := by unfold M.rCmd; simp
    rw [e1]
    clear e1
    go_enter Try.func95, Try.ntmps95
    go_wp2_with (first
  | ((with_reducible refine to_bsl ?_); refine Wl_bsl hS 3 .i64 ([14]) Try.underlying25 szI zI rfl (by decide) (by decide) rfl ?_; clear hS; intro b5 wW hgeb5 hS; simp only [nA])
  | ((with_reducible first | refine to_store 25 rfl ?_); (first | refine Wl_store1 hS (fun _ => by rfl) _ _ (.slice _ _ _) rfl rfl (scT _ rfl) rfl rfl ?_); (repeat (first | refine Turn1.here (of_decide_eq_true rfl) (of_decide_eq_true rfl) ?_ | refine Turn1.next ?_)); clear hS; intro wW hS; (try simp only [nA]); try simp only [Nat.sub_zero, Nat.add_zero, Nat.zero_add, Nat.reduceSub, Nat.add_sub_cancel_left, rg_ss] at hS))
    go_returns
    exact ⟨_, _, rfl, hS.range (.tail _ (.head _)), hS.lsOwn (k := .i64) (zs := [14]) hgeb5 (.head _) (by decide), hS.touch⟩
  · have e1 : M.rCmd r b = r := by unfold M.rCmd; simp [k1, k2, k3, k4, k5, k6, k7, k8, k9]
    rw [e1]
    clear e1
    have t1 : (b == 195) = false := by simpa using k1
    have t2 : (b == 199) = false := by simpa using k2
    have t3 : (b == 203) = false := by simpa using k3
    have t4 : (b == 175) = false := by simpa using k4
    have t5 : (b == 163) = false := by simpa using k5
    have t6 : (b == 171) = false := by simpa using k6
    have t7 : (b == 135) = false := by simpa using k7
    have t8 : (b == 131) = false := by simpa using k8
    have t9 : (b == 187) = false := by simpa using k9
    clear k1 k2 k3 k4 k5 k6 k7 k8 k9
    go_enter Try.func95, Try.ntmps95
    go_wp2_with (first
  | ((with_reducible refine to_bsl ?_); refine Wl_bsl hS 3 .i64 ([14]) Try.underlying25 szI zI rfl (by decide) (by decide) rfl ?_; clear hS; intro b5 wW hgeb5 hS; simp only [nA])
  )
    go_returns
    exact RgOut.same (r' := r) hw hc hS (.head _)
end Go.Proofs.Ytkkkjdbcckaedaa
