/- The reference's Reset, command, take (charabancref21), each by its contract. -/
import Derived.Test.YtkkkjdbcckaedaaRgRef
import Derived.Great.BuildSlice
namespace Go.Proofs.Ytkkkjdbcckaedaa
open Go.RowKit
set_option linter.unusedVariables false
set_option linter.unusedSimpArgs false
set_option maxRecDepth 100000
theorem Look.self {b q : Nat} {fr : Bool} {cs : Array Value} {l : List Ent} {k : Value → Prop} {v : Value} (hv : nth cs.toList 0 = some v) (h : k v) : Look (⟨b, q, fr, cs⟩ :: l) b q k := Look.here (Nat.le_refl _) (by rw [Nat.sub_self]; exact hv) h
theorem Ls.tail {F : Nat} {W : World} {k : IntKind} {x : Int} {L : List Int} {b q n c : Nat} (h : Ls F W (.slice (some ⟨b, q, none⟩) n c) (ints k (x :: L))) : Ls F W (.slice (some ⟨b, q + 1, none⟩) L.length (c - 1)) (ints k L) := by
  obtain ⟨b', q', c', hs, h1, h2, h3, h4, h5⟩ := h.all (by simp [ints])
  simp only [Value.slice.injEq, Option.some.injEq, Addr.mk.injEq] at hs
  obtain ⟨⟨rfl, rfl, -⟩, -, rfl⟩ := hs
  rw [ints_length] at h3
  refine Ls.mk' (ints_length _ _) (by simp at h3; omega) (by omega) h1 h2 fun i v hv => ?_
  have := h5 (i + 1) v (by simpa [ints] using hv)
  rwa [show q + (i + 1) = q + 1 + i by omega] at this
theorem szI : (Try.prog.info? 3).map (·.size) = some 1 := by kernel_rfl
theorem zI : ((Try.prog.info? 3).bind (·.zero)).isSome = true := by kernel_rfl
theorem to_bsl {P : Program} {ops : Array Oper} {rest : List Oper} {a : Act} {Q : Exit → Act → World → Prop} {w : World} {dst : Option Tmp} {ty t : TypeId} {n : Nat} {ps : Array (Nat × Operand)} {pos : String} {aft : Array Edge}
    (h : Wl P ops Q ({ dst := dst, op := .buildSlice t n ps, type := ty, pos := pos, after := aft, guard := none } :: rest) a w) : wpList P ops Q ({ dst := dst, op := .buildSlice t n ps, type := ty, pos := pos, after := aft, guard := none } :: rest) a w := h.of
theorem Wl_bsl {P : Program} {ops : Array Oper} {rest : List Oper} {a : Act} {Q : Exit → Act → World → Prop} {B o n : Nat} {w W : World} {es : List Ent} {dst : Option Tmp} {ty t : TypeId} {len : Nat} {ps : Array (Nat × Operand)} {pos : String} {aft : Array Edge}
    (hS : St B o n w es W) (e : TypeId) (k : IntKind) (zs : List Int) (hu : P.underlying t = some (.slice e)) (hsz : (P.info? e).map (·.size) = some 1) (hz : ((P.info? e).bind (·.zero)).isSome = true)
    (hlen : len = zs.length) (hpos : 0 < len) (hsmall : len ≤ 2 ^ 24) (hparts : ps.toList = (zs.zipIdx 0).map fun x => (x.2, Operand.const (Value.int k x.1)))
    (h : ∀ b W', w.heap.size ≤ b → St B o n w (⟨b, 0, true, (ints k zs).toArray⟩ :: es) W' → wpList P ops Q rest (a.put dst (.slice (some ⟨b, 0, none⟩) len len)) W') :
    Wl P ops Q ({ dst := dst, op := .buildSlice t len ps, type := ty, pos := pos, after := aft, guard := none } :: rest) a W :=
  Wl.mk (wpList_buildFlat rfl t e len ps rfl k zs hu hsz hz hlen hpos hsmall hparts (h _ _ hS.size (hS.new _ _)))
theorem St.lsOwn {B o n F b : Nat} {w W : World} {es : List Ent} {k : IntKind} {zs : List Int} (h : St B o n w es W) (hb : F ≤ b) (hm : (⟨b, 0, true, (ints k zs).toArray⟩ : Ent) ∈ es) (hz : zs.length ≤ maxLen) : Ls F W (.slice (some ⟨b, 0, none⟩) zs.length zs.length) (ints k zs) :=
  Ls.mk' (ints_length _ _) (Nat.le_refl _) hz hb (h.good _ hm).lt (by simpa using h.range hm)
theorem Own.ge {s : Value} {vs : List Value} {E es : List Ent} {w W : World} (h : Own s vs E) (hS : St w.heap.size 0 0 w (es ++ E) W) : ∀ e, e ∈ E → w.heap.size ≤ e.b := by
  rcases h with ⟨rfl, rfl, rfl⟩ | ⟨b, c, cs, rfl, h1, h2, h3, rfl, h5⟩
  · intro e he; cases he
  · intro e he
    have hg := hS.good e (List.mem_append_right _ he)
    rcases List.mem_singleton.1 he with rfl
    rcases hg.own rfl with k | ⟨k1, _⟩
    · exact k
    · exact Nat.le_of_eq k1.symm
theorem cmd_end {r' : M.Rg} {F : Nat} {W : World} {A : Option Addr} {c : Nat} {e : Ending} {Q : Prop} (hw : r'.want = []) (hc : c ≤ maxLen) (he : e = .returned (.agg (r'.c (.slice A 0 c)))) (hq : Q) :
    ∃ A' c', e = .returned (.agg (r'.c (.slice A' r'.want.length c'))) ∧ Ls F W (.slice A' r'.want.length c') (ints .i64 r'.want) ∧ Q := by
  rw [hw]
  exact ⟨A, c, he, Ls.nil _ _ _ _ hc, hq⟩
theorem rreset_any (w : World) : Calls Try.prog 62 #[] w fun e w' => e = .returned (.agg (M.rReset.c (.slice none 0 0))) ∧ Below w.heap.size w w' := by
  have hS := St.start w.heap.size 0 0 w
  go_enter Try.func62, Try.ntmps62
  go_wp2_with (first | ((with_reducible refine to_alloc 40 rfl ?_); refine Wl_alloc hS (fun _ => by rfl) _ rrgZ ?_; clear hS; intro b4 wW hS; simp only [nA]) | ((with_reducible refine to_store 40 rfl ?_); refine Wl_store hS (fun _ => by rfl) _ _ _ rfl rfl (rrgI.trans rfl) (rg_one M.rReset none 0 0) ?_; (repeat (first | refine Turn.here rfl ?_)); clear hS; intro wW hS; try simp only [nA]))
  refine ret_st hS rfl _ _ rfl rfl _ Try.underlying40 rfl ?_
  repeat (first | (refine Row.here ⟨rrgI.trans rfl, ?_⟩))
  exact ⟨rfl, hS.below⟩
set_option maxHeartbeats 8000000 in
theorem rcommand_any (r : M.Rg) (hw : r.want = []) (A : Option Addr) (c : Nat) (hc : c ≤ maxLen) (b : Int) (h0 : 0 ≤ b) (h1 : b ≤ 255) (w : World) :
    Calls Try.prog 75 #[.agg (r.c (.slice A 0 c)), .int .u8 b] w fun e w' => ∃ A' c', e = .returned (.agg ((M.rCmd r b).c (.slice A' (M.rCmd r b).want.length c'))) ∧ Ls w.heap.size w' (.slice A' (M.rCmd r b).want.length c') (ints .i64 (M.rCmd r b).want) ∧ Below w.heap.size w w' := by
  have hS := St.start w.heap.size 0 0 w
  by_cases k1 : b = 195
  · subst k1
    have e1 : M.rCmd r 195 = M.rReset := by unfold M.rCmd; simp
    rw [e1]
    clear e1
    go_enter Try.func75, Try.ntmps75
    go_wp2_with (first
  | ((with_reducible refine to_boxT 40 rfl ?_); refine Wl_box hS (fun _ => by rfl) _ rfl ?_; clear hS; intro b2 wW hS; simp only [nA])
  | ((with_reducible refine to_alloc 40 rfl ?_); refine Wl_alloc hS (fun _ => by rfl) _ rrgZ ?_; clear hS; intro b4 wW hS; simp only [nA])
  )
    refine (rreset_any _).mono ?_
    rintro e w1 ⟨rfl, hb⟩
    replace hS := hS.call hb
    clear hb
    go_wp2_with (first
  | ((with_reducible refine to_store 40 rfl ?_); refine Wl_store hS (fun _ => by rfl) _ _ _ rfl rfl (rrgI.trans rfl) (rg_one _ _ _ _) ?_; (repeat (first | refine Turn.here rfl ?_)); clear hS; intro wW hS; try simp only [nA]))
    refine ret_st hS rfl _ _ rfl rfl _ Try.underlying40 rfl ?_
    repeat (first | (refine Row.here ⟨rrgI.trans rfl, ?_⟩))
    exact cmd_end rfl (Nat.zero_le _) rfl hS.below
  by_cases k2 : b = 199
  · subst k2
    have e1 : M.rCmd r 199 = { r with atime := 0 } := by unfold M.rCmd; simp
    rw [e1]
    clear e1
    go_enter Try.func75, Try.ntmps75
    go_wp2_with (first
  | ((with_reducible refine to_boxT 40 rfl ?_); refine Wl_box hS (fun _ => by rfl) _ rfl ?_; clear hS; intro b2 wW hS; simp only [nA])
  | ((with_reducible refine to_alloc 40 rfl ?_); refine Wl_alloc hS (fun _ => by rfl) _ rrgZ ?_; clear hS; intro b4 wW hS; simp only [nA])
  | ((with_reducible first | refine to_store 3 rfl ?_ ); (first | refine Wl_store1 hS (fun _ => by rfl) _ _ (.int _ _) rfl rfl (scT _ rfl) rfl rfl ?_ ); (repeat (first | refine Turn1.here (of_decide_eq_true rfl) (of_decide_eq_true rfl) ?_ | refine Turn1.next ?_)); clear hS; intro wW hS; (try simp only [nA]); try simp only [Nat.sub_zero, Nat.add_zero, Nat.zero_add, Nat.reduceSub, Nat.add_sub_cancel_left, rg_ss] at hS)
  | ((with_reducible refine to_load 40 rfl ?_); refine Wl_load hS (fun _ => by rfl) _ _ rfl _ Try.underlying40 rfl ?_; (repeat (first | (refine Row.here ⟨rrgI.trans rfl, ?_⟩) | refine Row.next ?_)); (with_reducible show wpList _ _ _ _ _ _); simp only [nA])
  | ((with_reducible refine to_store 40 rfl ?_); refine Wl_store hS (fun _ => by rfl) _ _ _ rfl rfl (rrgI.trans rfl) (rg_one _ _ _ _) ?_; (repeat (first | refine Turn.here rfl ?_)); clear hS; intro wW hS; try simp only [nA]))
    refine ret_st hS rfl _ _ rfl rfl _ Try.underlying40 rfl ?_
    repeat (first | (refine Row.here ⟨rrgI.trans rfl, ?_⟩))
    exact cmd_end hw hc rfl hS.below
  by_cases k3 : b = 203
  · subst k3
    have e1 : M.rCmd r 203 = { r with btime := 0 } := by unfold M.rCmd; simp
    rw [e1]
    clear e1
    go_enter Try.func75, Try.ntmps75
    go_wp2_with (first
  | ((with_reducible refine to_boxT 40 rfl ?_); refine Wl_box hS (fun _ => by rfl) _ rfl ?_; clear hS; intro b2 wW hS; simp only [nA])
  | ((with_reducible refine to_alloc 40 rfl ?_); refine Wl_alloc hS (fun _ => by rfl) _ rrgZ ?_; clear hS; intro b4 wW hS; simp only [nA])
  | ((with_reducible first | refine to_store 3 rfl ?_ ); (first | refine Wl_store1 hS (fun _ => by rfl) _ _ (.int _ _) rfl rfl (scT _ rfl) rfl rfl ?_ ); (repeat (first | refine Turn1.here (of_decide_eq_true rfl) (of_decide_eq_true rfl) ?_ | refine Turn1.next ?_)); clear hS; intro wW hS; (try simp only [nA]); try simp only [Nat.sub_zero, Nat.add_zero, Nat.zero_add, Nat.reduceSub, Nat.add_sub_cancel_left, rg_ss] at hS)
  | ((with_reducible refine to_load 40 rfl ?_); refine Wl_load hS (fun _ => by rfl) _ _ rfl _ Try.underlying40 rfl ?_; (repeat (first | (refine Row.here ⟨rrgI.trans rfl, ?_⟩) | refine Row.next ?_)); (with_reducible show wpList _ _ _ _ _ _); simp only [nA])
  | ((with_reducible refine to_store 40 rfl ?_); refine Wl_store hS (fun _ => by rfl) _ _ _ rfl rfl (rrgI.trans rfl) (rg_one _ _ _ _) ?_; (repeat (first | refine Turn.here rfl ?_)); clear hS; intro wW hS; try simp only [nA]))
    refine ret_st hS rfl _ _ rfl rfl _ Try.underlying40 rfl ?_
    repeat (first | (refine Row.here ⟨rrgI.trans rfl, ?_⟩))
    exact cmd_end hw hc rfl hS.below
  by_cases k4 : b = 175
  · subst k4
    have e1 : M.rCmd r 175 = { r with ints := false } := by unfold M.rCmd; simp
    rw [e1]
    clear e1
    go_enter Try.func75, Try.ntmps75
    go_wp2_with (first
  | ((with_reducible refine to_boxT 40 rfl ?_); refine Wl_box hS (fun _ => by rfl) _ rfl ?_; clear hS; intro b2 wW hS; simp only [nA])
  | ((with_reducible refine to_alloc 40 rfl ?_); refine Wl_alloc hS (fun _ => by rfl) _ rrgZ ?_; clear hS; intro b4 wW hS; simp only [nA])
  | ((with_reducible first | refine to_store 4 rfl ?_ ); (first | refine Wl_store1 hS (fun _ => by rfl) _ _ (.bool _) rfl rfl (scT _ rfl) rfl rfl ?_); (repeat (first | refine Turn1.here (of_decide_eq_true rfl) (of_decide_eq_true rfl) ?_ | refine Turn1.next ?_)); clear hS; intro wW hS; (try simp only [nA]); try simp only [Nat.sub_zero, Nat.add_zero, Nat.zero_add, Nat.reduceSub, Nat.add_sub_cancel_left, rg_ss] at hS)
  | ((with_reducible refine to_load 40 rfl ?_); refine Wl_load hS (fun _ => by rfl) _ _ rfl _ Try.underlying40 rfl ?_; (repeat (first | (refine Row.here ⟨rrgI.trans rfl, ?_⟩) | refine Row.next ?_)); (with_reducible show wpList _ _ _ _ _ _); simp only [nA])
  | ((with_reducible refine to_store 40 rfl ?_); refine Wl_store hS (fun _ => by rfl) _ _ _ rfl rfl (rrgI.trans rfl) (rg_one _ _ _ _) ?_; (repeat (first | refine Turn.here rfl ?_)); clear hS; intro wW hS; try simp only [nA]))
    refine ret_st hS rfl _ _ rfl rfl _ Try.underlying40 rfl ?_
    repeat (first | (refine Row.here ⟨rrgI.trans rfl, ?_⟩))
    exact cmd_end hw hc rfl hS.below
  by_cases k5 : b = 163
  · subst k5
    have e1 : M.rCmd r 163 = { r with ints := false } := by unfold M.rCmd; simp
    rw [e1]
    clear e1
    go_enter Try.func75, Try.ntmps75
    go_wp2_with (first
  | ((with_reducible refine to_boxT 40 rfl ?_); refine Wl_box hS (fun _ => by rfl) _ rfl ?_; clear hS; intro b2 wW hS; simp only [nA])
  | ((with_reducible refine to_alloc 40 rfl ?_); refine Wl_alloc hS (fun _ => by rfl) _ rrgZ ?_; clear hS; intro b4 wW hS; simp only [nA])
  | ((with_reducible first | refine to_store 4 rfl ?_ ); (first | refine Wl_store1 hS (fun _ => by rfl) _ _ (.bool _) rfl rfl (scT _ rfl) rfl rfl ?_); (repeat (first | refine Turn1.here (of_decide_eq_true rfl) (of_decide_eq_true rfl) ?_ | refine Turn1.next ?_)); clear hS; intro wW hS; (try simp only [nA]); try simp only [Nat.sub_zero, Nat.add_zero, Nat.zero_add, Nat.reduceSub, Nat.add_sub_cancel_left, rg_ss] at hS)
  | ((with_reducible refine to_load 40 rfl ?_); refine Wl_load hS (fun _ => by rfl) _ _ rfl _ Try.underlying40 rfl ?_; (repeat (first | (refine Row.here ⟨rrgI.trans rfl, ?_⟩) | refine Row.next ?_)); (with_reducible show wpList _ _ _ _ _ _); simp only [nA])
  | ((with_reducible refine to_store 40 rfl ?_); refine Wl_store hS (fun _ => by rfl) _ _ _ rfl rfl (rrgI.trans rfl) (rg_one _ _ _ _) ?_; (repeat (first | refine Turn.here rfl ?_)); clear hS; intro wW hS; try simp only [nA]))
    refine ret_st hS rfl _ _ rfl rfl _ Try.underlying40 rfl ?_
    repeat (first | (refine Row.here ⟨rrgI.trans rfl, ?_⟩))
    exact cmd_end hw hc rfl hS.below
  by_cases k6 : b = 171
  · subst k6
    have e1 : M.rCmd r 171 = { r with ints := true } := by unfold M.rCmd; simp
    rw [e1]
    clear e1
    go_enter Try.func75, Try.ntmps75
    go_wp2_with (first
  | ((with_reducible refine to_boxT 40 rfl ?_); refine Wl_box hS (fun _ => by rfl) _ rfl ?_; clear hS; intro b2 wW hS; simp only [nA])
  | ((with_reducible refine to_alloc 40 rfl ?_); refine Wl_alloc hS (fun _ => by rfl) _ rrgZ ?_; clear hS; intro b4 wW hS; simp only [nA])
  | ((with_reducible first | refine to_store 4 rfl ?_ ); (first | refine Wl_store1 hS (fun _ => by rfl) _ _ (.bool _) rfl rfl (scT _ rfl) rfl rfl ?_); (repeat (first | refine Turn1.here (of_decide_eq_true rfl) (of_decide_eq_true rfl) ?_ | refine Turn1.next ?_)); clear hS; intro wW hS; (try simp only [nA]); try simp only [Nat.sub_zero, Nat.add_zero, Nat.zero_add, Nat.reduceSub, Nat.add_sub_cancel_left, rg_ss] at hS)
  | ((with_reducible refine to_load 40 rfl ?_); refine Wl_load hS (fun _ => by rfl) _ _ rfl _ Try.underlying40 rfl ?_; (repeat (first | (refine Row.here ⟨rrgI.trans rfl, ?_⟩) | refine Row.next ?_)); (with_reducible show wpList _ _ _ _ _ _); simp only [nA])
  | ((with_reducible refine to_store 40 rfl ?_); refine Wl_store hS (fun _ => by rfl) _ _ _ rfl rfl (rrgI.trans rfl) (rg_one _ _ _ _) ?_; (repeat (first | refine Turn.here rfl ?_)); clear hS; intro wW hS; try simp only [nA]))
    refine ret_st hS rfl _ _ rfl rfl _ Try.underlying40 rfl ?_
    repeat (first | (refine Row.here ⟨rrgI.trans rfl, ?_⟩))
    exact cmd_end hw hc rfl hS.below
  by_cases k7 : b = 135
  · subst k7
    have e1 : M.rCmd r 135 = { r with on := true } := by unfold M.rCmd; simp
    rw [e1]
    clear e1
    go_enter Try.func75, Try.ntmps75
    go_wp2_with (first
  | ((with_reducible refine to_boxT 40 rfl ?_); refine Wl_box hS (fun _ => by rfl) _ rfl ?_; clear hS; intro b2 wW hS; simp only [nA])
  | ((with_reducible refine to_alloc 40 rfl ?_); refine Wl_alloc hS (fun _ => by rfl) _ rrgZ ?_; clear hS; intro b4 wW hS; simp only [nA])
  | ((with_reducible first | refine to_store 4 rfl ?_ ); (first | refine Wl_store1 hS (fun _ => by rfl) _ _ (.bool _) rfl rfl (scT _ rfl) rfl rfl ?_); (repeat (first | refine Turn1.here (of_decide_eq_true rfl) (of_decide_eq_true rfl) ?_ | refine Turn1.next ?_)); clear hS; intro wW hS; (try simp only [nA]); try simp only [Nat.sub_zero, Nat.add_zero, Nat.zero_add, Nat.reduceSub, Nat.add_sub_cancel_left, rg_ss] at hS)
  | ((with_reducible refine to_load 40 rfl ?_); refine Wl_load hS (fun _ => by rfl) _ _ rfl _ Try.underlying40 rfl ?_; (repeat (first | (refine Row.here ⟨rrgI.trans rfl, ?_⟩) | refine Row.next ?_)); (with_reducible show wpList _ _ _ _ _ _); simp only [nA])
  | ((with_reducible refine to_store 40 rfl ?_); refine Wl_store hS (fun _ => by rfl) _ _ _ rfl rfl (rrgI.trans rfl) (rg_one _ _ _ _) ?_; (repeat (first | refine Turn.here rfl ?_)); clear hS; intro wW hS; try simp only [nA]))
    refine ret_st hS rfl _ _ rfl rfl _ Try.underlying40 rfl ?_
    repeat (first | (refine Row.here ⟨rrgI.trans rfl, ?_⟩))
    exact cmd_end hw hc rfl hS.below
  by_cases k8 : b = 131
  · subst k8
    have e1 : M.rCmd r 131 = { r with on := false } := by unfold M.rCmd; simp
    rw [e1]
    clear e1
    go_enter Try.func75, Try.ntmps75
    go_wp2_with (first
  | ((with_reducible refine to_boxT 40 rfl ?_); refine Wl_box hS (fun _ => by rfl) _ rfl ?_; clear hS; intro b2 wW hS; simp only [nA])
  | ((with_reducible refine to_alloc 40 rfl ?_); refine Wl_alloc hS (fun _ => by rfl) _ rrgZ ?_; clear hS; intro b4 wW hS; simp only [nA])
  | ((with_reducible first | refine to_store 4 rfl ?_ ); (first | refine Wl_store1 hS (fun _ => by rfl) _ _ (.bool _) rfl rfl (scT _ rfl) rfl rfl ?_); (repeat (first | refine Turn1.here (of_decide_eq_true rfl) (of_decide_eq_true rfl) ?_ | refine Turn1.next ?_)); clear hS; intro wW hS; (try simp only [nA]); try simp only [Nat.sub_zero, Nat.add_zero, Nat.zero_add, Nat.reduceSub, Nat.add_sub_cancel_left, rg_ss] at hS)
  | ((with_reducible refine to_load 40 rfl ?_); refine Wl_load hS (fun _ => by rfl) _ _ rfl _ Try.underlying40 rfl ?_; (repeat (first | (refine Row.here ⟨rrgI.trans rfl, ?_⟩) | refine Row.next ?_)); (with_reducible show wpList _ _ _ _ _ _); simp only [nA])
  | ((with_reducible refine to_store 40 rfl ?_); refine Wl_store hS (fun _ => by rfl) _ _ _ rfl rfl (rrgI.trans rfl) (rg_one _ _ _ _) ?_; (repeat (first | refine Turn.here rfl ?_)); clear hS; intro wW hS; try simp only [nA]))
    refine ret_st hS rfl _ _ rfl rfl _ Try.underlying40 rfl ?_
    repeat (first | (refine Row.here ⟨rrgI.trans rfl, ?_⟩))
    exact cmd_end hw hc rfl hS.below
  by_cases k9 : b = 187
  · subst k9
    have e1 : M.rCmd r 187 = { r with want := [14] } := by unfold M.rCmd; simp
    rw [e1]
    clear e1
    go_enter Try.func75, Try.ntmps75
    go_wp2_with (first
  | ((with_reducible refine to_bsl ?_); refine Wl_bsl hS 3 .i64 ([14]) Try.underlying25 szI zI rfl (by decide) (by decide) rfl ?_; clear hS; intro b5 wW hgeb5 hS; simp only [nA])
  | ((with_reducible refine to_boxT 40 rfl ?_); refine Wl_box hS (fun _ => by rfl) _ rfl ?_; clear hS; intro b2 wW hS; simp only [nA])
  | ((with_reducible refine to_alloc 40 rfl ?_); refine Wl_alloc hS (fun _ => by rfl) _ rrgZ ?_; clear hS; intro b4 wW hS; simp only [nA])
  | ((with_reducible first | refine to_store 25 rfl ?_); (first | refine Wl_store1 hS (fun _ => by rfl) _ _ (.slice _ _ _) rfl rfl (scT _ rfl) rfl rfl ?_); (repeat (first | refine Turn1.here (of_decide_eq_true rfl) (of_decide_eq_true rfl) ?_ | refine Turn1.next ?_)); clear hS; intro wW hS; (try simp only [nA]); try simp only [Nat.sub_zero, Nat.add_zero, Nat.zero_add, Nat.reduceSub, Nat.add_sub_cancel_left, rg_ss] at hS)
  | ((with_reducible refine to_load 40 rfl ?_); refine Wl_load hS (fun _ => by rfl) _ _ rfl _ Try.underlying40 rfl ?_; (repeat (first | (refine Row.here ⟨rrgI.trans rfl, ?_⟩) | refine Row.next ?_)); (with_reducible show wpList _ _ _ _ _ _); simp only [nA])
  | ((with_reducible refine to_store 40 rfl ?_); refine Wl_store hS (fun _ => by rfl) _ _ _ rfl rfl (rrgI.trans rfl) (rg_one _ _ _ _) ?_; (repeat (first | refine Turn.here rfl ?_ | refine Turn.next ?_)); clear hS; intro wW hS; try simp only [nA]))
    refine ret_st hS rfl _ _ rfl rfl _ Try.underlying40 rfl ?_
    repeat (first | (refine Row.here ⟨rrgI.trans rfl, ?_⟩) | refine Row.next ?_)
    exact ⟨_, _, rfl, hS.lsOwn (k := .i64) (zs := [14]) hgeb5 (.head _) (by decide), hS.below⟩
  · have e1 : M.rCmd r b = r := by unfold M.rCmd; simp [k1, k2, k3, k4, k5, k6, k7, k8, k9]
    rw [e1]
    clear e1
    have t1 : (b == 195) = false := by simpa using k1
    have t2 : (b == 199) = false := by simpa using k2
    have t3 : (b == 203) = false := by simpa using k3
    have t4 : (b == 175) = false := by simpa using k4
    have t5 : (b == 163) = false := by simpa using k5
    have t6 : (b == 171) = false := by simpa using k6
    have t7 : (b == 135) = false := by simpa using k7
    have t8 : (b == 131) = false := by simpa using k8
    have t9 : (b == 187) = false := by simpa using k9
    clear k1 k2 k3 k4 k5 k6 k7 k8 k9
    go_enter Try.func75, Try.ntmps75
    go_wp2_with (first
  | ((with_reducible refine to_boxT 40 rfl ?_); refine Wl_box hS (fun _ => by rfl) _ rfl ?_; clear hS; intro b2 wW hS; simp only [nA])
  | ((with_reducible refine to_alloc 40 rfl ?_); refine Wl_alloc hS (fun _ => by rfl) _ rrgZ ?_; clear hS; intro b4 wW hS; simp only [nA])
  | ((with_reducible refine to_load 40 rfl ?_); refine Wl_load hS (fun _ => by rfl) _ _ rfl _ Try.underlying40 rfl ?_; (repeat (first | (refine Row.here ⟨rrgI.trans rfl, ?_⟩) | refine Row.next ?_)); (with_reducible show wpList _ _ _ _ _ _); simp only [nA])
  | ((with_reducible refine to_store 40 rfl ?_); refine Wl_store hS (fun _ => by rfl) _ _ _ rfl rfl (rrgI.trans rfl) (rg_one _ _ _ _) ?_; (repeat (first | refine Turn.here rfl ?_)); clear hS; intro wW hS; try simp only [nA]))
    refine ret_st hS rfl _ _ rfl rfl _ Try.underlying40 rfl ?_
    repeat (first | (refine Row.here ⟨rrgI.trans rfl, ?_⟩))
    exact cmd_end hw hc rfl hS.below
end Go.Proofs.Ytkkkjdbcckaedaa
