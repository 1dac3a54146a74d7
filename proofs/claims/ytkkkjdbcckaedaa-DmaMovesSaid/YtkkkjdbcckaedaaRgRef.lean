/- The reference's lower, higher, low, command (charabancref21), each by its contract. -/
import Derived.Test.YtkkkjdbcckaedaaZRg
namespace Go.Proofs.Ytkkkjdbcckaedaa
open Go.RowKit
set_option linter.unusedVariables false
set_option linter.unusedSimpArgs false
set_option maxRecDepth 100000
def M.rLow (r : M.Rg) (b : Int) : M.Rg :=
  if b % 4 ≠ 0 then { r with cls := b % 4, atob := M.is b 2, want := M.rWants b 1 3 4 }
  else if M.is b 2 then { r with aio := M.is b 3, astep := M.rStep b, want := M.rWants b 5 6 1 }
  else { r with bio := M.is b 3, bstep := M.rStep b, want := M.rWants b 6 6 1 }
theorem M.rBase_low {r : M.Rg} {b : Int} (h : b < 128) : M.rBase r b = M.rLow r b := if_pos h
theorem St.lsF {B o n F : Nat} {w W : World} {es : List Ent} {s : Value} {vs : List Value} (h : St B o n w es W) (hs : Shp s vs.length) (hf : ∀ e, e ∈ entL s vs → F ≤ e.b) (hm : ∀ e, e ∈ entL s vs → e ∈ es) : Ls F W s vs :=
  ⟨hs, fun e he => ⟨hf e he, (h.good e (hm e he)).lt, (h.good e (hm e he)).rng⟩⟩
theorem rlower_any (x b : Int) (x0 : 0 ≤ x) (x1 : x ≤ 65535) (h0 : 0 ≤ b) (h1 : b ≤ 255) (w : World) : Calls Try.prog 96 #[.int .u16 x, .int .u8 b] w fun e w' => e = .returned (.int .u16 (M.lowW x b)) ∧ w = w' := by
  go_enter Try.func96, Try.ntmps96
  go_wp2_with fail
  refine (rhi_any x x0 x1 _).mono ?_
  rintro e w1 ⟨rfl, rfl⟩
  go_wp2_with fail
  refine (rword_any _ _ (by omega) (by omega) h0 h1 _).mono ?_
  rintro e w1 ⟨rfl, rfl⟩
  go_wp2_with fail
  go_ret
  exact ⟨rfl, rfl⟩
theorem rhigher_any (x b : Int) (x0 : 0 ≤ x) (x1 : x ≤ 65535) (h0 : 0 ≤ b) (h1 : b ≤ 255) (w : World) : Calls Try.prog 97 #[.int .u16 x, .int .u8 b] w fun e w' => e = .returned (.int .u16 (M.highW x b)) ∧ w = w' := by
  go_enter Try.func97, Try.ntmps97
  go_wp2_with fail
  refine (rlo_any x x0 x1 _).mono ?_
  rintro e w1 ⟨rfl, rfl⟩
  go_wp2_with fail
  refine (rword_any _ _ h0 h1 (by omega) (by omega) _).mono ?_
  rintro e w1 ⟨rfl, rfl⟩
  go_wp2_with fail
  go_ret
  exact ⟨rfl, rfl⟩
theorem ls_new {W : World} {k : IntKind} {L : List Int} {t : TypeId} (hm : L.length ≤ maxLen) : Ls 0 (W.alloc (.cells (ints k L).toArray t)) (.slice (some ⟨W.heap.size, 0, none⟩) L.length L.length) (ints k L) :=
  Ls.mk' (ints_length k L) (Nat.le_refl _) hm (Nat.zero_le _) (by simp) (range_new W (ints k L).toArray t)
theorem rwantedN (A1 : Option Addr) (c1 : Nat) (L1 : List Int) (b num : Int) (n k : Nat) (A2 : Option Addr) (c2 : Nat) (h0 : 0 ≤ b) (h1 : b ≤ 255) (hn0 : -1000 ≤ num) (hn1 : num ≤ 1000) (hn : n ≤ 100) (hk : k ≤ 100) (hL : L1.length ≤ 10000) (w : World)
    (r1 : Ls 0 w (.slice A1 L1.length c1) (ints .i64 L1)) (r2 : Ls 0 w (.slice A2 k c2) (ints .i64 (M.upFrom n k))) :
    Calls Try.prog 74 #[.slice A1 L1.length c1, .int .u8 b, .int .i64 num, .slice A2 k c2] w fun e w' => ∃ A c, e = .returned (.slice A (L1 ++ M.rWants b num n k).length c) ∧ Ls w.heap.size w' (.slice A (L1 ++ M.rWants b num n k).length c) (ints .i64 (L1 ++ M.rWants b num n k)) ∧ Below w.heap.size w w' :=
  (rwanted_any A1 c1 L1 b num n k A2 c2 h0 h1 hn0 hn1 hn hk hL w r1 r2).mono fun e w' h => by
    obtain ⟨v, E, rfl, hO, hE⟩ := h
    obtain ⟨A, c, rfl⟩ := hO.len
    rw [ints_length] at hO ⊢
    exact ⟨A, c, rfl, hO.res (es := []) hE, hE.below⟩
theorem rwantedNil (b num : Int) (n k : Nat) (h0 : 0 ≤ b) (h1 : b ≤ 255) (hn0 : -1000 ≤ num) (hn1 : num ≤ 1000) (hn : n ≤ 100) (hk : k ≤ 100) (A2 : Option Addr) (c2 : Nat) (w : World)
    (r2 : Ls 0 w (.slice A2 k c2) (ints .i64 (M.upFrom n k))) :
    Calls Try.prog 74 #[.slice none 0 0, .int .u8 b, .int .i64 num, .slice A2 k c2] w fun e w' => ∃ A c, e = .returned (.slice A (M.rWants b num n k).length c) ∧ Ls w.heap.size w' (.slice A (M.rWants b num n k).length c) (ints .i64 (M.rWants b num n k)) ∧ Below w.heap.size w w' :=
  rwantedN none 0 [] b num n k A2 c2 h0 h1 hn0 hn1 hn hk (by decide) w (Ls.nil _ _ _ _ (Nat.zero_le _)) r2
set_option maxHeartbeats 8000000 in
theorem rlow_any (r : M.Rg) (A : Option Addr) (n c : Nat) (b : Int) (h0 : 0 ≤ b) (h1 : b ≤ 127) (w : World) :
    Calls Try.prog 73 #[.agg (r.c (.slice A n c)), .int .u8 b] w fun e w' => ∃ A' c', e = .returned (.agg ((M.rLow r b).c (.slice A' (M.rLow r b).want.length c'))) ∧ Ls w.heap.size w' (.slice A' (M.rLow r b).want.length c') (ints .i64 (M.rLow r b).want) ∧ Below w.heap.size w w' := by
  have hS := St.start w.heap.size 0 0 w
  have hx0 : b ≤ 255 := by omega
  by_cases k : b % 4 = 0
  · cases hk : M.is b 2 with
    | true =>
      have e1 : M.rLow r b = { r with aio := M.is b 3, astep := M.rStep b, want := M.rWants b 5 6 1 } := by unfold M.rLow; rw [if_neg (by simp [k]), if_pos hk]
      rw [e1]
      clear e1
      go_enter Try.func73, Try.ntmps73
      go_wp2_with (first
  | ((with_reducible refine to_boxT 40 rfl ?_); refine Wl_box hS (fun _ => by rfl) _ rfl ?_; clear hS; intro b2 wW hS; simp only [nA])
  | ((with_reducible refine to_alloc 40 rfl ?_); refine Wl_alloc hS (fun _ => by rfl) _ rrgZ ?_; clear hS; intro b4 wW hS; simp only [nA])
  )
      refine (refis_any b _ h0 hx0 _).mono ?_
      rintro e w1 ⟨rfl, rfl⟩
      go_wp2_with (first
  | ((with_reducible refine to_boxT 40 rfl ?_); refine Wl_box hS (fun _ => by rfl) _ rfl ?_; clear hS; intro b2 wW hS; simp only [nA])
  )
      refine (refis_any b _ h0 hx0 _).mono ?_
      rintro e w1 ⟨rfl, rfl⟩
      go_wp2_with (first
  | ((with_reducible first | refine to_store 4 rfl ?_ ); (first | refine Wl_store1 hS (fun _ => by rfl) _ _ (.bool _) rfl rfl (scT _ rfl) rfl rfl ?_); (repeat (first | refine Turn1.here (of_decide_eq_true rfl) (of_decide_eq_true rfl) ?_ | refine Turn1.next ?_)); clear hS; intro wW hS; (try simp only [nA]); try simp only [Nat.sub_zero, Nat.add_zero, Nat.zero_add, Nat.reduceSub, Nat.add_sub_cancel_left, rg_ss] at hS)
  )
      refine (rstep_any b h0 hx0 _).mono ?_
      rintro e w1 ⟨rfl, hb⟩
      replace hS := hS.call hb
      clear hb
      go_wp2_with (first
  | ((with_reducible first | refine to_store 3 rfl ?_ ); (first | refine Wl_store1 hS (fun _ => by rfl) _ _ (.int _ _) rfl rfl (scT _ rfl) rfl rfl ?_ ); (repeat (first | refine Turn1.here (of_decide_eq_true rfl) (of_decide_eq_true rfl) ?_ | refine Turn1.next ?_)); clear hS; intro wW hS; (try simp only [nA]); try simp only [Nat.sub_zero, Nat.add_zero, Nat.zero_add, Nat.reduceSub, Nat.add_sub_cancel_left, rg_ss] at hS)
  )
      replace hS := (hS.new (ints .i64 (M.upFrom 6 1)).toArray 3).rest
      refine (rwantedNil b _ 6 1 h0 hx0 (by decide) (by decide) (by decide) (by decide) _ _ _ (ls_new (L := M.upFrom 6 1) (by decide))).mono ?_
      rintro e w1 ⟨A1, c1, rfl, hl, hb⟩
      have hfA1 := fun e he => Nat.le_trans hS.size (hl.ent e he).1
      replace hS := hS.callN hb hl
      simp only [List.cons_append, List.nil_append] at hS
      have hshA1 := hl.shp
      clear hb hl
      go_wp2_with (first
  | ((with_reducible first | refine to_store 25 rfl ?_); (first | refine Wl_store1 hS (fun _ => by rfl) _ _ (.slice _ _ _) rfl rfl (scT _ rfl) rfl rfl ?_); (repeat (first | refine Turn1.here (of_decide_eq_true rfl) (of_decide_eq_true rfl) ?_ | refine Turn1.next ?_)); clear hS; intro wW hS; (try simp only [nA]); try simp only [Nat.sub_zero, Nat.add_zero, Nat.zero_add, Nat.reduceSub, Nat.add_sub_cancel_left, rg_ss] at hS)
  | ((with_reducible refine to_load 40 rfl ?_); refine Wl_load hS (fun _ => by rfl) _ _ rfl _ Try.underlying40 rfl ?_; (repeat (first | (refine Row.here ⟨rrgI.trans rfl, ?_⟩) | refine Row.next ?_)); (with_reducible show wpList _ _ _ _ _ _); simp only [nA])
  | ((with_reducible refine to_store 40 rfl ?_); refine Wl_store hS (fun _ => by rfl) _ _ _ rfl rfl (rrgI.trans rfl) (rg_one _ _ _ _) ?_; (repeat (first | refine Turn.here rfl ?_)); clear hS; intro wW hS; try simp only [nA]))
      refine ret_st hS rfl _ _ rfl rfl _ Try.underlying40 rfl ?_
      repeat (first | (refine Row.here ⟨rrgI.trans rfl, ?_⟩))
      exact ⟨A1, c1, rfl, hS.lsF hshA1 hfA1 (fun e he => by repeat (first | exact he | refine List.Mem.tail _ ?_)), hS.below⟩
    | false =>
      have e1 : M.rLow r b = { r with bio := M.is b 3, bstep := M.rStep b, want := M.rWants b 6 6 1 } := by unfold M.rLow; rw [if_neg (by simp [k]), if_neg (by simp [hk])]
      rw [e1]
      clear e1
      go_enter Try.func73, Try.ntmps73
      go_wp2_with (first
  | ((with_reducible refine to_boxT 40 rfl ?_); refine Wl_box hS (fun _ => by rfl) _ rfl ?_; clear hS; intro b2 wW hS; simp only [nA])
  | ((with_reducible refine to_alloc 40 rfl ?_); refine Wl_alloc hS (fun _ => by rfl) _ rrgZ ?_; clear hS; intro b4 wW hS; simp only [nA])
  )
      refine (refis_any b _ h0 hx0 _).mono ?_
      rintro e w1 ⟨rfl, rfl⟩
      go_wp2_with (first
  | ((with_reducible refine to_boxT 40 rfl ?_); refine Wl_box hS (fun _ => by rfl) _ rfl ?_; clear hS; intro b2 wW hS; simp only [nA])
  )
      refine (refis_any b _ h0 hx0 _).mono ?_
      rintro e w1 ⟨rfl, rfl⟩
      go_wp2_with (first
  | ((with_reducible first | refine to_store 4 rfl ?_ ); (first | refine Wl_store1 hS (fun _ => by rfl) _ _ (.bool _) rfl rfl (scT _ rfl) rfl rfl ?_); (repeat (first | refine Turn1.here (of_decide_eq_true rfl) (of_decide_eq_true rfl) ?_ | refine Turn1.next ?_)); clear hS; intro wW hS; (try simp only [nA]); try simp only [Nat.sub_zero, Nat.add_zero, Nat.zero_add, Nat.reduceSub, Nat.add_sub_cancel_left, rg_ss] at hS)
  )
      refine (rstep_any b h0 hx0 _).mono ?_
      rintro e w1 ⟨rfl, hb⟩
      replace hS := hS.call hb
      clear hb
      go_wp2_with (first
  | ((with_reducible first | refine to_store 3 rfl ?_ ); (first | refine Wl_store1 hS (fun _ => by rfl) _ _ (.int _ _) rfl rfl (scT _ rfl) rfl rfl ?_ ); (repeat (first | refine Turn1.here (of_decide_eq_true rfl) (of_decide_eq_true rfl) ?_ | refine Turn1.next ?_)); clear hS; intro wW hS; (try simp only [nA]); try simp only [Nat.sub_zero, Nat.add_zero, Nat.zero_add, Nat.reduceSub, Nat.add_sub_cancel_left, rg_ss] at hS)
  )
      replace hS := (hS.new (ints .i64 (M.upFrom 6 1)).toArray 3).rest
      refine (rwantedNil b _ 6 1 h0 hx0 (by decide) (by decide) (by decide) (by decide) _ _ _ (ls_new (L := M.upFrom 6 1) (by decide))).mono ?_
      rintro e w1 ⟨A1, c1, rfl, hl, hb⟩
      have hfA1 := fun e he => Nat.le_trans hS.size (hl.ent e he).1
      replace hS := hS.callN hb hl
      simp only [List.cons_append, List.nil_append] at hS
      have hshA1 := hl.shp
      clear hb hl
      go_wp2_with (first
  | ((with_reducible first | refine to_store 25 rfl ?_); (first | refine Wl_store1 hS (fun _ => by rfl) _ _ (.slice _ _ _) rfl rfl (scT _ rfl) rfl rfl ?_); (repeat (first | refine Turn1.here (of_decide_eq_true rfl) (of_decide_eq_true rfl) ?_ | refine Turn1.next ?_)); clear hS; intro wW hS; (try simp only [nA]); try simp only [Nat.sub_zero, Nat.add_zero, Nat.zero_add, Nat.reduceSub, Nat.add_sub_cancel_left, rg_ss] at hS)
  | ((with_reducible refine to_load 40 rfl ?_); refine Wl_load hS (fun _ => by rfl) _ _ rfl _ Try.underlying40 rfl ?_; (repeat (first | (refine Row.here ⟨rrgI.trans rfl, ?_⟩) | refine Row.next ?_)); (with_reducible show wpList _ _ _ _ _ _); simp only [nA])
  | ((with_reducible refine to_store 40 rfl ?_); refine Wl_store hS (fun _ => by rfl) _ _ _ rfl rfl (rrgI.trans rfl) (rg_one _ _ _ _) ?_; (repeat (first | refine Turn.here rfl ?_)); clear hS; intro wW hS; try simp only [nA]))
      refine ret_st hS rfl _ _ rfl rfl _ Try.underlying40 rfl ?_
      repeat (first | (refine Row.here ⟨rrgI.trans rfl, ?_⟩))
      exact ⟨A1, c1, rfl, hS.lsF hshA1 hfA1 (fun e he => by repeat (first | exact he | refine List.Mem.tail _ ?_)), hS.below⟩
  · have e1 : M.rLow r b = { r with cls := b % 4, atob := M.is b 2, want := M.rWants b 1 3 4 } := by unfold M.rLow; rw [if_pos k]
    rw [e1]
    clear e1
    have k' : (b % 4 == 0) = false := by simpa using k
    go_enter Try.func73, Try.ntmps73
    go_wp2_with (first
  | ((with_reducible refine to_boxT 40 rfl ?_); refine Wl_box hS (fun _ => by rfl) _ rfl ?_; clear hS; intro b2 wW hS; simp only [nA])
  | ((with_reducible refine to_alloc 40 rfl ?_); refine Wl_alloc hS (fun _ => by rfl) _ rrgZ ?_; clear hS; intro b4 wW hS; simp only [nA])
  )
    refine (refis_any b _ h0 hx0 _).mono ?_
    rintro e w1 ⟨rfl, rfl⟩
    go_wp2_with (first
  | ((with_reducible refine to_boxT 40 rfl ?_); refine Wl_box hS (fun _ => by rfl) _ rfl ?_; clear hS; intro b2 wW hS; simp only [nA])
  )
    refine (refis_any b _ h0 hx0 _).mono ?_
    rintro e w1 ⟨rfl, rfl⟩
    go_wp2_with (first
  | ((with_reducible first | refine to_store 3 rfl ?_ | refine to_store 4 rfl ?_ ); (first | refine Wl_store1 hS (fun _ => by rfl) _ _ (.int _ _) rfl rfl (scT _ rfl) rfl rfl ?_ | refine Wl_store1 hS (fun _ => by rfl) _ _ (.bool _) rfl rfl (scT _ rfl) rfl rfl ?_); (repeat (first | refine Turn1.here (of_decide_eq_true rfl) (of_decide_eq_true rfl) ?_ | refine Turn1.next ?_)); clear hS; intro wW hS; (try simp only [nA]); try simp only [Nat.sub_zero, Nat.add_zero, Nat.zero_add, Nat.reduceSub, Nat.add_sub_cancel_left, rg_ss] at hS)
  )
    replace hS := (hS.new (ints .i64 (M.upFrom 3 4)).toArray 3).rest
    refine (rwantedNil b _ 3 4 h0 hx0 (by decide) (by decide) (by decide) (by decide) _ _ _ (ls_new (L := M.upFrom 3 4) (by decide))).mono ?_
    rintro e w1 ⟨A1, c1, rfl, hl, hb⟩
    have hfA1 := fun e he => Nat.le_trans hS.size (hl.ent e he).1
    replace hS := hS.callN hb hl
    simp only [List.cons_append, List.nil_append] at hS
    have hshA1 := hl.shp
    clear hb hl
    go_wp2_with (first
  | ((with_reducible first | refine to_store 25 rfl ?_); (first | refine Wl_store1 hS (fun _ => by rfl) _ _ (.slice _ _ _) rfl rfl (scT _ rfl) rfl rfl ?_); (repeat (first | refine Turn1.here (of_decide_eq_true rfl) (of_decide_eq_true rfl) ?_ | refine Turn1.next ?_)); clear hS; intro wW hS; (try simp only [nA]); try simp only [Nat.sub_zero, Nat.add_zero, Nat.zero_add, Nat.reduceSub, Nat.add_sub_cancel_left, rg_ss] at hS)
  | ((with_reducible refine to_load 40 rfl ?_); refine Wl_load hS (fun _ => by rfl) _ _ rfl _ Try.underlying40 rfl ?_; (repeat (first | (refine Row.here ⟨rrgI.trans rfl, ?_⟩) | refine Row.next ?_)); (with_reducible show wpList _ _ _ _ _ _); simp only [nA])
  | ((with_reducible refine to_store 40 rfl ?_); refine Wl_store hS (fun _ => by rfl) _ _ _ rfl rfl (rrgI.trans rfl) (rg_one _ _ _ _) ?_; (repeat (first | refine Turn.here rfl ?_)); clear hS; intro wW hS; try simp only [nA]))
    refine ret_st hS rfl _ _ rfl rfl _ Try.underlying40 rfl ?_
    repeat (first | (refine Row.here ⟨rrgI.trans rfl, ?_⟩))
    exact ⟨A1, c1, rfl, hS.lsF hshA1 hfA1 (fun e he => by repeat (first | exact he | refine List.Mem.tail _ ?_)), hS.below⟩
end Go.Proofs.Ytkkkjdbcckaedaa
