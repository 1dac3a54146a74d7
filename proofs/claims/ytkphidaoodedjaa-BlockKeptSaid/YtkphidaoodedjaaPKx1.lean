/- Written by a program of this session out of the translation and the contracts proved by hand: each function's answer and its proof; each law's statement over plain numbers. -/
import Derived.Test.YtkphidaoodedjaaPKx0
namespace Go.Proofs.Ytkphidaoodedjaa.PK
open Go.RowKit Go.Proofs.YtkphidaoodedjaaW.PrintWords Go.Proofs.YtkphidaoodedjaaW.PrintLast Go.Proofs.YtkphidaoodedjaaW.PrintMore
attribute [local go_sem] max2_int min2_int max_two min_two max_three min_three max_four min_four   -- for this text's walks alone
set_option linter.unusedVariables false
set_option linter.unusedSimpArgs false

/-! ### block_all: function 31 -/
def block_all.l0 : Nat → Int → List (S42) → Int → Int → Option (Int)
  | 0, _, _, _, _ => none
  | k + 1, x0, x7, x8, x9 => if x9 < x8 then (if 0 ≤ x9 then (if x9 < (x7.length : Int) then (if (rd_T42 x7 x9).f0 = true then (block_all.l0 k (Go.bits .or .u8 x0 ((rd_T42 x7 x9).f1)) x7 x8 (wrap64 (x9 + 1))) else (block_all.l0 k x0 x7 x8 (wrap64 (x9 + 1)))) else (none)) else (none)) else (some x0)
def block_all.f (k : Nat) (a0 : Int) (l1 : List (S42)) : Option (Int) := block_all.l0 k a0 l1 (l1.length : Int) 0
theorem block_all.mono_l : ∀ k, (∀ y0 y1 y2 y3, LeO (block_all.l0 k y0 y1 y2 y3) (block_all.l0 (k + 1) y0 y1 y2 y3))
  | 0 => fun _ _ _ _ r h => by simp [block_all.l0] at h
  | k + 1 => by
    have ih0 := block_all.mono_l k
    · intro y0 y1 y2 y3
      unfold block_all.l0
      repeat' first
      | (with_reducible exact ih0 _ _ _ _)
      | (with_reducible exact LeO.refl _)
      | (with_reducible exact LeO.none _)
      | (with_reducible refine LeO.ite ?_ ?_)
      | (with_reducible refine LeO.bind ?_ (fun _ => ?_))
      | exact ih0 _ _ _ _
      | exact LeO.none _
      | refine LeO.ite ?_ ?_
      | refine LeO.bind ?_ (fun _ => ?_)
theorem block_all.mono : ∀ a0 a1 k, LeO (block_all.f k a0 a1) (block_all.f (k + 1) a0 a1) := by
  intro a0 a1 k
  have ih0 := block_all.mono_l k
  unfold block_all.f
  repeat' first
      | (with_reducible exact ih0 _ _ _ _)
      | (with_reducible exact LeO.refl _)
      | (with_reducible exact LeO.none _)
      | (with_reducible refine LeO.ite ?_ ?_)
      | (with_reducible refine LeO.bind ?_ (fun _ => ?_))
      | exact ih0 _ _ _ _
      | exact LeO.none _
      | refine LeO.ite ?_ ?_
      | refine LeO.bind ?_ (fun _ => ?_)
set_option maxHeartbeats 8000000 in
set_option maxRecDepth 100000 in
theorem block_all.calls (k : Nat) (a0 : Int) (A1 : Option Addr) (c1 : Nat) (l1 : List (S42)) (r : Int) (w : World) (hr1 : Kd.C k42 w A1 l1.length l1) (hc1 : l1.length ≤ c1) (h : block_all.f k a0 l1 = some r) :
    Calls Try.prog 31 #[.int .u8 a0, .slice A1 l1.length c1] w fun e w' => e = .returned (.int .u8 r) ∧ Below w.heap.size w w' := by
  have hu42 := Try.underlying42
  have HR1 := Aside0.mk hr1
  have HC1 := Aside0.mk hc1
  clear hr1 hc1
  have HB := Aside0.mk (Below.refl w.heap.size w)
  have H : (block_all.l0 k a0 l1 (l1.length : Int) 0) = some r := h
  clear h
  have H' := Aside0.mk H
  clear H
  go_enter Try.func31, Try.ntmps31
  go_wp2
  go_loopg [0, 9] k (fun kq v0 v9 w' => ∃ (x0_1 : Int) (x9_1 : Int), v0 = .int .u8 x0_1 ∧ v9 = .int .i64 x9_1 ∧ Aside0 (block_all.l0 kq x0_1 l1 (l1.length : Int) x9_1 = some r) ∧ Aside0 (kq ≤ k) ∧ Aside0 (Below w.heap.size w w'))
  case atStart => exact ⟨(a0), (0), (by first | rfl | (simp; done) | (simp [*]; done)), (by first | rfl | (simp; done) | (simp [*]; done)), H', ⟨Nat.le_refl _⟩, ⟨by repeat (first | (with_reducible first | exact HB.out | apply below_alloc | apply pw_below_drewN | apply below_drew1) | exact HB.out)⟩⟩
  case round =>
    clear H'
    try clear c1
    try clear p2
    obtain ⟨x0_1, x9_1, rfl, rfl, HA, HK1, HB⟩ := hrel
    cases gk with
    | zero => exact absurd HA.out (by simp [block_all.l0])
    | succ k1 =>
      have H := HA.out
      clear HA
      simp only [block_all.l0] at H
      by_cases c3 : x9_1 < (l1.length : Int)
      · rw [if_pos c3] at H
        have c3b0 : decide (x9_1 < (l1.length : Int)) = true := decide_eq_true c3
        clear c3
        by_cases c4 : 0 ≤ x9_1
        · rw [if_pos c4] at H
          have c4b0 : decide (0 ≤ x9_1) = true := decide_eq_true c4
          clear c4
          by_cases c5 : x9_1 < (l1.length : Int)
          · rw [if_pos c5] at H
            have c5b0 : decide (x9_1 < (l1.length : Int)) = true := decide_eq_true c5
            clear c5
            obtain ⟨bq6, hbq6⟩ : ∃ b_ : Bool, b_ = ((rd_T42 l1 x9_1).f0) := ⟨_, rfl⟩
            replace H : (if bq6 = true then (block_all.l0 k1 (Go.bits .or .u8 x0_1 ((rd_T42 l1 x9_1).f1)) l1 (l1.length : Int) (wrap64 (x9_1 + 1))) else (block_all.l0 k1 x0_1 l1 (l1.length : Int) (wrap64 (x9_1 + 1)))) = some r := by rw [← hbq6] at H; exact H
            have Nbq6 := Aside0.mk hbq6
            clear hbq6
            by_cases c7 : bq6 = true
            · subst c7
              have H1 : (block_all.l0 k1 (Go.bits .or .u8 x0_1 ((rd_T42 l1 x9_1).f1)) l1 (l1.length : Int) (wrap64 (x9_1 + 1))) = some r := by rw [if_pos rfl] at H; exact H
              clear H
              have H := H1
              clear H1
              have H' := Aside0.mk H
              clear H
              have p101 : 0 ≤ (x9_1 : Int) := of_decide_eq_true (by first | (with_reducible assumption) | assumption)
              have q101 : x9_1 < (l1.length : Int) := of_decide_eq_true (by first | (with_reducible assumption) | assumption)
              obtain ⟨ad101, e101, hx101_0, hx101_1⟩ := at_T42 HR1.out x9_1 p101 q101
              (try rw [← Nbq6.out] at hx101_0)
              cases e101
              replace hx101_0 := (HB.out.cell (World.block_lt_of_cell? w _ hx101_0)).trans hx101_0
              replace hx101_1 := (HB.out.cell (World.block_lt_of_cell? w _ hx101_1)).trans hx101_1
              replace p101 := eq_true p101
              replace q101 := eq_true q101
              go_wp2_with (first | ((with_reducible refine gate_dst (N := 6) rfl ?_); refine box_event ?hg (N := 6) ?hd (cs := #[.bool false, .int .u8 0]) (t := 42) ?hr ?_; (case hd => rfl); (case hg => rfl); (case hr => first | (go_simp; done) | (go_simp; rfl)); intro gb102 hg w8 hbox hb; have n0_ := Aside0.mk (below_step (by repeat (first | (with_reducible first | exact HB.out | apply below_alloc | apply pw_below_drewN | apply below_drew1) | exact HB.out)) hb); have n1_ := Aside0.mk (hbox); have n2_ := Aside0.mk ((by rw [hg]; exact (below_size (by repeat (first | (with_reducible first | exact HB.out | apply below_alloc | apply pw_below_drewN | apply below_drew1) | exact HB.out))) : w.heap.size ≤ gb102)); have n3_ := Aside0.mk ((by rw [hg]; exact (below_size (by repeat (first | (with_reducible first | exact HB.out | apply below_alloc | apply pw_below_drewN | apply below_drew1) | exact HB.out))) : w.heap.size ≤ gb102)); clear HB; have HB := n0_; have BK102 := n1_; have GW102 := n2_; have GE102 := n3_; clear n0_ n1_ n2_ n3_; clear hb hbox hg; have hcz9_0 : w8.cell? ⟨gb102, 0, none⟩ = some (.bool false) := (blk_cell BK102.out 0).trans rfl; have hcz9_1 : w8.cell? ⟨gb102, 1, none⟩ = some (.int .u8 0) := (blk_cell BK102.out 1).trans rfl; have hfz9_0 := blk_frozen BK102.out 0; have hfz9_1 := blk_frozen BK102.out 1))
              go_roundg k1
              case measure => have := HK1.out; omega
              case rel => exact ⟨(Go.bits .or .u8 x0_1 ((rd_T42 l1 x9_1).f1)), (wrap64 (x9_1 + 1)), (by first | rfl | (simp; done) | (simp [*]; done)), (by first | rfl | (simp; done) | (simp [*]; done)), H', ⟨by have := HK1.out; omega⟩, ⟨by repeat (first | (with_reducible first | exact HB.out | apply below_alloc | apply pw_below_drewN | apply below_drew1 | refine below_set ?_ GE102.out) | exact HB.out)⟩⟩
            · replace c7 := Bool.eq_false_iff.mpr c7
              subst c7
              have H1 : (block_all.l0 k1 x0_1 l1 (l1.length : Int) (wrap64 (x9_1 + 1))) = some r := by rw [if_neg (show ¬ (false = true) by decide)] at H; exact H
              clear H
              have H := H1
              clear H1
              have H' := Aside0.mk H
              clear H
              have p101 : 0 ≤ (x9_1 : Int) := of_decide_eq_true (by first | (with_reducible assumption) | assumption)
              have q101 : x9_1 < (l1.length : Int) := of_decide_eq_true (by first | (with_reducible assumption) | assumption)
              obtain ⟨ad101, e101, hx101_0, hx101_1⟩ := at_T42 HR1.out x9_1 p101 q101
              (try rw [← Nbq6.out] at hx101_0)
              cases e101
              replace hx101_0 := (HB.out.cell (World.block_lt_of_cell? w _ hx101_0)).trans hx101_0
              replace hx101_1 := (HB.out.cell (World.block_lt_of_cell? w _ hx101_1)).trans hx101_1
              replace p101 := eq_true p101
              replace q101 := eq_true q101
              go_wp2_with (first | ((with_reducible refine gate_dst (N := 6) rfl ?_); refine box_event ?hg (N := 6) ?hd (cs := #[.bool false, .int .u8 0]) (t := 42) ?hr ?_; (case hd => rfl); (case hg => rfl); (case hr => first | (go_simp; done) | (go_simp; rfl)); intro gb102 hg w10 hbox hb; have n0_ := Aside0.mk (below_step (by repeat (first | (with_reducible first | exact HB.out | apply below_alloc | apply pw_below_drewN | apply below_drew1) | exact HB.out)) hb); have n1_ := Aside0.mk (hbox); have n2_ := Aside0.mk ((by rw [hg]; exact (below_size (by repeat (first | (with_reducible first | exact HB.out | apply below_alloc | apply pw_below_drewN | apply below_drew1) | exact HB.out))) : w.heap.size ≤ gb102)); have n3_ := Aside0.mk ((by rw [hg]; exact (below_size (by repeat (first | (with_reducible first | exact HB.out | apply below_alloc | apply pw_below_drewN | apply below_drew1) | exact HB.out))) : w.heap.size ≤ gb102)); clear HB; have HB := n0_; have BK102 := n1_; have GW102 := n2_; have GE102 := n3_; clear n0_ n1_ n2_ n3_; clear hb hbox hg; have hcz11_0 : w10.cell? ⟨gb102, 0, none⟩ = some (.bool false) := (blk_cell BK102.out 0).trans rfl; have hcz11_1 : w10.cell? ⟨gb102, 1, none⟩ = some (.int .u8 0) := (blk_cell BK102.out 1).trans rfl; have hfz11_0 := blk_frozen BK102.out 0; have hfz11_1 := blk_frozen BK102.out 1))
              go_roundg k1
              case measure => have := HK1.out; omega
              case rel => exact ⟨(x0_1), (wrap64 (x9_1 + 1)), (by first | rfl | (simp; done) | (simp [*]; done)), (by first | rfl | (simp; done) | (simp [*]; done)), H', ⟨by have := HK1.out; omega⟩, ⟨by repeat (first | (with_reducible first | exact HB.out | apply below_alloc | apply pw_below_drewN | apply below_drew1 | refine below_set ?_ GE102.out) | exact HB.out)⟩⟩
          · rw [if_neg c5] at H
            exact absurd H (by simp)
        · rw [if_neg c4] at H
          exact absurd H (by simp)
      · rw [if_neg c3] at H
        have c3b0 : decide (x9_1 < (l1.length : Int)) = false := decide_eq_false c3
        clear c3
        obtain rfl := Option.some.inj H
        go_wp2
        first | go_ret | go_returns
        exact ⟨by first | rfl | (simp [errW_none, errW_some] <;> rfl) | (simp [*, errW_none, errW_some] <;> rfl), by repeat (first | (with_reducible first | exact HB.out | apply below_alloc | apply pw_below_drewN | apply below_drew1) | exact HB.out)⟩

/-! ### block_lines: function 32 -/
def block_lines.f (a0 : Int) : Option (Int) := some (Go.bits .or .u8 (Go.bits .and .u8 ((a0 * 16) % 256) 32) (Go.bits .and .u8 a0 8))
set_option maxHeartbeats 8000000 in
set_option maxRecDepth 100000 in
theorem block_lines.calls (a0 : Int) (r : Int) (w : World) (h : block_lines.f a0 = some r) :
    Calls Try.prog 32 #[.int .u8 a0] w fun e w' => e = .returned (.int .u8 r) ∧ Drawn0 w w' := by
  have H : (some (Go.bits .or .u8 (Go.bits .and .u8 ((a0 * 16) % 256) 32) (Go.bits .and .u8 a0 8))) = some r := h
  clear h
  obtain rfl := Option.some.inj H
  go_enter Try.func32, Try.ntmps32
  go_wp2
  first | go_ret | go_returns
  exact ⟨by first | rfl | (simp; done) | (simp [*]; done), by repeat (first | exact Drawn0.refl _ | apply Drawn0.step)⟩

/-! ### block_Move: function 12 -/
def block_Move.f (k : Nat) (a0 : Int) (a1 : Int) (a2 : Int) (a3 : Int) : Option (Int) := (block_lines.f ((a0 + a1) % 256)).bind fun t103 => ((block_all.f k (Go.bits .or .u8 (Go.bits .and .u8 a3 193) t103) (([(⟨(a2 != 0), 4⟩ : S42)] : List (S42)))).bind fun t107 => (some t107))
theorem block_Move.mono : ∀ a0 a1 a2 a3 k, LeO (block_Move.f k a0 a1 a2 a3) (block_Move.f (k + 1) a0 a1 a2 a3) := by
  intro a0 a1 a2 a3 k
  unfold block_Move.f
  repeat' first
      | (with_reducible exact block_all.mono _ _ _)
      | (with_reducible exact LeO.refl _)
      | (with_reducible exact LeO.none _)
      | (with_reducible refine LeO.ite ?_ ?_)
      | (with_reducible refine LeO.bind ?_ (fun _ => ?_))
      | exact block_all.mono _ _ _
      | exact LeO.none _
      | refine LeO.ite ?_ ?_
      | refine LeO.bind ?_ (fun _ => ?_)
set_option maxHeartbeats 8000000 in
set_option maxRecDepth 100000 in
theorem block_Move.calls (k : Nat) (a0 : Int) (a1 : Int) (a2 : Int) (a3 : Int) (r : Int) (w : World) (h : block_Move.f k a0 a1 a2 a3 = some r) :
    Calls Try.prog 12 #[.int .u8 a0, .int .u8 a1, .int .u16 a2, .int .u8 a3] w fun e w' => e = .returned (.int .u8 r) ∧ Below w.heap.size w w' := by
  have hu42 := Try.underlying42
  have HB := Aside0.mk (Below.refl w.heap.size w)
  have H : ((block_lines.f ((a0 + a1) % 256)).bind fun t103 => ((block_all.f k (Go.bits .or .u8 (Go.bits .and .u8 a3 193) t103) (([(⟨(a2 != 0), 4⟩ : S42)] : List (S42)))).bind fun t107 => (some t107))) = some r := h
  clear h
  replace H := Option.bind_eq_some_iff.mp H
  obtain ⟨t103, A50, H⟩ := H
  replace H : ((block_all.f k (Go.bits .or .u8 (Go.bits .and .u8 a3 193) t103) (([(⟨(a2 != 0), 4⟩ : S42)] : List (S42)))).bind fun t107 => (some t107)) = some r := H
  have A5 := Aside0.mk A50
  clear A50
  obtain ⟨y104, hy104⟩ : ∃ y_ : List (S42), y_ = (([(⟨(a2 != 0), 4⟩ : S42)] : List (S42))) := ⟨_, rfl⟩
  replace H : ((block_all.f k (Go.bits .or .u8 (Go.bits .and .u8 a3 193) t103) y104).bind fun t107 => (some t107)) = some r := by first | (rw [hy104]; with_reducible exact H) | (have H2_ := (Option.bind_some _ _).symm.trans H; rw [hy104]; with_reducible exact H2_) | (have H2_ := (Option.bind_some _ _).symm.trans H; with_reducible exact H2_) | with_reducible exact H | (rw [hy104]; exact H) | exact H
  have Ny104 := Aside0.mk hy104
  clear hy104
  replace H := Option.bind_eq_some_iff.mp H
  obtain ⟨t107, A60, H⟩ := H
  replace H : (some t107) = some r := H
  have A6 := Aside0.mk A60
  clear A60
  obtain rfl := Option.some.inj H
  go_enter Try.func12, Try.ntmps12
  go_wp2_with (first | ((with_reducible refine gate_callee (f := 32) rfl ?_); refine goesL_ (some 14) rfl rfl Try.func32 (by kernel_rfl) rfl #[.int .u8 ((a0 + a1) % 256)] rfl (by (try simp only [List.map_toArray, List.map_cons, List.map_nil]); first | done | rfl | (simp only [List.length_drop, List.length_take]; rfl)) ?_; (with_reducible refine (block_lines.calls ((a0 + a1) % 256) t103 _ A5.out).mono ?_); rintro e w' ⟨rfl, ⟨nd, rfl⟩⟩; refine ⟨_, rfl, ?_⟩) | ((with_reducible refine gate_dst (N := 19) rfl ?_); refine Kd.R_lit k42 _ 42 ?hg (N := 19) ?hd (xs := ([(⟨(a2 != 0), 4⟩ : S42)] : List (S42))) (inner := [.bool (a2 != 0), .int .u8 4]) (ok := fun _ => True) (okp := fun _ => True) ?hr ?hp (fun _ hk => hk) trivial (Below.refl _ _) (Nat.le_refl _) (by simp) ?_; (case hd => rfl); (case hg => rfl); (case hr => first | (go_simp; done) | (go_simp; rfl)); (case hp => exact (Reps.c2 (show Kd.M k42 _ _ _ (⟨(a2 != 0), 4⟩ : S42) [.bool (a2 != 0), .int .u8 4] from (k42_mkM _ _ _ (⟨(a2 != 0), 4⟩ : S42) )) (Reps.none _ _))); intro v105 w7 ho8 hb hg_ hnew_; clear hg_ hnew_; (first | rw [← Ny104.out] at ho8 | (simp only [Int.reduceToNat] at ho8; rw [← Ny104.out] at ho8)); have n0_ := Aside0.mk (Kd.R_lower ho8 (below_size (by repeat (first | (with_reducible first | exact HB.out | apply below_alloc | apply pw_below_drewN | apply below_drew1) | exact HB.out)))); have n1_ := Aside0.mk (below_step (by repeat (first | (with_reducible first | exact HB.out | apply below_alloc | apply pw_below_drewN | apply below_drew1) | exact HB.out)) hb); clear HB; have HO106 := n0_; have HB := n1_; clear n0_ n1_; clear hb ho8; obtain ⟨Ao9, co9, eo9⟩ := Kd.R_slice HO106.out; subst eo9) | ((with_reducible refine gate_callee (f := 31) rfl ?_); refine goesL_ (some 20) rfl rfl Try.func31 (by kernel_rfl) rfl #[.int .u8 (Go.bits .or .u8 (Go.bits .and .u8 a3 193) t103), .slice Ao9 y104.length co9] rfl (by (try simp only [List.map_toArray, List.map_cons, List.map_nil]); first | done | rfl | (simp only [List.length_drop, List.length_take]; rfl)) ?_; (with_reducible refine (block_all.calls k (Go.bits .or .u8 (Go.bits .and .u8 a3 193) t103) _ _ y104 t107 _ ?side1 ?side2 A6.out).mono ?_); (case side1 => repeat (first | exact (Kd.R_reads' HO106.out).2.2 | (with_reducible refine Kd.C_alloc ?_ _) | (with_reducible refine Kd.C_drewN ?_ _) | (with_reducible refine Kd.C_drew ?_))); (case side2 => exact (Kd.R_reads' HO106.out).2.1); rintro e w10 ⟨rfl, hb⟩; refine ⟨_, rfl, ?_⟩; have n0_ := Aside0.mk (Kd.R_below (by (with_reducible repeat (first | apply Kd.R_alloc | apply Kd.R_drewN | apply Kd.R_drew)); exact HO106.out) hb); have n1_ := Aside0.mk (below_step (by repeat (first | (with_reducible first | exact HB.out | apply below_alloc | apply pw_below_drewN | apply below_drew1) | exact HB.out)) hb); clear HO106; clear HB; have HO106 := n0_; have HB := n1_; clear n0_ n1_; (try clear hb); (try clear hb2); (try clear hk); (try clear hi)))
  first | go_ret | go_returns
  exact ⟨by first | rfl | (simp [errW_none, errW_some] <;> rfl) | (simp [*, errW_none, errW_some] <;> rfl), by repeat (first | (with_reducible first | exact HB.out | apply below_alloc | apply pw_below_drewN | apply below_drew1) | exact HB.out)⟩

/-! ### sum_one_uint16: function 50 -/
def sum_one_uint16.f (a0 : Bool) : Option (Int) := if a0 = true then (some 1) else (some 0)
set_option maxHeartbeats 8000000 in
set_option maxRecDepth 100000 in
theorem sum_one_uint16.calls (a0 : Bool) (r : Int) (w : World) (h : sum_one_uint16.f a0 = some r) :
    Calls Try.prog 50 #[.bool a0] w fun e w' => e = .returned (.int .u16 r) ∧ Drawn0 w w' := by
  have H : (if a0 = true then (some 1) else (some 0)) = some r := h
  clear h
  by_cases c2 : a0 = true
  · subst c2
    have H1 : (some 1) = some r := by rw [if_pos rfl] at H; exact H
    clear H
    have H := H1
    clear H1
    obtain rfl := Option.some.inj H
    go_enter Try.func50, Try.ntmps50
    go_wp2
    first | go_ret | go_returns
    exact ⟨by first | rfl | (simp; done) | (simp [*]; done), by repeat (first | exact Drawn0.refl _ | apply Drawn0.step)⟩
  · replace c2 := Bool.eq_false_iff.mpr c2
    subst c2
    have H1 : (some 0) = some r := by rw [if_neg (show ¬ (false = true) by decide)] at H; exact H
    clear H
    have H := H1
    clear H1
    obtain rfl := Option.some.inj H
    go_enter Try.func50, Try.ntmps50
    go_wp2
    first | go_ret | go_returns
    exact ⟨by first | rfl | (simp; done) | (simp [*]; done), by repeat (first | exact Drawn0.refl _ | apply Drawn0.step)⟩

/-! ### sum_all: function 51 -/
def sum_all.l0 : Nat → Int → List Int → Int → Int → Option (Int)
  | 0, _, _, _, _ => none
  | k + 1, x3, x6, x7, x8 => if x8 < x7 then (if 0 ≤ x8 then (if x8 < (x6.length : Int) then (sum_all.l0 k (Go.bits .or .u8 x3 (rd x6 x8)) x6 x7 (wrap64 (x8 + 1))) else (none)) else (none)) else (some x3)
def sum_all.f (k : Nat) (l0 : List Int) : Option (Int) := sum_all.l0 k 0 l0 (l0.length : Int) 0
theorem sum_all.mono_l : ∀ k, (∀ y0 y1 y2 y3, LeO (sum_all.l0 k y0 y1 y2 y3) (sum_all.l0 (k + 1) y0 y1 y2 y3))
  | 0 => fun _ _ _ _ r h => by simp [sum_all.l0] at h
  | k + 1 => by
    have ih0 := sum_all.mono_l k
    · intro y0 y1 y2 y3
      unfold sum_all.l0
      repeat' first
      | (with_reducible exact ih0 _ _ _ _)
      | (with_reducible exact LeO.refl _)
      | (with_reducible exact LeO.none _)
      | (with_reducible refine LeO.ite ?_ ?_)
      | (with_reducible refine LeO.bind ?_ (fun _ => ?_))
      | exact ih0 _ _ _ _
      | exact LeO.none _
      | refine LeO.ite ?_ ?_
      | refine LeO.bind ?_ (fun _ => ?_)
theorem sum_all.mono : ∀ a0 k, LeO (sum_all.f k a0) (sum_all.f (k + 1) a0) := by
  intro a0 k
  have ih0 := sum_all.mono_l k
  unfold sum_all.f
  repeat' first
      | (with_reducible exact ih0 _ _ _ _)
      | (with_reducible exact LeO.refl _)
      | (with_reducible exact LeO.none _)
      | (with_reducible refine LeO.ite ?_ ?_)
      | (with_reducible refine LeO.bind ?_ (fun _ => ?_))
      | exact ih0 _ _ _ _
      | exact LeO.none _
      | refine LeO.ite ?_ ?_
      | refine LeO.bind ?_ (fun _ => ?_)
set_option maxHeartbeats 8000000 in
set_option maxRecDepth 100000 in
theorem sum_all.calls (k : Nat) (A0 : Option Addr) (c0 : Nat) (l0 : List Int) (r : Int) (w : World) (hr0 : Kd.C (Kd.int .u8) w A0 l0.length l0) (hc0 : l0.length ≤ c0) (h : sum_all.f k l0 = some r) :
    Calls Try.prog 51 #[.slice A0 l0.length c0] w fun e w' => e = .returned (.int .u8 r) ∧ Drawn0 w w' := by
  have HR0 := Aside0.mk hr0
  have HC0 := Aside0.mk hc0
  clear hr0 hc0
  have H : (sum_all.l0 k 0 l0 (l0.length : Int) 0) = some r := h
  clear h
  have H' := Aside0.mk H
  clear H
  go_enter Try.func51, Try.ntmps51
  go_wp2
  go_loopg [3, 8] k (fun kq v3 v8 w' => ∃ (x3_1 : Int) (x8_1 : Int), v3 = .int .u8 x3_1 ∧ v8 = .int .i64 x8_1 ∧ Aside0 (sum_all.l0 kq x3_1 l0 (l0.length : Int) x8_1 = some r) ∧ Aside0 (kq ≤ k) ∧ Drawn0 w w')
  case atStart => exact ⟨(0), (0), (by first | rfl | (simp; done) | (simp [*]; done)), (by first | rfl | (simp; done) | (simp [*]; done)), H', ⟨Nat.le_refl _⟩, by repeat (first | exact Drawn0.refl _ | apply Drawn0.step)⟩
  case round =>
    clear H'
    obtain ⟨x3_1, x8_1, rfl, rfl, HA, HK1, ⟨m1, rfl⟩⟩ := hrel
    cases gk with
    | zero => exact absurd HA.out (by simp [sum_all.l0])
    | succ k1 =>
      have H := HA.out
      clear HA
      simp only [sum_all.l0] at H
      by_cases c2 : x8_1 < (l0.length : Int)
      · rw [if_pos c2] at H
        have c2b0 : decide (x8_1 < (l0.length : Int)) = true := decide_eq_true c2
        clear c2
        by_cases c3 : 0 ≤ x8_1
        · rw [if_pos c3] at H
          have c3b0 : decide (0 ≤ x8_1) = true := decide_eq_true c3
          clear c3
          by_cases c4 : x8_1 < (l0.length : Int)
          · rw [if_pos c4] at H
            have c4b0 : decide (x8_1 < (l0.length : Int)) = true := decide_eq_true c4
            clear c4
            have H' := Aside0.mk H
            clear H
            have p108 : 0 ≤ (x8_1 : Int) := of_decide_eq_true (by first | (with_reducible assumption) | assumption)
            have q108 : x8_1 < (l0.length : Int) := of_decide_eq_true (by first | (with_reducible assumption) | assumption)
            obtain ⟨ad108, e108, hx108_0⟩ := Kd.at_int HR0.out x8_1 p108 q108
            cases e108
            replace p108 := eq_true p108
            replace q108 := eq_true q108
            go_wp2
            go_roundg k1
            case measure => have := HK1.out; omega
            case rel => exact ⟨(Go.bits .or .u8 x3_1 (rd l0 x8_1)), (wrap64 (x8_1 + 1)), (by first | rfl | (simp; done) | (simp [*]; done)), (by first | rfl | (simp; done) | (simp [*]; done)), H', ⟨by have := HK1.out; omega⟩, by repeat (first | exact Drawn0.refl _ | apply Drawn0.step)⟩
          · rw [if_neg c4] at H
            exact absurd H (by simp)
        · rw [if_neg c3] at H
          exact absurd H (by simp)
      · rw [if_neg c2] at H
        have c2b0 : decide (x8_1 < (l0.length : Int)) = false := decide_eq_false c2
        clear c2
        obtain rfl := Option.some.inj H
        go_wp2
        first | go_ret | go_returns
        exact ⟨by first | rfl | (simp; done) | (simp [*]; done), by repeat (first | exact Drawn0.refl _ | apply Drawn0.step)⟩

/-! ### flags_Result: function 52 -/
def flags_Result.f (a0 : Int) : Option (Int) := if a0 = 0 then (some 64) else (some (Go.bits .and .u8 a0 168))
set_option maxHeartbeats 8000000 in
set_option maxRecDepth 100000 in
theorem flags_Result.calls (a0 : Int) (r : Int) (w : World) (h : flags_Result.f a0 = some r) :
    Calls Try.prog 52 #[.int .u8 a0] w fun e w' => e = .returned (.int .u8 r) ∧ Drawn0 w w' := by
  have H : (if a0 = 0 then (some 64) else (some (Go.bits .and .u8 a0 168))) = some r := h
  clear h
  by_cases c2 : a0 = 0
  · rw [if_pos c2] at H
    have c2b0 : (a0 == 0) = true := beq_iff_eq.mpr c2
    have c2b1 : (a0 != 0) = false := bne_eq_false_iff_eq.mpr c2
    clear c2
    obtain rfl := Option.some.inj H
    go_enter Try.func52, Try.ntmps52
    go_wp2
    first | go_ret | go_returns
    exact ⟨by first | rfl | (simp; done) | (simp [*]; done), by repeat (first | exact Drawn0.refl _ | apply Drawn0.step)⟩
  · rw [if_neg c2] at H
    have c2b0 : (a0 == 0) = false := beq_eq_false_iff_ne.mpr c2
    have c2b1 : (a0 != 0) = true := bne_iff_ne.mpr c2
    obtain rfl := Option.some.inj H
    go_enter Try.func52, Try.ntmps52
    go_wp2
    first | go_ret | go_returns
    exact ⟨by first | rfl | (simp; done) | (simp [*]; done), by repeat (first | exact Drawn0.refl _ | apply Drawn0.step)⟩

/-! ### sum_one_uint8: function 70 -/
def sum_one_uint8.f (a0 : Bool) : Option (Int) := if a0 = true then (some 1) else (some 0)
set_option maxHeartbeats 8000000 in
set_option maxRecDepth 100000 in
theorem sum_one_uint8.calls (a0 : Bool) (r : Int) (w : World) (h : sum_one_uint8.f a0 = some r) :
    Calls Try.prog 70 #[.bool a0] w fun e w' => e = .returned (.int .u8 r) ∧ Drawn0 w w' := by
  have H : (if a0 = true then (some 1) else (some 0)) = some r := h
  clear h
  by_cases c2 : a0 = true
  · subst c2
    have H1 : (some 1) = some r := by rw [if_pos rfl] at H; exact H
    clear H
    have H := H1
    clear H1
    obtain rfl := Option.some.inj H
    go_enter Try.func70, Try.ntmps70
    go_wp2
    first | go_ret | go_returns
    exact ⟨by first | rfl | (simp; done) | (simp [*]; done), by repeat (first | exact Drawn0.refl _ | apply Drawn0.step)⟩
  · replace c2 := Bool.eq_false_iff.mpr c2
    subst c2
    have H1 : (some 0) = some r := by rw [if_neg (show ¬ (false = true) by decide)] at H; exact H
    clear H
    have H := H1
    clear H1
    obtain rfl := Option.some.inj H
    go_enter Try.func70, Try.ntmps70
    go_wp2
    first | go_ret | go_returns
    exact ⟨by first | rfl | (simp; done) | (simp [*]; done), by repeat (first | exact Drawn0.refl _ | apply Drawn0.step)⟩

/-! ### sum_when: function 53 -/
def sum_when.f (a0 : Bool) (a1 : Int) : Option (Int) := (sum_one_uint8.f a0).bind fun t109 => (some ((a1 * t109) % 256))
set_option maxHeartbeats 8000000 in
set_option maxRecDepth 100000 in
theorem sum_when.calls (a0 : Bool) (a1 : Int) (r : Int) (w : World) (h : sum_when.f a0 a1 = some r) :
    Calls Try.prog 53 #[.bool a0, .int .u8 a1] w fun e w' => e = .returned (.int .u8 r) ∧ Drawn0 w w' := by
  have H : ((sum_one_uint8.f a0).bind fun t109 => (some ((a1 * t109) % 256))) = some r := h
  clear h
  replace H := Option.bind_eq_some_iff.mp H
  obtain ⟨t109, A30, H⟩ := H
  replace H : (some ((a1 * t109) % 256)) = some r := H
  have A3 := Aside0.mk A30
  clear A30
  obtain rfl := Option.some.inj H
  go_enter Try.func53, Try.ntmps53
  go_wp2_with (first | ((with_reducible refine gate_callee (f := 70) rfl ?_); refine goesL_ (some 7) rfl rfl Try.func70 (by kernel_rfl) rfl #[.bool a0] rfl (by (try simp only [List.map_toArray, List.map_cons, List.map_nil]); first | done | rfl | (simp only [List.length_drop, List.length_take]; rfl)) ?_; (with_reducible refine (sum_one_uint8.calls a0 t109 _ A3.out).mono ?_); rintro e w' ⟨rfl, ⟨nd, rfl⟩⟩; refine ⟨_, rfl, ?_⟩))
  first | go_ret | go_returns
  exact ⟨by first | rfl | (simp; done) | (simp [*]; done), by repeat (first | exact Drawn0.refl _ | apply Drawn0.step)⟩

/-! ### sum_Sub: function 36 -/
def sum_Sub.f (k : Nat) (a0 : Int) (a1 : Int) (a2 : Bool) : Option (Int × Int) := (sum_one_uint16.f a2).bind fun t110 => ((flags_Result.f ((IntKind.u16.wrap ((IntKind.u16.wrap ((IntKind.u16.wrap (a0)) - (IntKind.u16.wrap (a1)))) - t110)) % 256)).bind fun t111 => ((sum_when.f ((Go.bits .and .u8 (Go.bits .and .u8 (Go.bits .xor .u8 a0 a1) (Go.bits .xor .u8 a0 ((IntKind.u16.wrap ((IntKind.u16.wrap ((IntKind.u16.wrap (a0)) - (IntKind.u16.wrap (a1)))) - t110)) % 256))) 128) != 0) 4).bind fun t112 => ((sum_when.f (decide ((IntKind.u16.wrap ((IntKind.u16.wrap ((IntKind.u16.wrap (a0)) - (IntKind.u16.wrap (a1)))) - t110)) > 255)) 1).bind fun t113 => ((sum_all.f k (([t111, Go.bits .and .u8 (Go.bits .xor .u8 (Go.bits .xor .u8 a0 a1) ((IntKind.u16.wrap ((IntKind.u16.wrap ((IntKind.u16.wrap (a0)) - (IntKind.u16.wrap (a1)))) - t110)) % 256)) 16, t112, 2, t113] : List Int))).bind fun t117 => (some ((IntKind.u16.wrap ((IntKind.u16.wrap ((IntKind.u16.wrap (a0)) - (IntKind.u16.wrap (a1)))) - t110)) % 256, t117))))))
theorem sum_Sub.mono : ∀ a0 a1 a2 k, LeO (sum_Sub.f k a0 a1 a2) (sum_Sub.f (k + 1) a0 a1 a2) := by
  intro a0 a1 a2 k
  unfold sum_Sub.f
  repeat' first
      | (with_reducible exact sum_all.mono _ _)
      | (with_reducible exact LeO.refl _)
      | (with_reducible exact LeO.none _)
      | (with_reducible refine LeO.ite ?_ ?_)
      | (with_reducible refine LeO.bind ?_ (fun _ => ?_))
      | exact sum_all.mono _ _
      | exact LeO.none _
      | refine LeO.ite ?_ ?_
      | refine LeO.bind ?_ (fun _ => ?_)
set_option maxHeartbeats 8000000 in
set_option maxRecDepth 100000 in
theorem sum_Sub.calls (k : Nat) (a0 : Int) (a1 : Int) (a2 : Bool) (r1 : Int) (r2 : Int) (w : World) (h : sum_Sub.f k a0 a1 a2 = some (r1, r2)) :
    Calls Try.prog 36 #[.int .u8 a0, .int .u8 a1, .bool a2] w fun e w' => e = .returned (.tuple #[.int .u8 r1, .int .u8 r2]) ∧ Below w.heap.size w w' := by
  have HB := Aside0.mk (Below.refl w.heap.size w)
  have H : ((sum_one_uint16.f a2).bind fun t110 => ((flags_Result.f ((IntKind.u16.wrap ((IntKind.u16.wrap ((IntKind.u16.wrap (a0)) - (IntKind.u16.wrap (a1)))) - t110)) % 256)).bind fun t111 => ((sum_when.f ((Go.bits .and .u8 (Go.bits .and .u8 (Go.bits .xor .u8 a0 a1) (Go.bits .xor .u8 a0 ((IntKind.u16.wrap ((IntKind.u16.wrap ((IntKind.u16.wrap (a0)) - (IntKind.u16.wrap (a1)))) - t110)) % 256))) 128) != 0) 4).bind fun t112 => ((sum_when.f (decide ((IntKind.u16.wrap ((IntKind.u16.wrap ((IntKind.u16.wrap (a0)) - (IntKind.u16.wrap (a1)))) - t110)) > 255)) 1).bind fun t113 => ((sum_all.f k (([t111, Go.bits .and .u8 (Go.bits .xor .u8 (Go.bits .xor .u8 a0 a1) ((IntKind.u16.wrap ((IntKind.u16.wrap ((IntKind.u16.wrap (a0)) - (IntKind.u16.wrap (a1)))) - t110)) % 256)) 16, t112, 2, t113] : List Int))).bind fun t117 => (some ((IntKind.u16.wrap ((IntKind.u16.wrap ((IntKind.u16.wrap (a0)) - (IntKind.u16.wrap (a1)))) - t110)) % 256, t117))))))) = some (r1, r2) := h
  clear h
  replace H := Option.bind_eq_some_iff.mp H
  obtain ⟨t110, A40, H⟩ := H
  replace H : ((flags_Result.f ((IntKind.u16.wrap ((IntKind.u16.wrap ((IntKind.u16.wrap (a0)) - (IntKind.u16.wrap (a1)))) - t110)) % 256)).bind fun t111 => ((sum_when.f ((Go.bits .and .u8 (Go.bits .and .u8 (Go.bits .xor .u8 a0 a1) (Go.bits .xor .u8 a0 ((IntKind.u16.wrap ((IntKind.u16.wrap ((IntKind.u16.wrap (a0)) - (IntKind.u16.wrap (a1)))) - t110)) % 256))) 128) != 0) 4).bind fun t112 => ((sum_when.f (decide ((IntKind.u16.wrap ((IntKind.u16.wrap ((IntKind.u16.wrap (a0)) - (IntKind.u16.wrap (a1)))) - t110)) > 255)) 1).bind fun t113 => ((sum_all.f k (([t111, Go.bits .and .u8 (Go.bits .xor .u8 (Go.bits .xor .u8 a0 a1) ((IntKind.u16.wrap ((IntKind.u16.wrap ((IntKind.u16.wrap (a0)) - (IntKind.u16.wrap (a1)))) - t110)) % 256)) 16, t112, 2, t113] : List Int))).bind fun t117 => (some ((IntKind.u16.wrap ((IntKind.u16.wrap ((IntKind.u16.wrap (a0)) - (IntKind.u16.wrap (a1)))) - t110)) % 256, t117)))))) = some (r1, r2) := H
  have A4 := Aside0.mk A40
  clear A40
  replace H := Option.bind_eq_some_iff.mp H
  obtain ⟨t111, A50, H⟩ := H
  replace H : ((sum_when.f ((Go.bits .and .u8 (Go.bits .and .u8 (Go.bits .xor .u8 a0 a1) (Go.bits .xor .u8 a0 ((IntKind.u16.wrap ((IntKind.u16.wrap ((IntKind.u16.wrap (a0)) - (IntKind.u16.wrap (a1)))) - t110)) % 256))) 128) != 0) 4).bind fun t112 => ((sum_when.f (decide ((IntKind.u16.wrap ((IntKind.u16.wrap ((IntKind.u16.wrap (a0)) - (IntKind.u16.wrap (a1)))) - t110)) > 255)) 1).bind fun t113 => ((sum_all.f k (([t111, Go.bits .and .u8 (Go.bits .xor .u8 (Go.bits .xor .u8 a0 a1) ((IntKind.u16.wrap ((IntKind.u16.wrap ((IntKind.u16.wrap (a0)) - (IntKind.u16.wrap (a1)))) - t110)) % 256)) 16, t112, 2, t113] : List Int))).bind fun t117 => (some ((IntKind.u16.wrap ((IntKind.u16.wrap ((IntKind.u16.wrap (a0)) - (IntKind.u16.wrap (a1)))) - t110)) % 256, t117))))) = some (r1, r2) := H
  have A5 := Aside0.mk A50
  clear A50
  replace H := Option.bind_eq_some_iff.mp H
  obtain ⟨t112, A60, H⟩ := H
  replace H : ((sum_when.f (decide ((IntKind.u16.wrap ((IntKind.u16.wrap ((IntKind.u16.wrap (a0)) - (IntKind.u16.wrap (a1)))) - t110)) > 255)) 1).bind fun t113 => ((sum_all.f k (([t111, Go.bits .and .u8 (Go.bits .xor .u8 (Go.bits .xor .u8 a0 a1) ((IntKind.u16.wrap ((IntKind.u16.wrap ((IntKind.u16.wrap (a0)) - (IntKind.u16.wrap (a1)))) - t110)) % 256)) 16, t112, 2, t113] : List Int))).bind fun t117 => (some ((IntKind.u16.wrap ((IntKind.u16.wrap ((IntKind.u16.wrap (a0)) - (IntKind.u16.wrap (a1)))) - t110)) % 256, t117)))) = some (r1, r2) := H
  have A6 := Aside0.mk A60
  clear A60
  replace H := Option.bind_eq_some_iff.mp H
  obtain ⟨t113, A70, H⟩ := H
  replace H : ((sum_all.f k (([t111, Go.bits .and .u8 (Go.bits .xor .u8 (Go.bits .xor .u8 a0 a1) ((IntKind.u16.wrap ((IntKind.u16.wrap ((IntKind.u16.wrap (a0)) - (IntKind.u16.wrap (a1)))) - t110)) % 256)) 16, t112, 2, t113] : List Int))).bind fun t117 => (some ((IntKind.u16.wrap ((IntKind.u16.wrap ((IntKind.u16.wrap (a0)) - (IntKind.u16.wrap (a1)))) - t110)) % 256, t117))) = some (r1, r2) := H
  have A7 := Aside0.mk A70
  clear A70
  obtain ⟨y114, hy114⟩ : ∃ y_ : List Int, y_ = (([t111, Go.bits .and .u8 (Go.bits .xor .u8 (Go.bits .xor .u8 a0 a1) ((IntKind.u16.wrap ((IntKind.u16.wrap ((IntKind.u16.wrap (a0)) - (IntKind.u16.wrap (a1)))) - t110)) % 256)) 16, t112, 2, t113] : List Int)) := ⟨_, rfl⟩
  replace H : ((sum_all.f k y114).bind fun t117 => (some ((IntKind.u16.wrap ((IntKind.u16.wrap ((IntKind.u16.wrap (a0)) - (IntKind.u16.wrap (a1)))) - t110)) % 256, t117))) = some (r1, r2) := by first | (rw [hy114]; with_reducible exact H) | (have H2_ := (Option.bind_some _ _).symm.trans H; rw [hy114]; with_reducible exact H2_) | (have H2_ := (Option.bind_some _ _).symm.trans H; with_reducible exact H2_) | with_reducible exact H | (rw [hy114]; exact H) | exact H
  have Ny114 := Aside0.mk hy114
  clear hy114
  replace H := Option.bind_eq_some_iff.mp H
  obtain ⟨t117, A80, H⟩ := H
  replace H : (some ((IntKind.u16.wrap ((IntKind.u16.wrap ((IntKind.u16.wrap (a0)) - (IntKind.u16.wrap (a1)))) - t110)) % 256, t117)) = some (r1, r2) := H
  have A8 := Aside0.mk A80
  clear A80
  simp only [Option.some.injEq, Prod.mk.injEq] at H
  obtain ⟨rfl, rfl⟩ := H
  go_enter Try.func36, Try.ntmps36
  go_wp2_with (first | ((with_reducible refine gate_callee (f := 50) rfl ?_); refine goesL_ (some 17) rfl rfl Try.func50 (by kernel_rfl) rfl #[.bool a2] rfl (by (try simp only [List.map_toArray, List.map_cons, List.map_nil]); first | done | rfl | (simp only [List.length_drop, List.length_take]; rfl)) ?_; (with_reducible refine (sum_one_uint16.calls a2 t110 _ A4.out).mono ?_); rintro e w' ⟨rfl, ⟨nd, rfl⟩⟩; refine ⟨_, rfl, ?_⟩) | ((with_reducible refine gate_callee (f := 52) rfl ?_); refine goesL_ (some 28) rfl rfl Try.func52 (by kernel_rfl) rfl #[.int .u8 ((IntKind.u16.wrap ((IntKind.u16.wrap ((IntKind.u16.wrap (a0)) - (IntKind.u16.wrap (a1)))) - t110)) % 256)] rfl (by (try simp only [List.map_toArray, List.map_cons, List.map_nil]); first | done | rfl | (simp only [List.length_drop, List.length_take]; rfl)) ?_; (with_reducible refine (flags_Result.calls ((IntKind.u16.wrap ((IntKind.u16.wrap ((IntKind.u16.wrap (a0)) - (IntKind.u16.wrap (a1)))) - t110)) % 256) t111 _ A5.out).mono ?_); rintro e w' ⟨rfl, ⟨nd, rfl⟩⟩; refine ⟨_, rfl, ?_⟩) | ((with_reducible refine gate_callee (f := 53) rfl ?_); refine goesL_ (some 40) rfl rfl Try.func53 (by kernel_rfl) rfl #[.bool ((Go.bits .and .u8 (Go.bits .and .u8 (Go.bits .xor .u8 a0 a1) (Go.bits .xor .u8 a0 ((IntKind.u16.wrap ((IntKind.u16.wrap ((IntKind.u16.wrap (a0)) - (IntKind.u16.wrap (a1)))) - t110)) % 256))) 128) != 0), .int .u8 4] rfl (by (try simp only [List.map_toArray, List.map_cons, List.map_nil]); first | done | rfl | (simp only [List.length_drop, List.length_take]; rfl)) ?_; (with_reducible refine (sum_when.calls ((Go.bits .and .u8 (Go.bits .and .u8 (Go.bits .xor .u8 a0 a1) (Go.bits .xor .u8 a0 ((IntKind.u16.wrap ((IntKind.u16.wrap ((IntKind.u16.wrap (a0)) - (IntKind.u16.wrap (a1)))) - t110)) % 256))) 128) != 0) 4 t112 _ A6.out).mono ?_); rintro e w' ⟨rfl, ⟨nd, rfl⟩⟩; refine ⟨_, rfl, ?_⟩) | ((with_reducible refine gate_callee (f := 53) rfl ?_); refine goesL_ (some 43) rfl rfl Try.func53 (by kernel_rfl) rfl #[.bool (decide ((IntKind.u16.wrap ((IntKind.u16.wrap ((IntKind.u16.wrap (a0)) - (IntKind.u16.wrap (a1)))) - t110)) > 255)), .int .u8 1] rfl (by (try simp only [List.map_toArray, List.map_cons, List.map_nil]); first | done | rfl | (simp only [List.length_drop, List.length_take]; rfl)) ?_; (with_reducible refine (sum_when.calls (decide ((IntKind.u16.wrap ((IntKind.u16.wrap ((IntKind.u16.wrap (a0)) - (IntKind.u16.wrap (a1)))) - t110)) > 255)) 1 t113 _ A7.out).mono ?_); rintro e w' ⟨rfl, ⟨nd, rfl⟩⟩; refine ⟨_, rfl, ?_⟩) | ((with_reducible refine gate_dst (N := 44) rfl ?_); refine Kd.R_lit (Kd.int .u8) _ 5 ?hg (N := 44) ?hd (xs := ([t111, Go.bits .and .u8 (Go.bits .xor .u8 (Go.bits .xor .u8 a0 a1) ((IntKind.u16.wrap ((IntKind.u16.wrap ((IntKind.u16.wrap (a0)) - (IntKind.u16.wrap (a1)))) - t110)) % 256)) 16, t112, 2, t113] : List Int)) (inner := [.int .u8 t111, .int .u8 (Go.bits .and .u8 (Go.bits .xor .u8 (Go.bits .xor .u8 a0 a1) ((IntKind.u16.wrap ((IntKind.u16.wrap ((IntKind.u16.wrap (a0)) - (IntKind.u16.wrap (a1)))) - t110)) % 256)) 16), .int .u8 t112, .int .u8 2, .int .u8 t113]) (ok := fun _ => True) (okp := fun _ => True) ?hr ?hp (fun _ hk => hk) trivial (Below.refl _ _) (Nat.le_refl _) (by simp) ?_; (case hd => rfl); (case hg => rfl); (case hr => first | (go_simp; done) | (go_simp; rfl)); (case hp => exact (Reps.one (show Kd.M (Kd.int .u8) _ _ _ t111 [.int .u8 t111] from rfl) (Reps.one (show Kd.M (Kd.int .u8) _ _ _ (Go.bits .and .u8 (Go.bits .xor .u8 (Go.bits .xor .u8 a0 a1) ((IntKind.u16.wrap ((IntKind.u16.wrap ((IntKind.u16.wrap (a0)) - (IntKind.u16.wrap (a1)))) - t110)) % 256)) 16) [.int .u8 (Go.bits .and .u8 (Go.bits .xor .u8 (Go.bits .xor .u8 a0 a1) ((IntKind.u16.wrap ((IntKind.u16.wrap ((IntKind.u16.wrap (a0)) - (IntKind.u16.wrap (a1)))) - t110)) % 256)) 16)] from rfl) (Reps.one (show Kd.M (Kd.int .u8) _ _ _ t112 [.int .u8 t112] from rfl) (Reps.one (show Kd.M (Kd.int .u8) _ _ _ 2 [.int .u8 2] from rfl) (Reps.one (show Kd.M (Kd.int .u8) _ _ _ t113 [.int .u8 t113] from rfl) (Reps.none _ _))))))); intro v115 w9 ho10 hb hg_ hnew_; clear hg_ hnew_; (first | rw [← Ny114.out] at ho10 | (simp only [Int.reduceToNat] at ho10; rw [← Ny114.out] at ho10)); have n0_ := Aside0.mk (Kd.R_lower ho10 (below_size (by repeat (first | (with_reducible first | exact HB.out | apply below_alloc | apply pw_below_drewN | apply below_drew1) | exact HB.out)))); have n1_ := Aside0.mk (below_step (by repeat (first | (with_reducible first | exact HB.out | apply below_alloc | apply pw_below_drewN | apply below_drew1) | exact HB.out)) hb); clear HB; have HO116 := n0_; have HB := n1_; clear n0_ n1_; clear hb ho10; obtain ⟨Ao11, co11, eo11⟩ := Kd.R_slice HO116.out; subst eo11) | ((with_reducible refine gate_callee (f := 51) rfl ?_); refine goesL_ (some 45) rfl rfl Try.func51 (by kernel_rfl) rfl #[.slice Ao11 y114.length co11] rfl (by (try simp only [List.map_toArray, List.map_cons, List.map_nil]); first | done | rfl | (simp only [List.length_drop, List.length_take]; rfl)) ?_; (with_reducible refine (sum_all.calls k _ _ y114 t117 _ ?side1 ?side2 A8.out).mono ?_); (case side1 => repeat (first | exact (Kd.R_reads' HO116.out).2.2 | (with_reducible refine Kd.C_alloc ?_ _) | (with_reducible refine Kd.C_drewN ?_ _) | (with_reducible refine Kd.C_drew ?_))); (case side2 => exact (Kd.R_reads' HO116.out).2.1); rintro e w' ⟨rfl, ⟨nd, rfl⟩⟩; refine ⟨_, rfl, ?_⟩))
  go_ret2
  exact ⟨by first | rfl | (simp [errW_none, errW_some] <;> rfl) | (simp [*, errW_none, errW_some] <;> rfl), by repeat (first | (with_reducible first | exact HB.out | apply below_alloc | apply pw_below_drewN | apply below_drew1) | exact HB.out)⟩

/-! ### block_Find: function 14 -/
def block_Find.f (k : Nat) (a0 : Int) (a1 : Int) (a2 : Int) (a3 : Int) : Option (Int) := (sum_Sub.f k a0 a1 false).bind fun bt118 => ((block_lines.f ((bt118.1 - ((Go.bits .and .u8 bt118.2 16) / 16)) % 256)).bind fun t120 => ((block_all.f k (Go.bits .or .u8 (Go.bits .or .u8 (Go.bits .and .u8 bt118.2 210) (Go.bits .and .u8 a3 1)) t120) (([(⟨(a2 != 0), 4⟩ : S42)] : List (S42)))).bind fun t124 => (some t124)))
theorem block_Find.mono : ∀ a0 a1 a2 a3 k, LeO (block_Find.f k a0 a1 a2 a3) (block_Find.f (k + 1) a0 a1 a2 a3) := by
  intro a0 a1 a2 a3 k
  unfold block_Find.f
  repeat' first
      | (with_reducible exact block_all.mono _ _ _)
      | (with_reducible exact sum_Sub.mono _ _ _ _)
      | (with_reducible exact LeO.refl _)
      | (with_reducible exact LeO.none _)
      | (with_reducible refine LeO.ite ?_ ?_)
      | (with_reducible refine LeO.bind ?_ (fun _ => ?_))
      | exact block_all.mono _ _ _
      | exact sum_Sub.mono _ _ _ _
      | exact LeO.none _
      | refine LeO.ite ?_ ?_
      | refine LeO.bind ?_ (fun _ => ?_)
set_option maxHeartbeats 8000000 in
set_option maxRecDepth 100000 in
theorem block_Find.calls (k : Nat) (a0 : Int) (a1 : Int) (a2 : Int) (a3 : Int) (r : Int) (w : World) (h : block_Find.f k a0 a1 a2 a3 = some r) :
    Calls Try.prog 14 #[.int .u8 a0, .int .u8 a1, .int .u16 a2, .int .u8 a3] w fun e w' => e = .returned (.int .u8 r) ∧ Below w.heap.size w w' := by
  have hu42 := Try.underlying42
  have HB := Aside0.mk (Below.refl w.heap.size w)
  have H : ((sum_Sub.f k a0 a1 false).bind fun bt118 => ((block_lines.f ((bt118.1 - ((Go.bits .and .u8 bt118.2 16) / 16)) % 256)).bind fun t120 => ((block_all.f k (Go.bits .or .u8 (Go.bits .or .u8 (Go.bits .and .u8 bt118.2 210) (Go.bits .and .u8 a3 1)) t120) (([(⟨(a2 != 0), 4⟩ : S42)] : List (S42)))).bind fun t124 => (some t124)))) = some r := h
  clear h
  replace H := Option.bind_eq_some_iff.mp H
  obtain ⟨⟨t118, t119⟩, A50, H⟩ := H
  replace H : ((block_lines.f ((t118 - ((Go.bits .and .u8 t119 16) / 16)) % 256)).bind fun t120 => ((block_all.f k (Go.bits .or .u8 (Go.bits .or .u8 (Go.bits .and .u8 t119 210) (Go.bits .and .u8 a3 1)) t120) (([(⟨(a2 != 0), 4⟩ : S42)] : List (S42)))).bind fun t124 => (some t124))) = some r := H
  have A5 := Aside0.mk A50
  clear A50
  replace H := Option.bind_eq_some_iff.mp H
  obtain ⟨t120, A60, H⟩ := H
  replace H : ((block_all.f k (Go.bits .or .u8 (Go.bits .or .u8 (Go.bits .and .u8 t119 210) (Go.bits .and .u8 a3 1)) t120) (([(⟨(a2 != 0), 4⟩ : S42)] : List (S42)))).bind fun t124 => (some t124)) = some r := H
  have A6 := Aside0.mk A60
  clear A60
  obtain ⟨y121, hy121⟩ : ∃ y_ : List (S42), y_ = (([(⟨(a2 != 0), 4⟩ : S42)] : List (S42))) := ⟨_, rfl⟩
  replace H : ((block_all.f k (Go.bits .or .u8 (Go.bits .or .u8 (Go.bits .and .u8 t119 210) (Go.bits .and .u8 a3 1)) t120) y121).bind fun t124 => (some t124)) = some r := by first | (rw [hy121]; with_reducible exact H) | (have H2_ := (Option.bind_some _ _).symm.trans H; rw [hy121]; with_reducible exact H2_) | (have H2_ := (Option.bind_some _ _).symm.trans H; with_reducible exact H2_) | with_reducible exact H | (rw [hy121]; exact H) | exact H
  have Ny121 := Aside0.mk hy121
  clear hy121
  replace H := Option.bind_eq_some_iff.mp H
  obtain ⟨t124, A70, H⟩ := H
  replace H : (some t124) = some r := H
  have A7 := Aside0.mk A70
  clear A70
  obtain rfl := Option.some.inj H
  go_enter Try.func14, Try.ntmps14
  go_wp2_with (first | ((with_reducible refine gate_callee (f := 36) rfl ?_); refine goesL_ (some 15) rfl rfl Try.func36 (by kernel_rfl) rfl #[.int .u8 a0, .int .u8 a1, .bool false] rfl (by (try simp only [List.map_toArray, List.map_cons, List.map_nil]); first | done | rfl | (simp only [List.length_drop, List.length_take]; rfl)) ?_; (with_reducible refine (sum_Sub.calls k a0 a1 false t118 t119 _ A5.out).mono ?_); rintro e w8 ⟨rfl, hb⟩; refine ⟨_, rfl, ?_⟩; have n0_ := Aside0.mk (below_step (by repeat (first | (with_reducible first | exact HB.out | apply below_alloc | apply pw_below_drewN | apply below_drew1) | exact HB.out)) hb); clear HB; have HB := n0_; clear n0_; (try clear hb); (try clear hb2); (try clear hk); (try clear hi)) | ((with_reducible refine gate_callee (f := 32) rfl ?_); refine goesL_ (some 29) rfl rfl Try.func32 (by kernel_rfl) rfl #[.int .u8 ((t118 - ((Go.bits .and .u8 t119 16) / 16)) % 256)] rfl (by (try simp only [List.map_toArray, List.map_cons, List.map_nil]); first | done | rfl | (simp only [List.length_drop, List.length_take]; rfl)) ?_; (with_reducible refine (block_lines.calls ((t118 - ((Go.bits .and .u8 t119 16) / 16)) % 256) t120 _ A6.out).mono ?_); rintro e w' ⟨rfl, ⟨nd, rfl⟩⟩; refine ⟨_, rfl, ?_⟩) | ((with_reducible refine gate_dst (N := 35) rfl ?_); refine Kd.R_lit k42 _ 42 ?hg (N := 35) ?hd (xs := ([(⟨(a2 != 0), 4⟩ : S42)] : List (S42))) (inner := [.bool (a2 != 0), .int .u8 4]) (ok := fun _ => True) (okp := fun _ => True) ?hr ?hp (fun _ hk => hk) trivial (Below.refl _ _) (Nat.le_refl _) (by simp) ?_; (case hd => rfl); (case hg => rfl); (case hr => first | (go_simp; done) | (go_simp; rfl)); (case hp => exact (Reps.c2 (show Kd.M k42 _ _ _ (⟨(a2 != 0), 4⟩ : S42) [.bool (a2 != 0), .int .u8 4] from (k42_mkM _ _ _ (⟨(a2 != 0), 4⟩ : S42) )) (Reps.none _ _))); intro v122 w9 ho10 hb hg_ hnew_; clear hg_ hnew_; (first | rw [← Ny121.out] at ho10 | (simp only [Int.reduceToNat] at ho10; rw [← Ny121.out] at ho10)); have n0_ := Aside0.mk (Kd.R_lower ho10 (below_size (by repeat (first | (with_reducible first | exact HB.out | apply below_alloc | apply pw_below_drewN | apply below_drew1) | exact HB.out)))); have n1_ := Aside0.mk (below_step (by repeat (first | (with_reducible first | exact HB.out | apply below_alloc | apply pw_below_drewN | apply below_drew1) | exact HB.out)) hb); clear HB; have HO123 := n0_; have HB := n1_; clear n0_ n1_; clear hb ho10; obtain ⟨Ao11, co11, eo11⟩ := Kd.R_slice HO123.out; subst eo11) | ((with_reducible refine gate_callee (f := 31) rfl ?_); refine goesL_ (some 36) rfl rfl Try.func31 (by kernel_rfl) rfl #[.int .u8 (Go.bits .or .u8 (Go.bits .or .u8 (Go.bits .and .u8 t119 210) (Go.bits .and .u8 a3 1)) t120), .slice Ao11 y121.length co11] rfl (by (try simp only [List.map_toArray, List.map_cons, List.map_nil]); first | done | rfl | (simp only [List.length_drop, List.length_take]; rfl)) ?_; (with_reducible refine (block_all.calls k (Go.bits .or .u8 (Go.bits .or .u8 (Go.bits .and .u8 t119 210) (Go.bits .and .u8 a3 1)) t120) _ _ y121 t124 _ ?side1 ?side2 A7.out).mono ?_); (case side1 => repeat (first | exact (Kd.R_reads' HO123.out).2.2 | (with_reducible refine Kd.C_alloc ?_ _) | (with_reducible refine Kd.C_drewN ?_ _) | (with_reducible refine Kd.C_drew ?_))); (case side2 => exact (Kd.R_reads' HO123.out).2.1); rintro e w12 ⟨rfl, hb⟩; refine ⟨_, rfl, ?_⟩; have n0_ := Aside0.mk (Kd.R_below (by (with_reducible repeat (first | apply Kd.R_alloc | apply Kd.R_drewN | apply Kd.R_drew)); exact HO123.out) hb); have n1_ := Aside0.mk (below_step (by repeat (first | (with_reducible first | exact HB.out | apply below_alloc | apply pw_below_drewN | apply below_drew1) | exact HB.out)) hb); clear HO123; clear HB; have HO123 := n0_; have HB := n1_; clear n0_ n1_; (try clear hb); (try clear hb2); (try clear hk); (try clear hi)))
  first | go_ret | go_returns
  exact ⟨by first | rfl | (simp [errW_none, errW_some] <;> rfl) | (simp [*, errW_none, errW_some] <;> rfl), by repeat (first | (with_reducible first | exact HB.out | apply below_alloc | apply pw_below_drewN | apply below_drew1) | exact HB.out)⟩

-- NOT PRINTED: function 71 (bits_set)

/-! ### bits_Even: function 58 -/
def bits_Even.f (a0 : Int) : Option (Bool) := if (0 ≤ a0 ∧ a0 ≤ 255) then some (M.evenB a0) else none
theorem bits_Even.calls (a0 : Int) (r : Bool) (w : World) (h : bits_Even.f a0 = some r) :
    Calls Try.prog 58 #[.int .u8 a0] w fun e w' => e = .returned (.bool r) ∧ Below w.heap.size w w' := by
  unfold bits_Even.f at h
  split at h
  · rename_i hg
    obtain rfl := Option.some.inj h
    exact even_any a0 (by omega) (by omega) w
  · cases h

/-! ### block_counted: function 38 -/
def block_counted.f (k : Nat) (a0 : Int) (a1 : Int) (a2 : Int) : Option (Int) := (flags_Result.f a1).bind fun t125 => ((bits_Even.f (Go.bits .xor .u8 ((Go.bits .and .i64 a2 7) % 256) a1)).bind fun t126 => ((block_all.f k t125 (([(⟨decide (a2 > 255), 17⟩ : S42), (⟨t126, 4⟩ : S42), (⟨decide (a0 > 127), 2⟩ : S42)] : List (S42)))).bind fun t130 => (some t130)))
theorem block_counted.mono : ∀ a0 a1 a2 k, LeO (block_counted.f k a0 a1 a2) (block_counted.f (k + 1) a0 a1 a2) := by
  intro a0 a1 a2 k
  unfold block_counted.f
  repeat' first
      | (with_reducible exact block_all.mono _ _ _)
      | (with_reducible exact LeO.refl _)
      | (with_reducible exact LeO.none _)
      | (with_reducible refine LeO.ite ?_ ?_)
      | (with_reducible refine LeO.bind ?_ (fun _ => ?_))
      | exact block_all.mono _ _ _
      | exact LeO.none _
      | refine LeO.ite ?_ ?_
      | refine LeO.bind ?_ (fun _ => ?_)
set_option maxHeartbeats 8000000 in
set_option maxRecDepth 100000 in
theorem block_counted.calls (k : Nat) (a0 : Int) (a1 : Int) (a2 : Int) (r : Int) (w : World) (h : block_counted.f k a0 a1 a2 = some r) :
    Calls Try.prog 38 #[.int .u8 a0, .int .u8 a1, .int .i64 a2] w fun e w' => e = .returned (.int .u8 r) ∧ Below w.heap.size w w' := by
  have hu42 := Try.underlying42
  have HB := Aside0.mk (Below.refl w.heap.size w)
  have H : ((flags_Result.f a1).bind fun t125 => ((bits_Even.f (Go.bits .xor .u8 ((Go.bits .and .i64 a2 7) % 256) a1)).bind fun t126 => ((block_all.f k t125 (([(⟨decide (a2 > 255), 17⟩ : S42), (⟨t126, 4⟩ : S42), (⟨decide (a0 > 127), 2⟩ : S42)] : List (S42)))).bind fun t130 => (some t130)))) = some r := h
  clear h
  replace H := Option.bind_eq_some_iff.mp H
  obtain ⟨t125, A40, H⟩ := H
  replace H : ((bits_Even.f (Go.bits .xor .u8 ((Go.bits .and .i64 a2 7) % 256) a1)).bind fun t126 => ((block_all.f k t125 (([(⟨decide (a2 > 255), 17⟩ : S42), (⟨t126, 4⟩ : S42), (⟨decide (a0 > 127), 2⟩ : S42)] : List (S42)))).bind fun t130 => (some t130))) = some r := H
  have A4 := Aside0.mk A40
  clear A40
  replace H := Option.bind_eq_some_iff.mp H
  obtain ⟨t126, A50, H⟩ := H
  replace H : ((block_all.f k t125 (([(⟨decide (a2 > 255), 17⟩ : S42), (⟨t126, 4⟩ : S42), (⟨decide (a0 > 127), 2⟩ : S42)] : List (S42)))).bind fun t130 => (some t130)) = some r := H
  have A5 := Aside0.mk A50
  clear A50
  obtain ⟨y127, hy127⟩ : ∃ y_ : List (S42), y_ = (([(⟨decide (a2 > 255), 17⟩ : S42), (⟨t126, 4⟩ : S42), (⟨decide (a0 > 127), 2⟩ : S42)] : List (S42))) := ⟨_, rfl⟩
  replace H : ((block_all.f k t125 y127).bind fun t130 => (some t130)) = some r := by first | (rw [hy127]; with_reducible exact H) | (have H2_ := (Option.bind_some _ _).symm.trans H; rw [hy127]; with_reducible exact H2_) | (have H2_ := (Option.bind_some _ _).symm.trans H; with_reducible exact H2_) | with_reducible exact H | (rw [hy127]; exact H) | exact H
  have Ny127 := Aside0.mk hy127
  clear hy127
  replace H := Option.bind_eq_some_iff.mp H
  obtain ⟨t130, A60, H⟩ := H
  replace H : (some t130) = some r := H
  have A6 := Aside0.mk A60
  clear A60
  obtain rfl := Option.some.inj H
  go_enter Try.func38, Try.ntmps38
  go_wp2_with (first | ((with_reducible refine gate_callee (f := 52) rfl ?_); refine goesL_ (some 8) rfl rfl Try.func52 (by kernel_rfl) rfl #[.int .u8 a1] rfl (by (try simp only [List.map_toArray, List.map_cons, List.map_nil]); first | done | rfl | (simp only [List.length_drop, List.length_take]; rfl)) ?_; (with_reducible refine (flags_Result.calls a1 t125 _ A4.out).mono ?_); rintro e w' ⟨rfl, ⟨nd, rfl⟩⟩; refine ⟨_, rfl, ?_⟩) | ((with_reducible refine gate_callee (f := 58) rfl ?_); refine goesL_ (some 17) rfl rfl Try.func58 (by kernel_rfl) rfl #[.int .u8 (Go.bits .xor .u8 ((Go.bits .and .i64 a2 7) % 256) a1)] rfl (by (try simp only [List.map_toArray, List.map_cons, List.map_nil]); first | done | rfl | (simp only [List.length_drop, List.length_take]; rfl)) ?_; (with_reducible refine (bits_Even.calls (Go.bits .xor .u8 ((Go.bits .and .i64 a2 7) % 256) a1) t126 _ A5.out).mono ?_); rintro e w7 ⟨rfl, hb⟩; refine ⟨_, rfl, ?_⟩; have n0_ := Aside0.mk (below_step (by repeat (first | (with_reducible first | exact HB.out | apply below_alloc | apply pw_below_drewN | apply below_drew1) | exact HB.out)) hb); clear HB; have HB := n0_; clear n0_; (try clear hb); (try clear hb2); (try clear hk); (try clear hi)) | ((with_reducible refine gate_dst (N := 22) rfl ?_); refine Kd.R_lit k42 _ 42 ?hg (N := 22) ?hd (xs := ([(⟨decide (a2 > 255), 17⟩ : S42), (⟨t126, 4⟩ : S42), (⟨decide (a0 > 127), 2⟩ : S42)] : List (S42))) (inner := [.bool (decide (a2 > 255)), .int .u8 17, .bool t126, .int .u8 4, .bool (decide (a0 > 127)), .int .u8 2]) (ok := fun _ => True) (okp := fun _ => True) ?hr ?hp (fun _ hk => hk) trivial (Below.refl _ _) (Nat.le_refl _) (by simp) ?_; (case hd => rfl); (case hg => rfl); (case hr => first | (go_simp; done) | (go_simp; rfl)); (case hp => exact (Reps.c2 (show Kd.M k42 _ _ _ (⟨decide (a2 > 255), 17⟩ : S42) [.bool (decide (a2 > 255)), .int .u8 17] from (k42_mkM _ _ _ (⟨decide (a2 > 255), 17⟩ : S42) )) (Reps.c2 (show Kd.M k42 _ _ _ (⟨t126, 4⟩ : S42) [.bool t126, .int .u8 4] from (k42_mkM _ _ _ (⟨t126, 4⟩ : S42) )) (Reps.c2 (show Kd.M k42 _ _ _ (⟨decide (a0 > 127), 2⟩ : S42) [.bool (decide (a0 > 127)), .int .u8 2] from (k42_mkM _ _ _ (⟨decide (a0 > 127), 2⟩ : S42) )) (Reps.none _ _))))); intro v128 w8 ho9 hb hg_ hnew_; clear hg_ hnew_; (first | rw [← Ny127.out] at ho9 | (simp only [Int.reduceToNat] at ho9; rw [← Ny127.out] at ho9)); have n0_ := Aside0.mk (Kd.R_lower ho9 (below_size (by repeat (first | (with_reducible first | exact HB.out | apply below_alloc | apply pw_below_drewN | apply below_drew1) | exact HB.out)))); have n1_ := Aside0.mk (below_step (by repeat (first | (with_reducible first | exact HB.out | apply below_alloc | apply pw_below_drewN | apply below_drew1) | exact HB.out)) hb); clear HB; have HO129 := n0_; have HB := n1_; clear n0_ n1_; clear hb ho9; obtain ⟨Ao10, co10, eo10⟩ := Kd.R_slice HO129.out; subst eo10) | ((with_reducible refine gate_callee (f := 31) rfl ?_); refine goesL_ (some 23) rfl rfl Try.func31 (by kernel_rfl) rfl #[.int .u8 t125, .slice Ao10 y127.length co10] rfl (by (try simp only [List.map_toArray, List.map_cons, List.map_nil]); first | done | rfl | (simp only [List.length_drop, List.length_take]; rfl)) ?_; (with_reducible refine (block_all.calls k t125 _ _ y127 t130 _ ?side1 ?side2 A6.out).mono ?_); (case side1 => repeat (first | exact (Kd.R_reads' HO129.out).2.2 | (with_reducible refine Kd.C_alloc ?_ _) | (with_reducible refine Kd.C_drewN ?_ _) | (with_reducible refine Kd.C_drew ?_))); (case side2 => exact (Kd.R_reads' HO129.out).2.1); rintro e w11 ⟨rfl, hb⟩; refine ⟨_, rfl, ?_⟩; have n0_ := Aside0.mk (Kd.R_below (by (with_reducible repeat (first | apply Kd.R_alloc | apply Kd.R_drewN | apply Kd.R_drew)); exact HO129.out) hb); have n1_ := Aside0.mk (below_step (by repeat (first | (with_reducible first | exact HB.out | apply below_alloc | apply pw_below_drewN | apply below_drew1) | exact HB.out)) hb); clear HO129; clear HB; have HO129 := n0_; have HB := n1_; clear n0_ n1_; (try clear hb); (try clear hb2); (try clear hk); (try clear hi)))
  first | go_ret | go_returns
  exact ⟨by first | rfl | (simp [errW_none, errW_some] <;> rfl) | (simp [*, errW_none, errW_some] <;> rfl), by repeat (first | (with_reducible first | exact HB.out | apply below_alloc | apply pw_below_drewN | apply below_drew1) | exact HB.out)⟩

/-! ### block_Take: function 16 -/
def block_Take.f (k : Nat) (a0 : Int) (a1 : Int) (a2 : Int) (a3 : Int) : Option (Int) := (block_counted.f k a0 a2 (wrap64 ((wrap64 (a0)) + ((a1 + a3) % 256)))).bind fun t131 => (some t131)
theorem block_Take.mono : ∀ a0 a1 a2 a3 k, LeO (block_Take.f k a0 a1 a2 a3) (block_Take.f (k + 1) a0 a1 a2 a3) := by
  intro a0 a1 a2 a3 k
  unfold block_Take.f
  repeat' first
      | (with_reducible exact block_counted.mono _ _ _ _)
      | (with_reducible exact LeO.refl _)
      | (with_reducible exact LeO.none _)
      | (with_reducible refine LeO.ite ?_ ?_)
      | (with_reducible refine LeO.bind ?_ (fun _ => ?_))
      | exact block_counted.mono _ _ _ _
      | exact LeO.none _
      | refine LeO.ite ?_ ?_
      | refine LeO.bind ?_ (fun _ => ?_)
set_option maxHeartbeats 8000000 in
set_option maxRecDepth 100000 in
theorem block_Take.calls (k : Nat) (a0 : Int) (a1 : Int) (a2 : Int) (a3 : Int) (r : Int) (w : World) (h : block_Take.f k a0 a1 a2 a3 = some r) :
    Calls Try.prog 16 #[.int .u8 a0, .int .u8 a1, .int .u8 a2, .int .i64 a3] w fun e w' => e = .returned (.int .u8 r) ∧ Below w.heap.size w w' := by
  have HB := Aside0.mk (Below.refl w.heap.size w)
  have H : ((block_counted.f k a0 a2 (wrap64 ((wrap64 (a0)) + ((a1 + a3) % 256)))).bind fun t131 => (some t131)) = some r := h
  clear h
  replace H := Option.bind_eq_some_iff.mp H
  obtain ⟨t131, A50, H⟩ := H
  replace H : (some t131) = some r := H
  have A5 := Aside0.mk A50
  clear A50
  obtain rfl := Option.some.inj H
  go_enter Try.func16, Try.ntmps16
  go_wp2_with (first | ((with_reducible refine gate_callee (f := 38) rfl ?_); refine goesL_ (some 19) rfl rfl Try.func38 (by kernel_rfl) rfl #[.int .u8 a0, .int .u8 a2, .int .i64 (wrap64 ((wrap64 (a0)) + ((a1 + a3) % 256)))] rfl (by (try simp only [List.map_toArray, List.map_cons, List.map_nil]); first | done | rfl | (simp only [List.length_drop, List.length_take]; rfl)) ?_; (with_reducible refine (block_counted.calls k a0 a2 (wrap64 ((wrap64 (a0)) + ((a1 + a3) % 256))) t131 _ A5.out).mono ?_); rintro e w6 ⟨rfl, hb⟩; refine ⟨_, rfl, ?_⟩; have n0_ := Aside0.mk (below_step (by repeat (first | (with_reducible first | exact HB.out | apply below_alloc | apply pw_below_drewN | apply below_drew1) | exact HB.out)) hb); clear HB; have HB := n0_; clear n0_; (try clear hb); (try clear hb2); (try clear hk); (try clear hi)))
  first | go_ret | go_returns
  exact ⟨by first | rfl | (simp [errW_none, errW_some] <;> rfl) | (simp [*, errW_none, errW_some] <;> rfl), by repeat (first | (with_reducible first | exact HB.out | apply below_alloc | apply pw_below_drewN | apply below_drew1) | exact HB.out)⟩

/-! ### block_Give: function 18 -/
def block_Give.f (k : Nat) (a0 : Int) (a1 : Int) (a2 : Int) : Option (Int) := (block_counted.f k a0 a2 (wrap64 ((wrap64 (a0)) + (wrap64 (a1))))).bind fun t132 => (some t132)
theorem block_Give.mono : ∀ a0 a1 a2 k, LeO (block_Give.f k a0 a1 a2) (block_Give.f (k + 1) a0 a1 a2) := by
  intro a0 a1 a2 k
  unfold block_Give.f
  repeat' first
      | (with_reducible exact block_counted.mono _ _ _ _)
      | (with_reducible exact LeO.refl _)
      | (with_reducible exact LeO.none _)
      | (with_reducible refine LeO.ite ?_ ?_)
      | (with_reducible refine LeO.bind ?_ (fun _ => ?_))
      | exact block_counted.mono _ _ _ _
      | exact LeO.none _
      | refine LeO.ite ?_ ?_
      | refine LeO.bind ?_ (fun _ => ?_)
set_option maxHeartbeats 8000000 in
set_option maxRecDepth 100000 in
theorem block_Give.calls (k : Nat) (a0 : Int) (a1 : Int) (a2 : Int) (r : Int) (w : World) (h : block_Give.f k a0 a1 a2 = some r) :
    Calls Try.prog 18 #[.int .u8 a0, .int .u8 a1, .int .u8 a2] w fun e w' => e = .returned (.int .u8 r) ∧ Below w.heap.size w w' := by
  have HB := Aside0.mk (Below.refl w.heap.size w)
  have H : ((block_counted.f k a0 a2 (wrap64 ((wrap64 (a0)) + (wrap64 (a1))))).bind fun t132 => (some t132)) = some r := h
  clear h
  replace H := Option.bind_eq_some_iff.mp H
  obtain ⟨t132, A40, H⟩ := H
  replace H : (some t132) = some r := H
  have A4 := Aside0.mk A40
  clear A40
  obtain rfl := Option.some.inj H
  go_enter Try.func18, Try.ntmps18
  go_wp2_with (first | ((with_reducible refine gate_callee (f := 38) rfl ?_); refine goesL_ (some 14) rfl rfl Try.func38 (by kernel_rfl) rfl #[.int .u8 a0, .int .u8 a2, .int .i64 (wrap64 ((wrap64 (a0)) + (wrap64 (a1))))] rfl (by (try simp only [List.map_toArray, List.map_cons, List.map_nil]); first | done | rfl | (simp only [List.length_drop, List.length_take]; rfl)) ?_; (with_reducible refine (block_counted.calls k a0 a2 (wrap64 ((wrap64 (a0)) + (wrap64 (a1)))) t132 _ A4.out).mono ?_); rintro e w5 ⟨rfl, hb⟩; refine ⟨_, rfl, ?_⟩; have n0_ := Aside0.mk (below_step (by repeat (first | (with_reducible first | exact HB.out | apply below_alloc | apply pw_below_drewN | apply below_drew1) | exact HB.out)) hb); clear HB; have HB := n0_; clear n0_; (try clear hb); (try clear hb2); (try clear hk); (try clear hi)))
  first | go_ret | go_returns
  exact ⟨by first | rfl | (simp [errW_none, errW_some] <;> rfl) | (simp [*, errW_none, errW_some] <;> rfl), by repeat (first | (with_reducible first | exact HB.out | apply below_alloc | apply pw_below_drewN | apply below_drew1) | exact HB.out)⟩

/-! ### block_Again: function 20 -/
def block_Again.f (a0 : Int) (a1 : Int) : Option (Bool) := if (0 ≤ a1 ∧ a1 ≤ 255) then some (M.ragain a0 a1) else none
theorem block_Again.calls (a0 : Int) (a1 : Int) (r : Bool) (w : World) (h : block_Again.f a0 a1 = some r) :
    Calls Try.prog 20 #[.int .i64 a0, .int .u8 a1] w fun e w' => e = .returned (.bool r) ∧ Below w.heap.size w w' := by
  unfold block_Again.f at h
  split at h
  · rename_i hg
    obtain rfl := Option.some.inj h
    exact again_any a0 a1 (by omega) (by omega) w
  · cases h

/-! ### charabanclaw07_awake: function 11 -/
def charabanclaw07_awake.f (k : Nat)  : Option (Bool) := (block_Move.f k 1 1 0 0).bind fun t133 => (if t133 = 32 then ((block_Find.f k 5 5 1 0).bind fun t134 => (if t134 = 70 then ((block_Take.f k 128 255 0 1).bind fun t135 => (if t135 = 70 then ((block_Give.f k 255 1 1).bind fun t136 => (if t136 = 19 then ((block_Again.f 1 4).bind fun t137 => (if t137 = true then ((block_Again.f 2 64).bind fun t138 => (some (!t138))) else (some false))) else (some false))) else (some false))) else (some false))) else (some false))
theorem charabanclaw07_awake.mono : ∀ k, LeO (charabanclaw07_awake.f k ) (charabanclaw07_awake.f (k + 1) ) := by
  intro  k
  unfold charabanclaw07_awake.f
  repeat' first
      | (with_reducible exact block_Find.mono _ _ _ _ _)
      | (with_reducible exact block_Give.mono _ _ _ _)
      | (with_reducible exact block_Move.mono _ _ _ _ _)
      | (with_reducible exact block_Take.mono _ _ _ _ _)
      | (with_reducible exact LeO.refl _)
      | (with_reducible exact LeO.none _)
      | (with_reducible refine LeO.ite ?_ ?_)
      | (with_reducible refine LeO.bind ?_ (fun _ => ?_))
      | exact block_Find.mono _ _ _ _ _
      | exact block_Give.mono _ _ _ _
      | exact block_Move.mono _ _ _ _ _
      | exact block_Take.mono _ _ _ _ _
      | exact LeO.none _
      | refine LeO.ite ?_ ?_
      | refine LeO.bind ?_ (fun _ => ?_)
set_option maxHeartbeats 8000000 in
set_option maxRecDepth 100000 in
theorem charabanclaw07_awake.calls (k : Nat)  (r : Bool) (w : World) (h : charabanclaw07_awake.f k  = some r) :
    Calls Try.prog 11 #[] w fun e w' => e = .returned (.bool r) ∧ Below w.heap.size w w' := by
  have HB := Aside0.mk (Below.refl w.heap.size w)
  have H : ((block_Move.f k 1 1 0 0).bind fun t133 => (if t133 = 32 then ((block_Find.f k 5 5 1 0).bind fun t134 => (if t134 = 70 then ((block_Take.f k 128 255 0 1).bind fun t135 => (if t135 = 70 then ((block_Give.f k 255 1 1).bind fun t136 => (if t136 = 19 then ((block_Again.f 1 4).bind fun t137 => (if t137 = true then ((block_Again.f 2 64).bind fun t138 => (some (!t138))) else (some false))) else (some false))) else (some false))) else (some false))) else (some false))) = some r := h
  clear h
  replace H := Option.bind_eq_some_iff.mp H
  obtain ⟨t133, A10, H⟩ := H
  replace H : (if t133 = 32 then ((block_Find.f k 5 5 1 0).bind fun t134 => (if t134 = 70 then ((block_Take.f k 128 255 0 1).bind fun t135 => (if t135 = 70 then ((block_Give.f k 255 1 1).bind fun t136 => (if t136 = 19 then ((block_Again.f 1 4).bind fun t137 => (if t137 = true then ((block_Again.f 2 64).bind fun t138 => (some (!t138))) else (some false))) else (some false))) else (some false))) else (some false))) else (some false)) = some r := H
  have A1 := Aside0.mk A10
  clear A10
  by_cases c2 : t133 = 32
  · rw [if_pos c2] at H
    have c2b0 : (t133 == 32) = true := beq_iff_eq.mpr c2
    have c2b1 : (t133 != 32) = false := bne_eq_false_iff_eq.mpr c2
    clear c2
    replace H := Option.bind_eq_some_iff.mp H
    obtain ⟨t134, A30, H⟩ := H
    replace H : (if t134 = 70 then ((block_Take.f k 128 255 0 1).bind fun t135 => (if t135 = 70 then ((block_Give.f k 255 1 1).bind fun t136 => (if t136 = 19 then ((block_Again.f 1 4).bind fun t137 => (if t137 = true then ((block_Again.f 2 64).bind fun t138 => (some (!t138))) else (some false))) else (some false))) else (some false))) else (some false)) = some r := H
    have A3 := Aside0.mk A30
    clear A30
    by_cases c4 : t134 = 70
    · rw [if_pos c4] at H
      have c4b0 : (t134 == 70) = true := beq_iff_eq.mpr c4
      have c4b1 : (t134 != 70) = false := bne_eq_false_iff_eq.mpr c4
      clear c4
      replace H := Option.bind_eq_some_iff.mp H
      obtain ⟨t135, A50, H⟩ := H
      replace H : (if t135 = 70 then ((block_Give.f k 255 1 1).bind fun t136 => (if t136 = 19 then ((block_Again.f 1 4).bind fun t137 => (if t137 = true then ((block_Again.f 2 64).bind fun t138 => (some (!t138))) else (some false))) else (some false))) else (some false)) = some r := H
      have A5 := Aside0.mk A50
      clear A50
      by_cases c6 : t135 = 70
      · rw [if_pos c6] at H
        have c6b0 : (t135 == 70) = true := beq_iff_eq.mpr c6
        have c6b1 : (t135 != 70) = false := bne_eq_false_iff_eq.mpr c6
        clear c6
        replace H := Option.bind_eq_some_iff.mp H
        obtain ⟨t136, A70, H⟩ := H
        replace H : (if t136 = 19 then ((block_Again.f 1 4).bind fun t137 => (if t137 = true then ((block_Again.f 2 64).bind fun t138 => (some (!t138))) else (some false))) else (some false)) = some r := H
        have A7 := Aside0.mk A70
        clear A70
        by_cases c8 : t136 = 19
        · rw [if_pos c8] at H
          have c8b0 : (t136 == 19) = true := beq_iff_eq.mpr c8
          have c8b1 : (t136 != 19) = false := bne_eq_false_iff_eq.mpr c8
          clear c8
          replace H := Option.bind_eq_some_iff.mp H
          obtain ⟨t137, A90, H⟩ := H
          replace H : (if t137 = true then ((block_Again.f 2 64).bind fun t138 => (some (!t138))) else (some false)) = some r := H
          have A9 := Aside0.mk A90
          clear A90
          by_cases c10 : t137 = true
          · subst c10
            have H1 : ((block_Again.f 2 64).bind fun t138 => (some (!t138))) = some r := by rw [if_pos rfl] at H; exact H
            clear H
            have H := H1
            clear H1
            replace H := Option.bind_eq_some_iff.mp H
            obtain ⟨t138, A110, H⟩ := H
            replace H : (some (!t138)) = some r := H
            have A11 := Aside0.mk A110
            clear A110
            obtain rfl := Option.some.inj H
            go_enter Try.func11, Try.ntmps11
            go_wp2_with (first | ((with_reducible refine gate_callee (f := 12) rfl ?_); refine goesL_ (some 1) rfl rfl Try.func12 (by kernel_rfl) rfl #[.int .u8 1, .int .u8 1, .int .u16 0, .int .u8 0] rfl (by (try simp only [List.map_toArray, List.map_cons, List.map_nil]); first | done | rfl | (simp only [List.length_drop, List.length_take]; rfl)) ?_; (with_reducible refine (block_Move.calls k 1 1 0 0 t133 _ A1.out).mono ?_); rintro e w12 ⟨rfl, hb⟩; refine ⟨_, rfl, ?_⟩; have n0_ := Aside0.mk (below_step (by repeat (first | (with_reducible first | exact HB.out | apply below_alloc | apply pw_below_drewN | apply below_drew1) | exact HB.out)) hb); clear HB; have HB := n0_; clear n0_; (try clear hb); (try clear hb2); (try clear hk); (try clear hi)) | (go_at_call 14; (with_reducible refine (block_Find.calls k 5 5 1 0 t134 _ A3.out).mono ?_); rintro e w13 ⟨rfl, hb⟩; have n0_ := Aside0.mk (below_step (by repeat (first | (with_reducible first | exact HB.out | apply below_alloc | apply pw_below_drewN | apply below_drew1) | exact HB.out)) hb); clear HB; have HB := n0_; clear n0_; (try clear hb); (try clear hb2); (try clear hk); (try clear hi)) | (go_at_call 16; (with_reducible refine (block_Take.calls k 128 255 0 1 t135 _ A5.out).mono ?_); rintro e w14 ⟨rfl, hb⟩; have n0_ := Aside0.mk (below_step (by repeat (first | (with_reducible first | exact HB.out | apply below_alloc | apply pw_below_drewN | apply below_drew1) | exact HB.out)) hb); clear HB; have HB := n0_; clear n0_; (try clear hb); (try clear hb2); (try clear hk); (try clear hi)) | (go_at_call 18; (with_reducible refine (block_Give.calls k 255 1 1 t136 _ A7.out).mono ?_); rintro e w15 ⟨rfl, hb⟩; have n0_ := Aside0.mk (below_step (by repeat (first | (with_reducible first | exact HB.out | apply below_alloc | apply pw_below_drewN | apply below_drew1) | exact HB.out)) hb); clear HB; have HB := n0_; clear n0_; (try clear hb); (try clear hb2); (try clear hk); (try clear hi)) | (go_at_call 20; (with_reducible refine (block_Again.calls 1 4 true _ A9.out).mono ?_); rintro e w16 ⟨rfl, hb⟩; have n0_ := Aside0.mk (below_step (by repeat (first | (with_reducible first | exact HB.out | apply below_alloc | apply pw_below_drewN | apply below_drew1) | exact HB.out)) hb); clear HB; have HB := n0_; clear n0_; (try clear hb); (try clear hb2); (try clear hk); (try clear hi)) | (go_at_call 20; (with_reducible refine (block_Again.calls 2 64 t138 _ A11.out).mono ?_); rintro e w17 ⟨rfl, hb⟩; have n0_ := Aside0.mk (below_step (by repeat (first | (with_reducible first | exact HB.out | apply below_alloc | apply pw_below_drewN | apply below_drew1) | exact HB.out)) hb); clear HB; have HB := n0_; clear n0_; (try clear hb); (try clear hb2); (try clear hk); (try clear hi)))
            first | go_ret | go_returns
            exact ⟨by first | rfl | (simp [errW_none, errW_some] <;> rfl) | (simp [*, errW_none, errW_some] <;> rfl), by repeat (first | (with_reducible first | exact HB.out | apply below_alloc | apply pw_below_drewN | apply below_drew1) | exact HB.out)⟩
          · replace c10 := Bool.eq_false_iff.mpr c10
            subst c10
            have H1 : (some false) = some r := by rw [if_neg (show ¬ (false = true) by decide)] at H; exact H
            clear H
            have H := H1
            clear H1
            obtain rfl := Option.some.inj H
            go_enter Try.func11, Try.ntmps11
            go_wp2_with (first | ((with_reducible refine gate_callee (f := 12) rfl ?_); refine goesL_ (some 1) rfl rfl Try.func12 (by kernel_rfl) rfl #[.int .u8 1, .int .u8 1, .int .u16 0, .int .u8 0] rfl (by (try simp only [List.map_toArray, List.map_cons, List.map_nil]); first | done | rfl | (simp only [List.length_drop, List.length_take]; rfl)) ?_; (with_reducible refine (block_Move.calls k 1 1 0 0 t133 _ A1.out).mono ?_); rintro e w18 ⟨rfl, hb⟩; refine ⟨_, rfl, ?_⟩; have n0_ := Aside0.mk (below_step (by repeat (first | (with_reducible first | exact HB.out | apply below_alloc | apply pw_below_drewN | apply below_drew1) | exact HB.out)) hb); clear HB; have HB := n0_; clear n0_; (try clear hb); (try clear hb2); (try clear hk); (try clear hi)) | (go_at_call 14; (with_reducible refine (block_Find.calls k 5 5 1 0 t134 _ A3.out).mono ?_); rintro e w19 ⟨rfl, hb⟩; have n0_ := Aside0.mk (below_step (by repeat (first | (with_reducible first | exact HB.out | apply below_alloc | apply pw_below_drewN | apply below_drew1) | exact HB.out)) hb); clear HB; have HB := n0_; clear n0_; (try clear hb); (try clear hb2); (try clear hk); (try clear hi)) | (go_at_call 16; (with_reducible refine (block_Take.calls k 128 255 0 1 t135 _ A5.out).mono ?_); rintro e w20 ⟨rfl, hb⟩; have n0_ := Aside0.mk (below_step (by repeat (first | (with_reducible first | exact HB.out | apply below_alloc | apply pw_below_drewN | apply below_drew1) | exact HB.out)) hb); clear HB; have HB := n0_; clear n0_; (try clear hb); (try clear hb2); (try clear hk); (try clear hi)) | (go_at_call 18; (with_reducible refine (block_Give.calls k 255 1 1 t136 _ A7.out).mono ?_); rintro e w21 ⟨rfl, hb⟩; have n0_ := Aside0.mk (below_step (by repeat (first | (with_reducible first | exact HB.out | apply below_alloc | apply pw_below_drewN | apply below_drew1) | exact HB.out)) hb); clear HB; have HB := n0_; clear n0_; (try clear hb); (try clear hb2); (try clear hk); (try clear hi)) | (go_at_call 20; (with_reducible refine (block_Again.calls 1 4 false _ A9.out).mono ?_); rintro e w22 ⟨rfl, hb⟩; have n0_ := Aside0.mk (below_step (by repeat (first | (with_reducible first | exact HB.out | apply below_alloc | apply pw_below_drewN | apply below_drew1) | exact HB.out)) hb); clear HB; have HB := n0_; clear n0_; (try clear hb); (try clear hb2); (try clear hk); (try clear hi)))
            first | go_ret | go_returns
            exact ⟨by first | rfl | (simp [errW_none, errW_some] <;> rfl) | (simp [*, errW_none, errW_some] <;> rfl), by repeat (first | (with_reducible first | exact HB.out | apply below_alloc | apply pw_below_drewN | apply below_drew1) | exact HB.out)⟩
        · rw [if_neg c8] at H
          have c8b0 : (t136 == 19) = false := beq_eq_false_iff_ne.mpr c8
          have c8b1 : (t136 != 19) = true := bne_iff_ne.mpr c8
          obtain rfl := Option.some.inj H
          go_enter Try.func11, Try.ntmps11
          go_wp2_with (first | ((with_reducible refine gate_callee (f := 12) rfl ?_); refine goesL_ (some 1) rfl rfl Try.func12 (by kernel_rfl) rfl #[.int .u8 1, .int .u8 1, .int .u16 0, .int .u8 0] rfl (by (try simp only [List.map_toArray, List.map_cons, List.map_nil]); first | done | rfl | (simp only [List.length_drop, List.length_take]; rfl)) ?_; (with_reducible refine (block_Move.calls k 1 1 0 0 t133 _ A1.out).mono ?_); rintro e w23 ⟨rfl, hb⟩; refine ⟨_, rfl, ?_⟩; have n0_ := Aside0.mk (below_step (by repeat (first | (with_reducible first | exact HB.out | apply below_alloc | apply pw_below_drewN | apply below_drew1) | exact HB.out)) hb); clear HB; have HB := n0_; clear n0_; (try clear hb); (try clear hb2); (try clear hk); (try clear hi)) | (go_at_call 14; (with_reducible refine (block_Find.calls k 5 5 1 0 t134 _ A3.out).mono ?_); rintro e w24 ⟨rfl, hb⟩; have n0_ := Aside0.mk (below_step (by repeat (first | (with_reducible first | exact HB.out | apply below_alloc | apply pw_below_drewN | apply below_drew1) | exact HB.out)) hb); clear HB; have HB := n0_; clear n0_; (try clear hb); (try clear hb2); (try clear hk); (try clear hi)) | (go_at_call 16; (with_reducible refine (block_Take.calls k 128 255 0 1 t135 _ A5.out).mono ?_); rintro e w25 ⟨rfl, hb⟩; have n0_ := Aside0.mk (below_step (by repeat (first | (with_reducible first | exact HB.out | apply below_alloc | apply pw_below_drewN | apply below_drew1) | exact HB.out)) hb); clear HB; have HB := n0_; clear n0_; (try clear hb); (try clear hb2); (try clear hk); (try clear hi)) | (go_at_call 18; (with_reducible refine (block_Give.calls k 255 1 1 t136 _ A7.out).mono ?_); rintro e w26 ⟨rfl, hb⟩; have n0_ := Aside0.mk (below_step (by repeat (first | (with_reducible first | exact HB.out | apply below_alloc | apply pw_below_drewN | apply below_drew1) | exact HB.out)) hb); clear HB; have HB := n0_; clear n0_; (try clear hb); (try clear hb2); (try clear hk); (try clear hi)))
          first | go_ret | go_returns
          exact ⟨by first | rfl | (simp [errW_none, errW_some] <;> rfl) | (simp [*, errW_none, errW_some] <;> rfl), by repeat (first | (with_reducible first | exact HB.out | apply below_alloc | apply pw_below_drewN | apply below_drew1) | exact HB.out)⟩
      · rw [if_neg c6] at H
        have c6b0 : (t135 == 70) = false := beq_eq_false_iff_ne.mpr c6
        have c6b1 : (t135 != 70) = true := bne_iff_ne.mpr c6
        obtain rfl := Option.some.inj H
        go_enter Try.func11, Try.ntmps11
        go_wp2_with (first | ((with_reducible refine gate_callee (f := 12) rfl ?_); refine goesL_ (some 1) rfl rfl Try.func12 (by kernel_rfl) rfl #[.int .u8 1, .int .u8 1, .int .u16 0, .int .u8 0] rfl (by (try simp only [List.map_toArray, List.map_cons, List.map_nil]); first | done | rfl | (simp only [List.length_drop, List.length_take]; rfl)) ?_; (with_reducible refine (block_Move.calls k 1 1 0 0 t133 _ A1.out).mono ?_); rintro e w27 ⟨rfl, hb⟩; refine ⟨_, rfl, ?_⟩; have n0_ := Aside0.mk (below_step (by repeat (first | (with_reducible first | exact HB.out | apply below_alloc | apply pw_below_drewN | apply below_drew1) | exact HB.out)) hb); clear HB; have HB := n0_; clear n0_; (try clear hb); (try clear hb2); (try clear hk); (try clear hi)) | (go_at_call 14; (with_reducible refine (block_Find.calls k 5 5 1 0 t134 _ A3.out).mono ?_); rintro e w28 ⟨rfl, hb⟩; have n0_ := Aside0.mk (below_step (by repeat (first | (with_reducible first | exact HB.out | apply below_alloc | apply pw_below_drewN | apply below_drew1) | exact HB.out)) hb); clear HB; have HB := n0_; clear n0_; (try clear hb); (try clear hb2); (try clear hk); (try clear hi)) | (go_at_call 16; (with_reducible refine (block_Take.calls k 128 255 0 1 t135 _ A5.out).mono ?_); rintro e w29 ⟨rfl, hb⟩; have n0_ := Aside0.mk (below_step (by repeat (first | (with_reducible first | exact HB.out | apply below_alloc | apply pw_below_drewN | apply below_drew1) | exact HB.out)) hb); clear HB; have HB := n0_; clear n0_; (try clear hb); (try clear hb2); (try clear hk); (try clear hi)))
        first | go_ret | go_returns
        exact ⟨by first | rfl | (simp [errW_none, errW_some] <;> rfl) | (simp [*, errW_none, errW_some] <;> rfl), by repeat (first | (with_reducible first | exact HB.out | apply below_alloc | apply pw_below_drewN | apply below_drew1) | exact HB.out)⟩
    · rw [if_neg c4] at H
      have c4b0 : (t134 == 70) = false := beq_eq_false_iff_ne.mpr c4
      have c4b1 : (t134 != 70) = true := bne_iff_ne.mpr c4
      obtain rfl := Option.some.inj H
      go_enter Try.func11, Try.ntmps11
      go_wp2_with (first | ((with_reducible refine gate_callee (f := 12) rfl ?_); refine goesL_ (some 1) rfl rfl Try.func12 (by kernel_rfl) rfl #[.int .u8 1, .int .u8 1, .int .u16 0, .int .u8 0] rfl (by (try simp only [List.map_toArray, List.map_cons, List.map_nil]); first | done | rfl | (simp only [List.length_drop, List.length_take]; rfl)) ?_; (with_reducible refine (block_Move.calls k 1 1 0 0 t133 _ A1.out).mono ?_); rintro e w30 ⟨rfl, hb⟩; refine ⟨_, rfl, ?_⟩; have n0_ := Aside0.mk (below_step (by repeat (first | (with_reducible first | exact HB.out | apply below_alloc | apply pw_below_drewN | apply below_drew1) | exact HB.out)) hb); clear HB; have HB := n0_; clear n0_; (try clear hb); (try clear hb2); (try clear hk); (try clear hi)) | (go_at_call 14; (with_reducible refine (block_Find.calls k 5 5 1 0 t134 _ A3.out).mono ?_); rintro e w31 ⟨rfl, hb⟩; have n0_ := Aside0.mk (below_step (by repeat (first | (with_reducible first | exact HB.out | apply below_alloc | apply pw_below_drewN | apply below_drew1) | exact HB.out)) hb); clear HB; have HB := n0_; clear n0_; (try clear hb); (try clear hb2); (try clear hk); (try clear hi)))
      first | go_ret | go_returns
      exact ⟨by first | rfl | (simp [errW_none, errW_some] <;> rfl) | (simp [*, errW_none, errW_some] <;> rfl), by repeat (first | (with_reducible first | exact HB.out | apply below_alloc | apply pw_below_drewN | apply below_drew1) | exact HB.out)⟩
  · rw [if_neg c2] at H
    have c2b0 : (t133 == 32) = false := beq_eq_false_iff_ne.mpr c2
    have c2b1 : (t133 != 32) = true := bne_iff_ne.mpr c2
    obtain rfl := Option.some.inj H
    go_enter Try.func11, Try.ntmps11
    go_wp2_with (first | ((with_reducible refine gate_callee (f := 12) rfl ?_); refine goesL_ (some 1) rfl rfl Try.func12 (by kernel_rfl) rfl #[.int .u8 1, .int .u8 1, .int .u16 0, .int .u8 0] rfl (by (try simp only [List.map_toArray, List.map_cons, List.map_nil]); first | done | rfl | (simp only [List.length_drop, List.length_take]; rfl)) ?_; (with_reducible refine (block_Move.calls k 1 1 0 0 t133 _ A1.out).mono ?_); rintro e w32 ⟨rfl, hb⟩; refine ⟨_, rfl, ?_⟩; have n0_ := Aside0.mk (below_step (by repeat (first | (with_reducible first | exact HB.out | apply below_alloc | apply pw_below_drewN | apply below_drew1) | exact HB.out)) hb); clear HB; have HB := n0_; clear n0_; (try clear hb); (try clear hb2); (try clear hk); (try clear hi)))
    first | go_ret | go_returns
    exact ⟨by first | rfl | (simp [errW_none, errW_some] <;> rfl) | (simp [*, errW_none, errW_some] <;> rfl), by repeat (first | (with_reducible first | exact HB.out | apply below_alloc | apply pw_below_drewN | apply below_drew1) | exact HB.out)⟩

/-! ### charabancref01_Power: function 49 -/
def charabancref01_Power.l0 : Nat → Int → Int → Int → Option (Int)
  | 0, _, _, _ => none
  | k + 1, x0, x3, x4 => if x4 < x0 then (charabancref01_Power.l0 k x0 (wrap64 (x3 * 2)) (wrap64 (x4 + 1))) else (some x3)
def charabancref01_Power.f (k : Nat) (a0 : Int) : Option (Int) := charabancref01_Power.l0 k a0 1 0
theorem charabancref01_Power.mono_l : ∀ k, (∀ y0 y1 y2, LeO (charabancref01_Power.l0 k y0 y1 y2) (charabancref01_Power.l0 (k + 1) y0 y1 y2))
  | 0 => fun _ _ _ r h => by simp [charabancref01_Power.l0] at h
  | k + 1 => by
    have ih0 := charabancref01_Power.mono_l k
    · intro y0 y1 y2
      unfold charabancref01_Power.l0
      repeat' first
      | (with_reducible exact ih0 _ _ _)
      | (with_reducible exact LeO.refl _)
      | (with_reducible exact LeO.none _)
      | (with_reducible refine LeO.ite ?_ ?_)
      | (with_reducible refine LeO.bind ?_ (fun _ => ?_))
      | exact ih0 _ _ _
      | exact LeO.none _
      | refine LeO.ite ?_ ?_
      | refine LeO.bind ?_ (fun _ => ?_)
theorem charabancref01_Power.mono : ∀ a0 k, LeO (charabancref01_Power.f k a0) (charabancref01_Power.f (k + 1) a0) := by
  intro a0 k
  have ih0 := charabancref01_Power.mono_l k
  unfold charabancref01_Power.f
  repeat' first
      | (with_reducible exact ih0 _ _ _)
      | (with_reducible exact LeO.refl _)
      | (with_reducible exact LeO.none _)
      | (with_reducible refine LeO.ite ?_ ?_)
      | (with_reducible refine LeO.bind ?_ (fun _ => ?_))
      | exact ih0 _ _ _
      | exact LeO.none _
      | refine LeO.ite ?_ ?_
      | refine LeO.bind ?_ (fun _ => ?_)
set_option maxHeartbeats 8000000 in
set_option maxRecDepth 100000 in
theorem charabancref01_Power.calls (k : Nat) (a0 : Int) (r : Int) (w : World) (h : charabancref01_Power.f k a0 = some r) :
    Calls Try.prog 49 #[.int .i64 a0] w fun e w' => e = .returned (.int .i64 r) ∧ Drawn0 w w' := by
  have H : (charabancref01_Power.l0 k a0 1 0) = some r := h
  clear h
  have H' := Aside0.mk H
  clear H
  go_enter Try.func49, Try.ntmps49
  go_wp2
  go_loopg [3, 4] k (fun kq v3 v4 w' => ∃ (x3_1 : Int) (x4_1 : Int), v3 = .int .i64 x3_1 ∧ v4 = .int .i64 x4_1 ∧ Aside0 (charabancref01_Power.l0 kq a0 x3_1 x4_1 = some r) ∧ Aside0 (kq ≤ k) ∧ Drawn0 w w')
  case atStart => exact ⟨(1), (0), (by first | rfl | (simp; done) | (simp [*]; done)), (by first | rfl | (simp; done) | (simp [*]; done)), H', ⟨Nat.le_refl _⟩, by repeat (first | exact Drawn0.refl _ | apply Drawn0.step)⟩
  case round =>
    clear H'
    obtain ⟨x3_1, x4_1, rfl, rfl, HA, HK1, ⟨m1, rfl⟩⟩ := hrel
    cases gk with
    | zero => exact absurd HA.out (by simp [charabancref01_Power.l0])
    | succ k1 =>
      have H := HA.out
      clear HA
      simp only [charabancref01_Power.l0] at H
      by_cases c2 : x4_1 < a0
      · rw [if_pos c2] at H
        have c2b0 : decide (x4_1 < a0) = true := decide_eq_true c2
        clear c2
        have H' := Aside0.mk H
        clear H
        go_wp2
        go_roundg k1
        case measure => have := HK1.out; omega
        case rel => exact ⟨(wrap64 (x3_1 * 2)), (wrap64 (x4_1 + 1)), (by first | rfl | (simp; done) | (simp [*]; done)), (by first | rfl | (simp; done) | (simp [*]; done)), H', ⟨by have := HK1.out; omega⟩, by repeat (first | exact Drawn0.refl _ | apply Drawn0.step)⟩
      · rw [if_neg c2] at H
        have c2b0 : decide (x4_1 < a0) = false := decide_eq_false c2
        clear c2
        obtain rfl := Option.some.inj H
        go_wp2
        first | go_ret | go_returns
        exact ⟨by first | rfl | (simp; done) | (simp [*]; done), by repeat (first | exact Drawn0.refl _ | apply Drawn0.step)⟩

/-! ### charabancref01_Is: function 34 -/
def charabancref01_Is.f (k : Nat) (a0 : Int) (a1 : Int) : Option (Bool) := if a1 < 0 then (some false) else (if a1 > 7 then (some false) else ((charabancref01_Power.f k a1).bind fun t139 => (if t139 = 0 then (none) else (some ((Int.tmod (wrap64 (Int.tdiv (wrap64 (a0)) t139)) 2) == 1)))))
theorem charabancref01_Is.mono : ∀ a0 a1 k, LeO (charabancref01_Is.f k a0 a1) (charabancref01_Is.f (k + 1) a0 a1) := by
  intro a0 a1 k
  unfold charabancref01_Is.f
  repeat' first
      | (with_reducible exact charabancref01_Power.mono _ _)
      | (with_reducible exact LeO.refl _)
      | (with_reducible exact LeO.none _)
      | (with_reducible refine LeO.ite ?_ ?_)
      | (with_reducible refine LeO.bind ?_ (fun _ => ?_))
      | exact charabancref01_Power.mono _ _
      | exact LeO.none _
      | refine LeO.ite ?_ ?_
      | refine LeO.bind ?_ (fun _ => ?_)
set_option maxHeartbeats 8000000 in
set_option maxRecDepth 100000 in
theorem charabancref01_Is.calls (k : Nat) (a0 : Int) (a1 : Int) (r : Bool) (w : World) (h : charabancref01_Is.f k a0 a1 = some r) :
    Calls Try.prog 34 #[.int .u8 a0, .int .i64 a1] w fun e w' => e = .returned (.bool r) ∧ Drawn0 w w' := by
  have H : (if a1 < 0 then (some false) else (if a1 > 7 then (some false) else ((charabancref01_Power.f k a1).bind fun t139 => (if t139 = 0 then (none) else (some ((Int.tmod (wrap64 (Int.tdiv (wrap64 (a0)) t139)) 2) == 1)))))) = some r := h
  clear h
  by_cases c3 : a1 < 0
  · rw [if_pos c3] at H
    have c3b0 : decide (a1 < 0) = true := decide_eq_true c3
    clear c3
    obtain rfl := Option.some.inj H
    go_enter Try.func34, Try.ntmps34
    go_wp2
    first | go_ret | go_returns
    exact ⟨by first | rfl | (simp; done) | (simp [*]; done), by repeat (first | exact Drawn0.refl _ | apply Drawn0.step)⟩
  · rw [if_neg c3] at H
    have c3b0 : decide (a1 < 0) = false := decide_eq_false c3
    clear c3
    by_cases c4 : a1 > 7
    · rw [if_pos c4] at H
      have c4b0 : decide (7 < a1) = true := decide_eq_true c4
      clear c4
      obtain rfl := Option.some.inj H
      go_enter Try.func34, Try.ntmps34
      go_wp2
      first | go_ret | go_returns
      exact ⟨by first | rfl | (simp; done) | (simp [*]; done), by repeat (first | exact Drawn0.refl _ | apply Drawn0.step)⟩
    · rw [if_neg c4] at H
      have c4b0 : decide (7 < a1) = false := decide_eq_false c4
      clear c4
      replace H := Option.bind_eq_some_iff.mp H
      obtain ⟨t139, A50, H⟩ := H
      replace H : (if t139 = 0 then (none) else (some ((Int.tmod (wrap64 (Int.tdiv (wrap64 (a0)) t139)) 2) == 1))) = some r := H
      have A5 := Aside0.mk A50
      clear A50
      by_cases c6 : t139 = 0
      · rw [if_pos c6] at H
        exact absurd H (by simp)
      · rw [if_neg c6] at H
        have c6b0 : (t139 == 0) = false := beq_eq_false_iff_ne.mpr c6
        have c6b1 : (t139 != 0) = true := bne_iff_ne.mpr c6
        obtain rfl := Option.some.inj H
        go_enter Try.func34, Try.ntmps34
        go_wp2_with (first | ((with_reducible refine gate_callee (f := 49) rfl ?_); refine goesL_ (some 14) rfl rfl Try.func49 (by kernel_rfl) rfl #[.int .i64 a1] rfl (by (try simp only [List.map_toArray, List.map_cons, List.map_nil]); first | done | rfl | (simp only [List.length_drop, List.length_take]; rfl)) ?_; (with_reducible refine (charabancref01_Power.calls k a1 t139 _ A5.out).mono ?_); rintro e w' ⟨rfl, ⟨nd, rfl⟩⟩; refine ⟨_, rfl, ?_⟩))
        first | go_ret | go_returns
        exact ⟨by first | rfl | (simp; done) | (simp [*]; done), by repeat (first | exact Drawn0.refl _ | apply Drawn0.step)⟩

-- NOT PRINTED: function 33 (charabancref02_Of)

end Go.Proofs.Ytkphidaoodedjaa.PK
