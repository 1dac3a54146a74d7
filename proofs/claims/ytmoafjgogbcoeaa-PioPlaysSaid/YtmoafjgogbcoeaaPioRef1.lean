/- The reference's 'is what is looked for so' and 'mixed' (charabancref24.so, mixed), each by its contract. -/
import Derived.Test.YtmoafjgogbcoeaaPioPend
import Derived.Test.YtmoafjgogbcoeaaRef01
namespace Go.Proofs.Ytmoafjgogbcoeaa
open Go.RowKit
set_option linter.unusedVariables false
set_option linter.unusedSimpArgs false
set_option maxRecDepth 100000

def M.lkd (mask : Int) : Nat → Nat
  | 0 => 0
  | k + 1 => M.lkd mask k + (if M.bit mask k then 0 else 1)
def M.hld (mask inn : Int) (set : Bool) : Nat → Nat
  | 0 => 0
  | k + 1 => M.hld mask inn set k + (if M.bit mask k then 0 else if M.bit inn k == set then 1 else 0)
theorem M.hld_le (mask inn : Int) (set : Bool) (k : Nat) : M.hld mask inn set k ≤ M.lkd mask k ∧ M.lkd mask k ≤ k := by
  induction k with
  | zero => simp [M.hld, M.lkd]
  | succ k ih =>
    simp only [M.hld, M.lkd]
    split
    · omega
    · split <;> omega
theorem M.hld_any (mask inn : Int) (set : Bool) (k : Nat) : ((List.range k).any fun i => !M.bit mask i && (M.bit inn i == set)) = decide (0 < M.hld mask inn set k) := by
  induction k with
  | zero => rfl
  | succ k ih =>
    rw [List.range_succ, List.any_append, ih]
    simp only [M.hld]
    rcases Bool.eq_false_or_eq_true (M.bit mask k) with hb | hb <;> rcases Bool.eq_false_or_eq_true (M.bit inn k) with hi | hi <;> cases set <;> simp [hb, hi]
theorem M.hld_all (mask inn : Int) (set : Bool) (k : Nat) : ((List.range k).all fun i => M.bit mask i || (M.bit inn i == set)) = decide (M.hld mask inn set k = M.lkd mask k) := by
  induction k with
  | zero => rfl
  | succ k ih =>
    have hl := M.hld_le mask inn set k
    rw [List.range_succ, List.all_append, ih]
    simp only [M.hld, M.lkd]
    rcases Bool.eq_false_or_eq_true (M.bit mask k) with hb | hb <;> rcases Bool.eq_false_or_eq_true (M.bit inn k) with hi | hi <;> cases set <;> simp [hb, hi] <;> omega
/-- What the counting answers. -/
def M.soN (l h : Nat) (a : Bool) : Bool := decide (0 < l) && (decide (h = l) || decide (0 < h) && !a)
theorem M.soN_is (mask inn : Int) (set a : Bool) : M.soN (M.lkd mask 8) (M.hld mask inn set 8) a = (M.anyH mask inn set && (!a || M.allH mask inn set)) := by
  have hl := M.hld_le mask inn set 8
  unfold M.soN M.anyH M.allH
  rw [M.hld_any, M.hld_all]
  generalize M.hld mask inn set 8 = h at *
  generalize M.lkd mask 8 = l at *
  cases a
  · by_cases h1 : 0 < h
    · simp [h1]; omega
    · simp [h1]; omega
  · by_cases h1 : 0 < h
    · simp [h1]; omega
    · simp [h1]; omega
theorem M.soN_1 {l h : Nat} {a : Bool} (h1 : 0 < l) (h2 : (h : Int) = l) : true = M.soN l h a := by
  have : h = l := by omega
  simp [M.soN, h1, this]
theorem M.soN_2 {l h : Nat} {a : Bool} (h1 : 0 < l) (h2 : ¬ (h : Int) = l) (h3 : 0 < h) : ((h : Int) == (l : Int) || !a) = M.soN l h a := by
  have h4 : ¬ h = l := by omega
  have h5 : ((h : Int) == (l : Int)) = false := by rw [beq_eq_false_iff_ne]; exact h2
  rw [h5]
  simp [M.soN, h1, h3, h4]
theorem M.soN_3 {l h : Nat} {a : Bool} (h1 : 0 < l) (h2 : ¬ (h : Int) = l) (h3 : ¬ 0 < h) : ((h : Int) == (l : Int)) = M.soN l h a := by
  have h4 : ¬ h = l := by omega
  have h5 : ((h : Int) == (l : Int)) = false := by rw [beq_eq_false_iff_ne]; exact h2
  rw [h5]
  simp [M.soN, h1, h3, h4]
theorem M.soN_4 {l h : Nat} {a : Bool} (h1 : ¬ 0 < l) : false = M.soN l h a := by simp [M.soN, h1]
theorem is_natP (b : Int) (k : Nat) (hk : k < 8) : M.is b (k : Int) = M.bit b k := M.is_bit b k hk
set_option maxHeartbeats 4000000 in
theorem rso_any (x : M.Po) (hx : x.ok) (w : World) : Calls Try.prog 77 #[.agg x.a] w fun e w' => e = .returned (.bool (M.soB x)) ∧ w' = w.alloc (.cells x.a 83) := by
  obtain ⟨mode, out, inn, dir, vec, mask, con, next, ready, was, pend⟩ := x
  obtain ⟨⟨a1, a2⟩, ⟨a3, a4⟩, ⟨a5, a6⟩, ⟨a7, a8⟩, ⟨a9, a10⟩, ⟨a11, a12⟩, ⟨a13, a14⟩, ⟨a15, a16⟩⟩ := hx
  simp only at a1 a2 a3 a4 a5 a6 a7 a8 a9 a10 a11 a12 a13 a14 a15 a16
  have ha : (M.Po.mk mode out inn dir vec mask con next ready was pend).a = #[.int .i64 mode, .int .u8 out, .int .u8 inn, .int .u8 dir, .int .u8 vec, .int .u8 mask, .int .u8 con, .int .i64 next, .bool ready, .bool was, .bool pend] := rfl
  have h5 := fun W => refis_any con 5 a13 a14 W
  have h6 := fun W => refis_any con 6 a13 a14 W
  have hs : M.soB ⟨mode, out, inn, dir, vec, mask, con, next, ready, was, pend⟩ = (mode == 3 && (M.anyH mask inn (M.is con 5) && (!M.is con 6 || M.allH mask inn (M.is con 5)))) := rfl
  rw [hs, ← M.soN_is, ha]
  clear hs ha
  revert h5
  generalize M.is con 5 = s
  intro h5
  revert h6
  generalize M.is con 6 = t
  intro h6
  have H5 := Lib.hid h5
  have H6 := Lib.hid h6
  clear h5 h6
  by_cases hm : mode = 3
  · subst hm
    have hr := Lib.hid (show ((3 : Int) == 3 && M.soN (M.lkd mask 8) (M.hld mask inn s 8) t) = M.soN (M.lkd mask 8) (M.hld mask inn s 8) t from rfl)
    rw [hr.out]
    go_enter Try.func77, Try.ntmps77
    go_wp2_with fail
    refine (H5.out _).mono ?_
    rintro e w1 ⟨rfl, rfl⟩
    go_wp2_with fail
    refine (H6.out _).mono ?_
    rintro e w1 ⟨rfl, rfl⟩
    go_wp2_with fail
    clear H5 H6
    go_loop [5, 6, 7] (fun l h i => ∃ k : Nat, k ≤ 8 ∧ i = .int .i64 k ∧ l = .int .i64 (M.lkd mask k : Int) ∧ h = .int .i64 (M.hld mask inn s k : Int)) (fun _ _ i => 8 - (intOf i).toNat)
    case atStart => exact ⟨0, Nat.zero_le _, rfl, rfl, rfl⟩
    case round =>
      obtain ⟨k, hk, rfl, rfl, rfl⟩ := hrel
      have hle := M.hld_le mask inn s k
      by_cases hlt : k < 8
      · have hc := fun W => refis_any mask (k : Int) a11 a12 W
        rw [is_natP mask k hlt] at hc
        have hi := fun W => refis_any inn (k : Int) a5 a6 W
        rw [is_natP inn k hlt] at hi
        cases hm : M.bit mask k with
        | true =>
          rw [hm] at hc
          have Hc := Lib.hid hc
          clear hc hi
          have S1 := Lib.hid (show M.lkd mask (k + 1) = M.lkd mask k + 0 by simp [M.lkd, hm])
          have S2 := Lib.hid (show M.hld mask inn s (k + 1) = M.hld mask inn s k + 0 by simp [M.hld, hm, hm])
          obtain ⟨L, hL⟩ : ∃ L, L = M.lkd mask k := ⟨_, rfl⟩
          obtain ⟨H, hH⟩ : ∃ H, H = M.hld mask inn s k := ⟨_, rfl⟩
          rw [← hL, ← hH] at hle
          rw [← hL, ← hH]
          have HL := Lib.hid hL
          have HH := Lib.hid hH
          clear hL hH
          clear hm
          go_wp2_with fail
          refine (Hc.out _).mono ?_
          rintro e w1 ⟨rfl, rfl⟩
          go_wp2_with fail
          go_round
          case rel => exact ⟨k + 1, by omega, by simp, by rw [S1.out, ← HL.out]; simp, by rw [S2.out, ← HH.out]; simp⟩
          case measure => simp [intOf]; omega
        | false =>
          rw [hm] at hc
          have Hc := Lib.hid hc
          clear hc
          cases he : (M.bit inn k == s) with
          | true =>
            have he' : M.bit inn k = s := by simpa using he
            have S1 := Lib.hid (show M.lkd mask (k + 1) = M.lkd mask k + 1 by simp [M.lkd, hm])
            have S2 := Lib.hid (show M.hld mask inn s (k + 1) = M.hld mask inn s k + 1 by simp [M.hld, hm, he])
            obtain ⟨L, hL⟩ : ∃ L, L = M.lkd mask k := ⟨_, rfl⟩
            obtain ⟨H, hH⟩ : ∃ H, H = M.hld mask inn s k := ⟨_, rfl⟩
            rw [← hL, ← hH] at hle
            rw [← hL, ← hH]
            have HL := Lib.hid hL
            have HH := Lib.hid hH
            clear hL hH
            rw [he'] at hi
            have Hi := Lib.hid hi
            clear hm hi he he'
            go_wp2_with fail
            refine (Hc.out _).mono ?_
            rintro e w1 ⟨rfl, rfl⟩
            go_wp2_with fail
            refine (Hi.out _).mono ?_
            rintro e w1 ⟨rfl, rfl⟩
            go_wp2_with fail
            go_round
            case rel => exact ⟨k + 1, by omega, by simp, by rw [S1.out, ← HL.out]; simp, by rw [S2.out, ← HH.out]; simp⟩
            case measure => simp [intOf]; omega
          | false =>
            have he' : M.bit inn k = !s := by revert he; cases M.bit inn k <;> cases s <;> simp
            have S1 := Lib.hid (show M.lkd mask (k + 1) = M.lkd mask k + 1 by simp [M.lkd, hm])
            have S2 := Lib.hid (show M.hld mask inn s (k + 1) = M.hld mask inn s k + 0 by simp [M.hld, hm, he])
            obtain ⟨L, hL⟩ : ∃ L, L = M.lkd mask k := ⟨_, rfl⟩
            obtain ⟨H, hH⟩ : ∃ H, H = M.hld mask inn s k := ⟨_, rfl⟩
            rw [← hL, ← hH] at hle
            rw [← hL, ← hH]
            have HL := Lib.hid hL
            have HH := Lib.hid hH
            clear hL hH
            rw [he'] at hi
            have Hi := Lib.hid hi
            clear hm hi he he'
            go_wp2_with fail
            refine (Hc.out _).mono ?_
            rintro e w1 ⟨rfl, rfl⟩
            go_wp2_with fail
            refine (Hi.out _).mono ?_
            rintro e w1 ⟨rfl, rfl⟩
            go_wp2_with fail
            go_round
            case rel => exact ⟨k + 1, by omega, by simp, by rw [S1.out, ← HL.out]; simp, by rw [S2.out, ← HH.out]; simp⟩
            case measure => simp [intOf]; omega
      · obtain rfl : k = 8 := by omega
        obtain ⟨L, hL⟩ : ∃ L, L = M.lkd mask 8 := ⟨_, rfl⟩
        obtain ⟨H, hH⟩ : ∃ H, H = M.hld mask inn s 8 := ⟨_, rfl⟩
        rw [← hL, ← hH] at hle
        rw [← hL, ← hH]
        have HL := Lib.hid hL
        have HH := Lib.hid hH
        clear hL hH
        go_wp2_with fail
        all_goals go_returns
        all_goals refine ⟨ret_bool ?_, rfl⟩
        all_goals rw [← HL.out, ← HH.out]
        all_goals clear HL HH
        all_goals first | exact M.soN_1 (by assumption) (by assumption) | exact M.soN_2 (by assumption) (by assumption) (by assumption) | exact M.soN_3 (by assumption) (by assumption) (by assumption) | exact M.soN_4 (by assumption)
  · have hm' : (mode == 3) = false := by simpa using hm
    rw [hm']
    go_enter Try.func77, Try.ntmps77
    go_wp2_with fail
    go_returns
    exact ⟨rfl, rfl⟩
end Go.Proofs.Ytmoafjgogbcoeaa
