/- The reference's 'mixed' (charabancref24.mixed) by its contract. -/
import Derived.Test.YtmoafjgogbcoeaaPioRef1
namespace Go.Proofs.Ytmoafjgogbcoeaa
open Go.RowKit
set_option linter.unusedVariables false
set_option linter.unusedSimpArgs false
set_option maxRecDepth 100000
theorem M.one_tabP : ∀ n j : Fin 8, M.bit (IntKind.u8.wrap (1 * 2 ^ n.val)) j.val = decide (j = n) := by decide +kernel
theorem M.bit_with (b : Int) (n : Nat) (on : Bool) (hn : n < 8) (j : Nat) (hj : j < 8) : M.bit (M.withB b n on) j = if j = n then on else M.bit b j := by
  have h1 := M.one_tabP ⟨n, hn⟩ ⟨j, hj⟩
  have hm : may (n : Int) = true := by simp [may]; omega
  simp only [Fin.mk.injEq] at h1
  unfold M.withB
  rw [if_pos hm, Int.toNat_natCast]
  cases on
  · simp only [Bool.false_eq_true, if_false]
    rw [M.bit_andNot _ _ j hj, h1]
    by_cases e : j = n <;> simp [e]
  · simp only [if_true]
    rw [M.bit_or _ _ j hj, h1]
    by_cases e : j = n <;> simp [e]
/-- The bits below k, mixed. -/
def M.mixK (x : M.Po) : Nat → Int
  | 0 => 0
  | k + 1 => M.withB (M.mixK x k) k (if M.bit x.dir k then M.bit x.inn k else M.bit x.out k)
theorem M.mixK_range (x : M.Po) : ∀ k, 0 ≤ M.mixK x k ∧ M.mixK x k ≤ 255
  | 0 => ⟨by simp [M.mixK], by simp [M.mixK]⟩
  | k + 1 => M.with_range _ _ _ (M.mixK_range x k).1 (M.mixK_range x k).2
theorem M.mixK_bit (x : M.Po) : ∀ (k : Nat), k ≤ 8 → ∀ j, j < k → M.bit (M.mixK x k) j = if M.bit x.dir j then M.bit x.inn j else M.bit x.out j
  | 0, _, j, hj => by omega
  | k + 1, hk, j, hj => by
    show M.bit (M.withB (M.mixK x k) k _) j = _
    rw [M.bit_with _ k _ (by omega) j (by omega)]
    by_cases e : j = k
    · subst e; simp
    · rw [if_neg e, M.mixK_bit x k (by omega) j (by omega)]
theorem M.mixK_is (x : M.Po) : M.mixK x 8 = M.mixedB x := by
  refine M.byte_ext (M.mixK_range _ _).1 (M.mixK_range _ _).2 (M.bits_range _ _ _).1 (M.bits_range _ _ _).2 fun j hj => ?_
  rw [M.mixK_bit x 8 (by omega) j hj]
  unfold M.mixedB
  rw [M.bit_or _ _ j hj, M.bit_and _ _ j hj, M.bit_andNot _ _ j hj]
  cases M.bit x.dir j <;> cases M.bit x.inn j <;> cases M.bit x.out j <;> rfl
set_option maxHeartbeats 4000000 in
theorem rmixed_any (x : M.Po) (hx : x.ok) (w : World) : Calls Try.prog 71 #[.agg x.a] w fun e w' => e = .returned (.int .u8 (M.mixedB x)) ∧ w' = w.alloc (.cells x.a 83) := by
  obtain ⟨X, hX⟩ : ∃ X, X = x := ⟨_, rfl⟩
  rw [← M.mixK_is]
  have hrg := M.mixK_range X
  have hst := fun k => show M.mixK X (k + 1) = M.withB (M.mixK X k) k (if M.bit X.dir k then M.bit X.inn k else M.bit X.out k) from rfl
  have hz : M.mixK X 0 = 0 := rfl
  rw [← hX]
  obtain ⟨mode, out, inn, dir, vec, mask, con, next, ready, was, pend⟩ := x
  obtain ⟨⟨a1, a2⟩, ⟨a3, a4⟩, ⟨a5, a6⟩, ⟨a7, a8⟩, ⟨a9, a10⟩, ⟨a11, a12⟩, ⟨a13, a14⟩, ⟨a15, a16⟩⟩ := hx
  simp only at a1 a2 a3 a4 a5 a6 a7 a8 a9 a10 a11 a12 a13 a14 a15 a16
  have ha : (M.Po.mk mode out inn dir vec mask con next ready was pend).a = #[.int .i64 mode, .int .u8 out, .int .u8 inn, .int .u8 dir, .int .u8 vec, .int .u8 mask, .int .u8 con, .int .i64 next, .bool ready, .bool was, .bool pend] := rfl
  rw [show X.a = #[.int .i64 mode, .int .u8 out, .int .u8 inn, .int .u8 dir, .int .u8 vec, .int .u8 mask, .int .u8 con, .int .i64 next, .bool ready, .bool was, .bool pend] by rw [hX]; rfl]
  simp only [show X.dir = dir by rw [hX], show X.inn = inn by rw [hX], show X.out = out by rw [hX]] at hst
  have Hst := Lib.hid hst
  have Hz := Lib.hid hz
  clear hX ha hst hz
  go_enter Try.func71, Try.ntmps71
  go_wp2_with fail
  go_loop [3, 4] (fun b i => ∃ k : Nat, k ≤ 8 ∧ i = .int .i64 k ∧ b = .int .u8 (M.mixK X k)) (fun _ i => 8 - (intOf i).toNat)
  case atStart => exact ⟨0, Nat.zero_le _, rfl, by rw [Hz.out]⟩
  case round =>
    obtain ⟨k, hk, rfl, rfl⟩ := hrel
    by_cases hlt : k < 8
    · have hd := fun W => refis_any dir (k : Int) a7 a8 W
      rw [is_natP dir k hlt] at hd
      have hi := fun W => refis_any inn (k : Int) a5 a6 W
      rw [is_natP inn k hlt] at hi
      have ho := fun W => refis_any out (k : Int) a3 a4 W
      rw [is_natP out k hlt] at ho
      have hw := fun on W => refwith_any (M.mixK X k) (k : Int) on (hrg k).1 (hrg k).2 W
      have HW := Lib.hid hw
      have hs := Hst.out k
      obtain ⟨m, hm⟩ : ∃ m, m = M.mixK X k := ⟨_, rfl⟩
      rw [← hm] at hw hs HW ⊢
      have hmr := hrg k
      rw [← hm] at hmr
      have Hm := Lib.hid hm
      clear hm hw
      revert hs hd
      generalize M.bit dir k = d
      intro hd hs
      revert hs hi
      generalize M.bit inn k = i
      intro hi hs
      revert hs ho
      generalize M.bit out k = o
      intro ho hs
      have Hd := Lib.hid hd
      have Hi := Lib.hid hi
      have Ho := Lib.hid ho
      have Hs := Lib.hid hs
      clear hd hi ho hs
      cases d with
      | true =>
        go_wp2_with fail
        refine (Hd.out _).mono ?_
        rintro e w1 ⟨rfl, rfl⟩
        go_wp2_with fail
        refine (Hi.out _).mono ?_
        rintro e w1 ⟨rfl, rfl⟩
        go_wp2_with fail
        refine (HW.out _ _).mono ?_
        rintro e w1 ⟨rfl, rfl⟩
        go_wp2_with fail
        go_round
        case rel => exact ⟨k + 1, by omega, by simp, by rw [Hs.out]; rfl⟩
        case measure => simp [intOf]; omega
      | false =>
        go_wp2_with fail
        refine (Hd.out _).mono ?_
        rintro e w1 ⟨rfl, rfl⟩
        go_wp2_with fail
        refine (Ho.out _).mono ?_
        rintro e w1 ⟨rfl, rfl⟩
        go_wp2_with fail
        refine (HW.out _ _).mono ?_
        rintro e w1 ⟨rfl, rfl⟩
        go_wp2_with fail
        go_round
        case rel => exact ⟨k + 1, by omega, by simp, by rw [Hs.out]; rfl⟩
        case measure => simp [intOf]; omega
    · obtain rfl : k = 8 := by omega
      go_wp2_with fail
      go_returns
      exact ⟨rfl, rfl⟩
end Go.Proofs.Ytmoafjgogbcoeaa
