/- charabanclaw23.CtcPeriods is true at whatever input. -/
import Derived.Test.YtmoafjgogbcoeaaCtcAwake
namespace Go.Proofs.Ytmoafjgogbcoeaa
open Go.RowKit
set_option linter.unusedVariables false
set_option linter.unusedSimpArgs false
set_option maxRecDepth 100000

theorem M.and3 (a : Int) : ∃ k : Nat, k < 4 ∧ bits .and .i64 a 3 = (k : Int) := by
  refine ⟨(BitVec.ofInt 64 a).toNat % 4, Nat.mod_lt _ (by decide), ?_⟩
  show IntKind.i64.wrap ((BitVec.ofInt 64 a &&& BitVec.ofInt 64 3).toNat : Int) = _
  rw [BitVec.toNat_and, show (BitVec.ofInt 64 3).toNat = 2 ^ 2 - 1 from rfl, Nat.and_two_pow_sub_one_eq_mod]
  have : (BitVec.ofInt 64 a).toNat % 4 < 4 := Nat.mod_lt _ (by decide)
  rw [IntKind.wrap_i64]
  omega
def M.perT (k : Nat) (m : Nat) : M.Ct := M.write (M.write M.ct0 k 5) k ((m : Int) + 1)
def M.perU (k : Nat) (m : Nat) : M.Ct := M.write (M.write M.ct0 k 69) k ((m : Int) + 1)
theorem per1 : ∀ k : Fin 4, ∀ m : Fin 12, (M.zRun (M.perT k.val m.val) k.val 1073741824 (48 * (m.val + 1))).first = 16 * ((m.val : Int) + 1) ∧ (M.zRun (M.perT k.val m.val) k.val 1073741824 (48 * (m.val + 1))).many = 3 := by decide +kernel
theorem per2 : ∀ k : Fin 4, ∀ m : Fin 12, ∀ e : Fin 5, (M.zRun (M.perU k.val m.val) k.val ((e.val : Int) + 1) (2 * (e.val + 1) * (m.val + 1))).first = ((e.val : Int) + 1) * ((m.val : Int) + 1) ∧ (M.zRun (M.perU k.val m.val) k.val ((e.val : Int) + 1) (2 * (e.val + 1) * (m.val + 1))).many = 2 := by decide +kernel
set_option maxHeartbeats 4000000 in
theorem periods_true (a0 a1 a2 : Int) (w1a : 0 ≤ a1) (w1b : a1 ≤ 255) (w2a : 0 ≤ a2) (w2b : a2 ≤ 255) (w : World) : Calls Try.prog 9 #[.int .i64 a0, .int .u8 a1, .int .u8 a2] w fun e w' => e = .returned (.bool true) ∧ Below w.heap.size w w' := by
  obtain ⟨k, hk, hK⟩ := M.and3 a0
  obtain ⟨m, hm, hM⟩ : ∃ m : Nat, m < 12 ∧ a1 % 12 = (m : Int) := ⟨(a1 % 12).toNat, by omega, by omega⟩
  obtain ⟨e, he, hE⟩ : ∃ e : Nat, e < 5 ∧ a2 % 5 = (e : Int) := ⟨(a2 % 5).toNat, by omega, by omega⟩
  obtain ⟨p1, p2⟩ := per1 ⟨k, hk⟩ ⟨m, hm⟩
  obtain ⟨q1, q2⟩ := per2 ⟨k, hk⟩ ⟨m, hm⟩ ⟨e, he⟩
  simp only at p1 p2 q1 q2
  have okA : (M.write M.ct0 k 5).ok := M.write_ok ct0_ok (by omega) (by omega)
  have okB : (M.write M.ct0 k 69).ok := M.write_ok ct0_ok (by omega) (by omega)
  have okT : (M.perT k m).ok := M.write_ok okA (by omega) (by omega)
  have okU : (M.perU k m).ok := M.write_ok okB (by omega) (by omega)
  have h1 := fun W => cwrite_any M.ct0 ct0_ok k 5 (by omega) (by omega) W
  have h2 : ∀ W, Calls Try.prog 32 #[.agg (M.write M.ct0 k 5).a, .int .i64 k, .int .u8 ((m : Int) + 1)] W fun e w' => e = .returned (.agg (M.perT k m).a) ∧ Below W.heap.size W w' := fun W => cwrite_any (M.write M.ct0 k 5) okA k ((m : Int) + 1) (by omega) (by omega) W
  have h3 := fun W => zeros_any (M.perT k m) okT k hk (48 * (m + 1)) (by omega) 1073741824 (by omega) (by omega) W
  have h4 := fun W => cwrite_any M.ct0 ct0_ok k 69 (by omega) (by omega) W
  have h5 : ∀ W, Calls Try.prog 32 #[.agg (M.write M.ct0 k 69).a, .int .i64 k, .int .u8 ((m : Int) + 1)] W fun e w' => e = .returned (.agg (M.perU k m).a) ∧ Below W.heap.size W w' := fun W => cwrite_any (M.write M.ct0 k 69) okB k ((m : Int) + 1) (by omega) (by omega) W
  have h6 := fun W => zeros_any (M.perU k m) okU k hk (2 * (e + 1) * (m + 1)) (by have : (e + 1) * (m + 1) ≤ 5 * 12 := Nat.mul_le_mul (by omega) (by omega); rw [Nat.mul_assoc]; omega) ((e : Int) + 1) (by omega) (by omega) W
  rw [p1, p2] at h3
  rw [q1, q2] at h6
  rw [show ((48 * (m + 1) : Nat) : Int) = 48 * ((m : Int) + 1) by omega] at h3
  rw [show ((2 * (e + 1) * (m + 1) : Nat) : Int) = 2 * ((e : Int) + 1) * ((m : Int) + 1) by simp [Int.natCast_mul]] at h6
  clear p1 p2 q1 q2 okA okB okT okU
  generalize M.perT k m = T at h2 h3
  generalize M.perU k m = U at h5 h6
  generalize M.write M.ct0 k 5 = P at h1 h2
  generalize M.write M.ct0 k 69 = R at h4 h5
  have H1 := Lib.hid h1
  have H2 := Lib.hid h2
  have H3 := Lib.hid h3
  have H4 := Lib.hid h4
  have H5 := Lib.hid h5
  have H6 := Lib.hid h6
  clear h1 h2 h3 h4 h5 h6
  obtain ⟨Z, hZs, hZ'⟩ := zero47
  have hZ := Lib.hid hZ'
  clear hZ'
  rcases (show e = 0 ∨ e = 1 ∨ e = 2 ∨ e = 3 ∨ e = 4 by omega) with rfl | rfl | rfl | rfl | rfl
  all_goals
    go_enter Try.func9, Try.ntmps9
    go_wp2_with fail
    refine (awake_any _).mono ?_
    rintro e w1 ⟨rfl, hb1⟩
    go_wp2_with fail
    refine (H1.out _).mono ?_
    rintro e w2 ⟨rfl, hb2⟩
    have hb2 := hb1.trans (hb2.mono hb1.size)
    clear hb1
    go_wp2_with fail
    refine (H2.out _).mono ?_
    rintro e w3 ⟨rfl, hb3⟩
    have hb3 := hb2.trans (hb3.mono hb2.size)
    clear hb2
    have hz3 := hb3.size
    go_wp2_with (first | ((with_reducible refine is_allocT 47 rfl ?_); refine wpList_alloc_row rfl _ rfl Z hZ.out ?_) | ((with_reducible refine is_storeT 47 rfl ?_); refine wpList_store_rowT rfl _ _ _ rfl _ _ T.a rfl rfl (by rw [ct_size]; exact there_newA _ Z _ 33 (by omega)) (info47c _) (ct_one _) ?_; intro W hW hT) | ((with_reducible refine is_loadT 47 rfl ?_); refine wpList_load_row rfl _ _ rfl _ _ rfl _ Try.underlying47 rfl T.a hW (info47c _) ?_))
    have hbl := hT.below w.heap.size w (by omega) (by simp; omega) (by go_grown)
    clear hW hT
    refine (H3.out _).mono ?_
    rintro e w4 ⟨rfl, hb4⟩
    have hb4 := hbl.trans (hb4.mono hbl.size)
    clear hbl
    go_wp2_with fail
    refine (H4.out _).mono ?_
    rintro e w5 ⟨rfl, hb5⟩
    have hb5 := hb4.trans (hb5.mono hb4.size)
    clear hb4
    go_wp2_with fail
    refine (H5.out _).mono ?_
    rintro e w6 ⟨rfl, hb6⟩
    have hb6 := hb5.trans (hb6.mono hb5.size)
    clear hb5
    have hz6 := hb6.size
    go_wp2_with (first | ((with_reducible refine is_allocT 47 rfl ?_); refine wpList_alloc_row rfl _ rfl Z hZ.out ?_) | ((with_reducible refine is_storeT 47 rfl ?_); refine wpList_store_rowT rfl _ _ _ rfl _ _ U.a rfl rfl (by rw [ct_size]; exact there_newA _ Z _ 33 (by omega)) (info47c _) (ct_one _) ?_; intro W hW hT) | ((with_reducible refine is_loadT 47 rfl ?_); refine wpList_load_row rfl _ _ rfl _ _ rfl _ Try.underlying47 rfl U.a hW (info47c _) ?_))
    have hbl := hT.below w.heap.size w (by omega) (by simp; omega) (by go_grown)
    clear hW hT
    refine (H6.out _).mono ?_
    rintro e w7 ⟨rfl, hb7⟩
    have hb7 := hbl.trans (hb7.mono hbl.size)
    clear hbl
    go_wp2_with fail
    go_returns
    exact ⟨rfl, hb7⟩
end Go.Proofs.Ytmoafjgogbcoeaa
