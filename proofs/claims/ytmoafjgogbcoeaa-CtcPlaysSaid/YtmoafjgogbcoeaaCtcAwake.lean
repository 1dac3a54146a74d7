/- charabanclaw23.awake is true. -/
import Derived.Test.YtmoafjgogbcoeaaCtcZeros
import Derived.Test.YtmoafjgogbcoeaaCtcWrite
import Derived.Test.YtmoafjgogbcoeaaRowOpsG
namespace Go.Proofs.Ytmoafjgogbcoeaa
open Go.RowKit
set_option linter.unusedVariables false
set_option linter.unusedSimpArgs false
set_option maxRecDepth 100000

def M.vRun (v : M.Ct) : Nat → M.Ct
  | 0 => v
  | n + 1 => M.tickC (M.vRun v n) M.e0
theorem vRun_ok {v : M.Ct} (hv : v.ok) (n : Nat) : (M.vRun v n).ok := by
  induction n with
  | zero => exact hv
  | succ n ih => exact M.tickC_ok ih
theorem ct0_ok : M.ct0.ok := by simp [M.Ct.ok, M.Ch.ok, M.ct0, M.ch0]
def M.aw1 : M.Ct := M.write (M.write M.ct0 1 133) 1 3
def M.awV : M.Ct := M.vRun (M.write M.aw1 0 70) 48
theorem aw_facts : (M.zRun M.aw1 1 1000 100).first = 48 ∧ (M.zRun M.aw1 1 1000 100).many = 2 ∧ M.read M.aw1 1 = 3 ∧ M.pendC M.aw1 = -1 ∧ M.pendC M.awV = 1 ∧ M.ackV M.awV = 66 ∧ M.pendC (M.ackC M.awV) = -1 := by decide +kernel
theorem ct_box {w W : World} {Z : Array Value} {t : TypeId} {c : M.Ct} (hr : W.rangeAt w.heap.size 0 c.a.toList) (ht : Touch w.heap.size 0 c.a.size (w.alloc (.cells Z t)) W) : CtAt W w.heap.size c :=
  ⟨hr, (free_new w Z t 33).touch ht (by simp), Nat.lt_of_lt_of_le (by simp) ht.size⟩
set_option maxHeartbeats 4000000 in
theorem awake_any (w : World) : Calls Try.prog 30 #[] w fun e w' => e = .returned (.bool true) ∧ Below w.heap.size w w' := by
  obtain ⟨f1, f2, f3, f4, f5, f6, f7⟩ := aw_facts
  have ok1 : (M.write M.ct0 1 133).ok := M.write_ok ct0_ok (by omega) (by omega)
  have ok2 : M.aw1.ok := M.write_ok ok1 (by omega) (by omega)
  have ok3 : (M.write M.aw1 0 70).ok := M.write_ok ok2 (by omega) (by omega)
  have h1 := fun W => cwrite_any M.ct0 ct0_ok 1 133 (by omega) (by omega) W
  have h2 := fun W => cwrite_any (M.write M.ct0 1 133) ok1 1 3 (by omega) (by omega) W
  have h3 := fun W => zeros_any M.aw1 ok2 1 (by omega) 100 (by omega) 1000 (by omega) (by omega) W
  have h4 := fun W => cwrite_any M.aw1 ok2 0 70 (by omega) (by omega) W
  have h6 := fun W => cack_any M.awV (vRun_ok ok3 48) W
  have h7 := fun W => cread_any M.aw1 ok2 1 W
  have h8 := fun W => cpend_any M.aw1 W
  have h9 := fun W => cpend_any M.awV W
  have h10 := fun W => cpend_any (M.ackC M.awV) W
  rw [f1, f2] at h3
  rw [f3] at h7
  rw [f4] at h8
  rw [f5] at h9
  rw [f6] at h6
  rw [f7] at h10
  have h0 : M.vRun (M.write M.aw1 0 70) 48 = M.awV := rfl
  have h00 : M.vRun (M.write M.aw1 0 70) 0 = M.write M.aw1 0 70 := rfl
  change ∀ W, Calls _ _ _ W fun e w' => e = .returned (.agg M.aw1.a) ∧ Below W.heap.size W w' at h2
  clear f1 f2 f3 f4 f5 f6 f7
  generalize M.awV = V at h0 h6 h9 h10
  generalize M.ackC V = F at h6 h10
  obtain ⟨R, hR⟩ : ∃ R : Nat → M.Ct, ∀ n, R n = M.vRun (M.write M.aw1 0 70) n := ⟨_, fun _ => rfl⟩
  have h5 := fun n W => ctick_all (R n) (by rw [hR]; exact vRun_ok ok3 n) M.e0 W
  have hstep : ∀ n, M.tickC (R n) M.e0 = R (n + 1) := fun n => by rw [hR, hR]; rfl
  simp only [hstep] at h5
  rw [← hR] at h0 h00
  generalize M.write M.aw1 0 70 = V0 at h4 h00
  generalize M.aw1 = C2 at h2 h3 h4 h7 h8
  generalize M.write M.ct0 1 133 = C1 at h1 h2
  have H1 := Lib.hid h1
  have H2 := Lib.hid h2
  have H3 := Lib.hid h3
  have H4 := Lib.hid h4
  have H5 := Lib.hid h5
  have H6 := Lib.hid h6
  have H7 := Lib.hid h7
  have H8 := Lib.hid h8
  have H9 := Lib.hid h9
  have H10 := Lib.hid h10
  have H0 := Lib.hid h0
  have H00 := Lib.hid h00
  clear h1 h2 h3 h4 h5 h6 h7 h8 h9 h10 h0 h00 hstep ok1 ok2 ok3 hR
  obtain ⟨Z, hZs, hZ'⟩ := zero47
  obtain ⟨Y, hYs, hY'⟩ := zero58
  have hZ := Lib.hid hZ'
  have hY := Lib.hid hY'
  have hYn : Y.size = 4 := by rw [hYs]; rfl
  clear hZ' hY' hYs
  go_enter Try.func30, Try.ntmps30
  go_wp2_with fail
  refine (H1.out _).mono ?_
  rintro e w1 ⟨rfl, hb1⟩
  go_wp2_with fail
  refine (H2.out _).mono ?_
  rintro e w2 ⟨rfl, hb2⟩
  have hb2 := hb1.trans (hb2.mono hb1.size)
  clear hb1
  have hz2 := hb2.size
  go_wp2_with (first
    | ((with_reducible refine is_allocT 47 rfl ?_); refine wpList_alloc_row rfl _ rfl Z hZ.out ?_)
      | ((with_reducible refine is_allocT 58 rfl ?_); refine wpList_alloc_row rfl _ rfl Y hY.out ?_)
    | ((with_reducible refine is_storeT 47 rfl ?_); refine wpList_store_rowT rfl _ _ _ rfl _ _ C2.a rfl rfl (by rw [ct_size]; exact there_newA _ Z _ 33 (by omega)) (info47c _) (ct_one _) ?_; intro W hW hT)
    | ((with_reducible refine is_loadT 47 rfl ?_); refine wpList_load_row rfl _ _ rfl _ _ rfl _ Try.underlying47 rfl C2.a hW (info47c _) ?_))
  have hx1 := Lib.hid (ct_box hW hT)
  have hbl := hT.below w.heap.size w (by omega) (by simp; omega) (by go_grown)
  have hsz : w2.heap.size + 1 ≤ W.heap.size := Nat.le_trans (by simp) hT.size
  clear hW hT hb2
  refine (H3.out _).mono ?_
  rintro e w3 ⟨rfl, hb3⟩
  have hx2 := Lib.hid (hx1.out.belowX hb3)
  have hbl3 : Below w.heap.size w w3 := hbl.trans (hb3.mono (by omega))
  have hz3 := hb3.size
  clear hx1 hbl hb3
  go_wp2_with ((with_reducible refine is_loadT 47 rfl ?_); refine wpList_load_row rfl _ _ rfl _ _ rfl _ Try.underlying47 rfl C2.a hx2.out.1 (info47c _) ?_)
  refine (H4.out _).mono ?_
  rintro e w4 ⟨rfl, hb4⟩
  have hx3 := Lib.hid (hx2.out.belowX hb4)
  have hbl4 : Below w.heap.size w w4 := hbl3.trans (hb4.mono (by omega))
  have hz4 := hb4.size
  clear hx2 hbl3 hb4
  go_wp2_with (first
    | ((with_reducible refine is_allocT 47 rfl ?_); refine wpList_alloc_row rfl _ rfl Z hZ.out ?_)
      | ((with_reducible refine is_allocT 58 rfl ?_); refine wpList_alloc_row rfl _ rfl Y hY.out ?_)
    | ((with_reducible refine is_storeT 47 rfl ?_); refine wpList_store_rowT rfl _ _ _ rfl _ _ V0.a rfl rfl (by rw [ct_size]; exact there_newA _ Z _ 33 (by omega)) (info47c _) (ct_one _) ?_; intro W4 hW hT))
  rw [← H00.out] at hW hT
  have hv := Lib.hid (ct_box hW hT)
  have hx4 := Lib.hid ((hx3.out.alloc _).touch hT (by omega))
  have hbl5 := hT.below w.heap.size w (by omega) (by simp; omega) (by go_grown)
  have hsz5 : w4.heap.size + 1 ≤ W4.heap.size := Nat.le_trans (by simp) hT.size
  clear hW hT hx3 hbl4
  go_loopw [5] (fun i wr => ∃ n : Nat, n ≤ 48 ∧ i = .int .i64 n ∧ CtAt wr w2.heap.size C2 ∧ CtAt wr w4.heap.size (R n) ∧ Below w.heap.size w wr) (fun i _ => 48 - (intOf i).toNat)
  case atStart => exact ⟨0, by omega, rfl, hx4.out, hv.out, hbl5⟩
  case round =>
    clear hv hx4 hbl5
    obtain ⟨n, hn, rfl, hx5, hv5, hbl5⟩ := hrel
    have HX := Lib.hid hx5
    have HV := Lib.hid hv5
    have hzr := hv5.2.2
    clear hx5 hv5
    by_cases hlt : n < 48
    · have hlt' : (n : Int) < 48 := by omega
      go_wp2_with ((with_reducible refine is_loadT 47 rfl ?_); refine wpList_load_row rfl _ _ rfl _ _ rfl _ Try.underlying47 rfl (R n).a HV.out.1 (info47c _) ?_)
      refine (H5.out n _).mono ?_
      rintro e w5 ⟨rfl, hb5⟩
      have HX5 := Lib.hid (HX.out.belowX hb5)
      have HV5 := Lib.hid (HV.out.belowX hb5)
      have hbl6 : Below w.heap.size w w5 := hbl5.trans (hb5.mono (by omega))
      have hz5 := hb5.size
      clear HX HV hbl5 hb5
      obtain ⟨E, hE⟩ : ∃ E, E = M.tickE (R n) M.e0 := ⟨_, rfl⟩
      rw [← hE]
      clear hE
      go_wp2_with (first
        | ((with_reducible refine is_allocT 47 rfl ?_); refine wpList_alloc_row rfl _ rfl Z hZ.out ?_)
          | ((with_reducible refine is_allocT 58 rfl ?_); refine wpList_alloc_row rfl _ rfl Y hY.out ?_)
        | ((with_reducible refine is_storeT 47 rfl ?_); refine wpList_store_rowT rfl _ _ _ rfl _ _ (R (n + 1)).a rfl rfl (by rw [ct_size]; exact there_allocA (there_newA w5 Z _ 33 (by omega)) _) (info47c _) (ct_one _) ?_;
            intro W6 hW6 hT6; have hw6 := Lib.hid hW6; have hth6 := Lib.hid (there_touch (there_newB (b := w5.heap.size + 1) (w5.alloc (.cells Z 47)) Y 58 4 (by simp) (by omega)) hT6 (by simp) (by omega)); have HX6 := Lib.hid (((HX5.out.alloc _).alloc _).touch hT6 (by omega)); have HV6 := Lib.hid (((HV5.out.alloc _).alloc _).touch hT6 (by omega)); have hbl7 := hT6.below w.heap.size w (by omega) (by simp; omega) (by go_grown); have hsz6 : w5.heap.size + 1 + 1 ≤ W6.heap.size := Nat.le_trans (by simp) hT6.size; clear hW6 hT6)
        | ((with_reducible refine is_storeT 58 rfl ?_); refine wpList_store_rowT rfl _ _ _ rfl _ _ E.a rfl rfl (by rw [e4_size]; simp only [World.size_alloc]; exact hth6.out) (info58c _) (e4_one _) ?_;
            intro W7 hW7 hT7; simp only [World.size_alloc] at hW7 hT7; have hw7 := Lib.hid (hT7.range (by omega) hw6.out (.inl (by omega))); have HX7 := Lib.hid (HX6.out.touch hT7 (by omega)); have HV7 := Lib.hid (HV6.out.touch hT7 (by omega)); have hbl8 := hT7.below w.heap.size w (by omega) (by omega) hbl7; have hsz7 : w5.heap.size + 1 + 1 ≤ W7.heap.size := Nat.le_trans hsz6 hT7.size; clear hW7 hT7)
        | ((with_reducible refine is_loadT 47 rfl ?_); refine wpList_load_row rfl _ _ rfl _ _ rfl _ Try.underlying47 rfl (R (n + 1)).a hw7.out (info47c _) ?_)
        | ((with_reducible refine is_storeT 47 rfl ?_); refine wpList_store_rowT rfl _ _ _ rfl _ _ (R (n + 1)).a rfl rfl (by rw [ct_size]; exact there_of HV7.out.1 HV7.out.2.1 (Nat.le_refl _)) (info47c _) (ct_one _) ?_;
            intro W8 hW8 hT8; have HV8 : Hid (CtAt W8 w4.heap.size (R (n + 1))) := Lib.hid ⟨hW8, HV7.out.2.1.touch hT8 HV7.out.2.2, Nat.lt_of_lt_of_le HV7.out.2.2 hT8.size⟩; have HX8 := Lib.hid (HX7.out.touch hT8 (by omega)); have hbl9 := hT8.below w.heap.size w (by omega) (by omega) hbl8; clear hW8 hT8))
      go_round
      case rel => exact ⟨n + 1, by omega, by simp, HX8.out, HV8.out, hbl9⟩
      case measure => simp [intOf]; omega
    · have : n = 48 := by omega
      subst this
      rw [H0.out] at HV
      go_wp2_with ((with_reducible refine is_loadT 47 rfl ?_); refine wpList_load_row rfl _ _ rfl _ _ rfl _ Try.underlying47 rfl V.a HV.out.1 (info47c _) ?_)
      refine (H6.out _).mono ?_
      rintro e w6 ⟨rfl, hb6⟩
      have HX6 := Lib.hid (HX.out.belowX hb6)
      have HV6 := Lib.hid (HV.out.belowX hb6)
      have hbl6 : Below w.heap.size w w6 := hbl5.trans (hb6.mono (by omega))
      have hz6 := hb6.size
      clear HX HV hbl5 hb6
      go_wp2_with (first
        | ((with_reducible refine is_allocT 47 rfl ?_); refine wpList_alloc_row rfl _ rfl Z hZ.out ?_)
          | ((with_reducible refine is_allocT 58 rfl ?_); refine wpList_alloc_row rfl _ rfl Y hY.out ?_)
        | ((with_reducible refine is_storeT 47 rfl ?_); refine wpList_store_rowT rfl _ _ _ rfl _ _ F.a rfl rfl (by rw [ct_size]; exact there_newA _ Z _ 33 (by omega)) (info47c _) (ct_one _) ?_;
            intro W7 hW hT; have HF7 := Lib.hid (ct_box hW hT); have HX7 := Lib.hid ((HX6.out.alloc _).touch hT (by omega)); have HV7 := Lib.hid ((HV6.out.alloc _).touch hT (by omega)); have hbl7 := hT.below w.heap.size w (by omega) (by simp; omega) (by go_grown); have hsz7 : w6.heap.size + 1 ≤ W7.heap.size := Nat.le_trans (by simp) hT.size; clear hW hT)
        | ((with_reducible refine is_loadG 47 rfl ?_); refine wpList_load_rowG (by rfl) _ _ rfl _ _ rfl _ Try.underlying47 rfl C2.a HX7.out.1 (info47c _) ?_))
      refine (H7.out _).mono ?_
      rintro e w8 ⟨rfl, hb8⟩
      have HX8 := Lib.hid (HX7.out.belowX hb8)
      have HV8 := Lib.hid (HV7.out.belowX hb8)
      have HF8 := Lib.hid (HF7.out.belowX hb8)
      have hbl8 : Below w.heap.size w w8 := hbl7.trans (hb8.mono (by omega))
      have hz8 := hb8.size
      clear HX7 HV7 HF7 hbl7 hb8
      go_wp2_with ((with_reducible refine is_loadG 47 rfl ?_); refine wpList_load_rowG (by rfl) _ _ rfl _ _ rfl _ Try.underlying47 rfl C2.a HX8.out.1 (info47c _) ?_)
      refine (H8.out _).mono ?_
      rintro e w9 ⟨rfl, hb9⟩
      have HV9 := Lib.hid (HV8.out.belowX hb9)
      have HF9 := Lib.hid (HF8.out.belowX hb9)
      have hbl9 : Below w.heap.size w w9 := hbl8.trans (hb9.mono (by omega))
      have hz9 := hb9.size
      clear HX8 HV8 HF8 hbl8 hb9
      go_wp2_with ((with_reducible refine is_loadG 47 rfl ?_); refine wpList_load_rowG (by rfl) _ _ rfl _ _ rfl _ Try.underlying47 rfl V.a HV9.out.1 (info47c _) ?_)
      refine (H9.out _).mono ?_
      rintro e w10 ⟨rfl, hb10⟩
      have HF10 := Lib.hid (HF9.out.belowX hb10)
      have hbl10 : Below w.heap.size w w10 := hbl9.trans (hb10.mono (by omega))
      have hz10 := hb10.size
      clear HV9 HF9 hbl9 hb10
      go_wp2_with ((with_reducible refine is_loadG 47 rfl ?_); refine wpList_load_rowG (by rfl) _ _ rfl _ _ rfl _ Try.underlying47 rfl F.a HF10.out.1 (info47c _) ?_)
      refine (H10.out _).mono ?_
      rintro e w11 ⟨rfl, hb11⟩
      have hbl11 : Below w.heap.size w w11 := hbl10.trans (hb11.mono (by omega))
      go_wp2_with fail
      go_returns
      exact ⟨rfl, hbl11⟩
end Go.Proofs.Ytmoafjgogbcoeaa
