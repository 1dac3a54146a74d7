/- charabanclaw24.awake is true. -/
import Derived.Test.YtmoafjgogbcoeaaPioTold
import Derived.Test.YtmoafjgogbcoeaaPioRead
import Derived.Test.YtmoafjgogbcoeaaPioLines
import Derived.Test.YtmoafjgogbcoeaaPioNew
namespace Go.Proofs.Ytmoafjgogbcoeaa
open Go.RowKit
set_option linter.unusedVariables false
set_option linter.unusedSimpArgs false
set_option maxRecDepth 100000
theorem slice_cells (W : World) (l : List Int) (t : TypeId) : ∀ i, i < l.length → ∀ W', Below (W.alloc (.cells (l.map (Value.int .u8)).toArray t)).heap.size (W.alloc (.cells (l.map (Value.int .u8)).toArray t)) W' → W'.cell? ((⟨W.heap.size, 0, none⟩ : Addr).add i) = some (.int .u8 (l.getD i 0)) := by
  intro i hi W' hb
  rw [Addr.add_mid]
  have h := range_new W (l.map (Value.int .u8)).toArray t
  rw [hb.cell (p := ⟨W.heap.size, 0 + i, none⟩) (by simp)]
  exact h i _ (by simp [hi, List.getD_eq_getElem?_getD])
def M.awP : M.Pi2 := M.toldP M.pio0 2 [32, 207, 255, 183, 254]
def M.awQ : M.Pi2 := M.pLines M.awP 0 1
def M.awO : M.Pi2 := M.pWrite (M.toldP M.pio0 3 [15]) 1 9
def M.awS : M.Pi2 := M.pStrobe M.pio0 1 7
theorem paw_facts : M.pPend M.awP = -1 ∧ M.pPend M.awQ = 0 ∧ M.pAckV M.awQ = 32 ∧ M.pPend (M.pAck M.awQ) = -1 ∧ M.awO.p1.ready = true ∧ M.pReadV M.awO 1 = 9 ∧ M.pReadV M.awS 1 = 7 := by decide +kernel
theorem pio0_ok : M.pio0.ok := by simp [M.Pi2.ok, M.Po.ok, M.pio0, M.po0]
set_option maxHeartbeats 8000000 in
theorem pawake_any (w : World) : Calls Try.prog 43 #[] w fun e w' => e = .returned (.bool true) ∧ Below w.heap.size w w' := by
  obtain ⟨f1, f2, f3, f4, f5, f6, f7⟩ := paw_facts
  have okP : M.awP.ok := M.toldP_ok pio0_ok (by simp)
  have okT : (M.toldP M.pio0 3 [15]).ok := M.toldP_ok pio0_ok (by simp)
  have h0 := fun W => pnew_any W
  have h1 := fun W => told_any M.pio0 pio0_ok 2 [32, 207, 255, 183, 254] (by simp) ⟨W.heap.size, 0, none⟩ 5 (by decide) (W.alloc (.cells #[.int .u8 32, .int .u8 207, .int .u8 255, .int .u8 183, .int .u8 254] 5)) (slice_cells W [32, 207, 255, 183, 254] 5)
  have h2 := fun W => plines_any M.awP okP 0 1 (by decide) (by decide) W
  have h3 := fun W => pack_any M.awQ W
  have h4 := fun W => told_any M.pio0 pio0_ok 3 [15] (by simp) ⟨W.heap.size, 0, none⟩ 1 (by decide) (W.alloc (.cells #[.int .u8 15] 5)) (slice_cells W [15] 5)
  have h5 := fun W => pwrite_any (M.toldP M.pio0 3 [15]) okT 1 9 (by decide) (by decide) W
  have h6 := fun W => pread_any M.awO 1 W
  have h7 := fun W => pstrobe_any M.pio0 pio0_ok 1 7 (by decide) (by decide) W
  have h8 := fun W => pread_any M.awS 1 W
  have h9 := fun W => ppend_any M.awP W
  have h10 := fun W => ppend_any M.awQ W
  have h11 := fun W => ppend_any (M.pAck M.awQ) W
  rw [f1] at h9
  rw [f2] at h10
  rw [f3] at h3
  rw [f4] at h11
  rw [f6] at h6
  rw [f7] at h8
  clear f1 f2 f3 f4 f6 f7 okP okT
  have q1 : M.toldP M.pio0 2 [32, 207, 255, 183, 254] = M.awP := rfl
  have q2 : M.pLines M.awP 0 1 = M.awQ := rfl
  have q3 : M.pWrite (M.toldP M.pio0 3 [15]) 1 9 = M.awO := rfl
  have q4 : M.pStrobe M.pio0 1 7 = M.awS := rfl
  rw [q1] at h1
  rw [q2] at h2
  rw [q3] at h5
  rw [q4] at h7
  clear q1 q2 q3 q4
  generalize M.pReadP M.awO 1 = X1 at h6
  generalize M.pReadP M.awS 1 = X2 at h8
  generalize M.pAck M.awQ = R at h3 h11
  generalize M.awS = S at h7 h8
  generalize M.awO = O at h5 h6 f5
  generalize M.awQ = Q at h2 h3 h10
  generalize M.awP = P at h1 h2 h9
  generalize M.toldP M.pio0 3 [15] = T at h4 h5
  generalize M.pio0 = N at h0 h1 h4 h7
  have H0 := Lib.hid h0
  have H1 := Lib.hid h1
  have H2 := Lib.hid h2
  have H3 := Lib.hid h3
  have H4 := Lib.hid h4
  have H5 := Lib.hid h5
  have H6 := Lib.hid h6
  have H7 := Lib.hid h7
  have H8 := Lib.hid h8
  have H9 := Lib.hid h9
  have H10 := Lib.hid h10
  have H11 := Lib.hid h11
  clear h0 h1 h2 h3 h4 h5 h6 h7 h8 h9 h10 h11
  have hS := St.start w.heap.size 0 0 w
  go_enter Try.func43, Try.ntmps43
  go_wp2_with fail
  refine (H0.out _).mono ?_
  rintro e w1 ⟨rfl, hb⟩
  replace hS := hS.call hb
  clear hb
  go_wp2_with fail
  refine (H1.out _).mono ?_
  rintro e w1 ⟨rfl, hb⟩
  replace hS := (hS.new _ _).rest.call hb
  clear hb
  go_wp2_with (first
  | ((with_reducible refine to_alloc 80 rfl ?_); refine Wl_alloc hS (fun _ => by rfl) _ zero80r ?_; clear hS; intro bB wW hS; simp only [Act.put, List.setIfInBounds_toArray, List.set_cons_zero, List.set_cons_succ])
  | ((with_reducible refine to_load 80 rfl ?_); refine Wl_load hS (fun _ => by rfl) _ _ rfl _ Try.underlying80 rfl ?_; (repeat (first | (refine Row.here ⟨info80c _, ?_⟩) | refine Row.next ?_)); (with_reducible show wpList _ _ _ _ _ _); simp only [Act.put, List.setIfInBounds_toArray, List.set_cons_zero, List.set_cons_succ])
  | ((with_reducible refine to_store 80 rfl ?_); refine Wl_store hS (fun _ => by rfl) _ _ _ rfl rfl (info80c _) (pi_one _) ?_; (repeat (first | refine Turn.here rfl ?_ | refine Turn.next ?_)); clear hS; intro wW hS; try simp only [Act.put, List.setIfInBounds_toArray, List.set_cons_zero, List.set_cons_succ])
  | ((with_reducible refine to_load 4 rfl ?_); refine Wl_load1 hS (fun _ => by rfl) _ _ rfl sc4 ?_; (repeat (first | refine Look.here (of_decide_eq_true rfl) rfl ?_ | refine Look.next ?_)); (with_reducible show wpList _ _ _ _ _ _); simp only [Act.put, List.setIfInBounds_toArray, List.set_cons_zero, List.set_cons_succ]))
  refine (H2.out _).mono ?_
  rintro e w1 ⟨rfl, hb⟩
  replace hS := hS.call hb
  clear hb
  go_wp2_with (first
  | ((with_reducible refine to_alloc 80 rfl ?_); refine Wl_alloc hS (fun _ => by rfl) _ zero80r ?_; clear hS; intro bB wW hS; simp only [Act.put, List.setIfInBounds_toArray, List.set_cons_zero, List.set_cons_succ])
  | ((with_reducible refine to_load 80 rfl ?_); refine Wl_load hS (fun _ => by rfl) _ _ rfl _ Try.underlying80 rfl ?_; (repeat (first | (refine Row.here ⟨info80c _, ?_⟩) | refine Row.next ?_)); (with_reducible show wpList _ _ _ _ _ _); simp only [Act.put, List.setIfInBounds_toArray, List.set_cons_zero, List.set_cons_succ])
  | ((with_reducible refine to_store 80 rfl ?_); refine Wl_store hS (fun _ => by rfl) _ _ _ rfl rfl (info80c _) (pi_one _) ?_; (repeat (first | refine Turn.here rfl ?_ | refine Turn.next ?_)); clear hS; intro wW hS; try simp only [Act.put, List.setIfInBounds_toArray, List.set_cons_zero, List.set_cons_succ])
  | ((with_reducible refine to_load 4 rfl ?_); refine Wl_load1 hS (fun _ => by rfl) _ _ rfl sc4 ?_; (repeat (first | refine Look.here (of_decide_eq_true rfl) rfl ?_ | refine Look.next ?_)); (with_reducible show wpList _ _ _ _ _ _); simp only [Act.put, List.setIfInBounds_toArray, List.set_cons_zero, List.set_cons_succ]))
  refine (H3.out _).mono ?_
  rintro e w1 ⟨rfl, hb⟩
  replace hS := hS.call hb
  clear hb
  go_wp2_with (first
  | ((with_reducible refine to_alloc 80 rfl ?_); refine Wl_alloc hS (fun _ => by rfl) _ zero80r ?_; clear hS; intro bB wW hS; simp only [Act.put, List.setIfInBounds_toArray, List.set_cons_zero, List.set_cons_succ])
  | ((with_reducible refine to_load 80 rfl ?_); refine Wl_load hS (fun _ => by rfl) _ _ rfl _ Try.underlying80 rfl ?_; (repeat (first | (refine Row.here ⟨info80c _, ?_⟩) | refine Row.next ?_)); (with_reducible show wpList _ _ _ _ _ _); simp only [Act.put, List.setIfInBounds_toArray, List.set_cons_zero, List.set_cons_succ])
  | ((with_reducible refine to_store 80 rfl ?_); refine Wl_store hS (fun _ => by rfl) _ _ _ rfl rfl (info80c _) (pi_one _) ?_; (repeat (first | refine Turn.here rfl ?_ | refine Turn.next ?_)); clear hS; intro wW hS; try simp only [Act.put, List.setIfInBounds_toArray, List.set_cons_zero, List.set_cons_succ])
  | ((with_reducible refine to_load 4 rfl ?_); refine Wl_load1 hS (fun _ => by rfl) _ _ rfl sc4 ?_; (repeat (first | refine Look.here (of_decide_eq_true rfl) rfl ?_ | refine Look.next ?_)); (with_reducible show wpList _ _ _ _ _ _); simp only [Act.put, List.setIfInBounds_toArray, List.set_cons_zero, List.set_cons_succ]))
  refine (H0.out _).mono ?_
  rintro e w1 ⟨rfl, hb⟩
  replace hS := hS.call hb
  clear hb
  go_wp2_with fail
  refine (H4.out _).mono ?_
  rintro e w1 ⟨rfl, hb⟩
  replace hS := (hS.new _ _).rest.call hb
  clear hb
  go_wp2_with (first
  | ((with_reducible refine to_alloc 80 rfl ?_); refine Wl_alloc hS (fun _ => by rfl) _ zero80r ?_; clear hS; intro bB wW hS; simp only [Act.put, List.setIfInBounds_toArray, List.set_cons_zero, List.set_cons_succ])
  | ((with_reducible refine to_load 80 rfl ?_); refine Wl_load hS (fun _ => by rfl) _ _ rfl _ Try.underlying80 rfl ?_; (repeat (first | (refine Row.here ⟨info80c _, ?_⟩) | refine Row.next ?_)); (with_reducible show wpList _ _ _ _ _ _); simp only [Act.put, List.setIfInBounds_toArray, List.set_cons_zero, List.set_cons_succ])
  | ((with_reducible refine to_store 80 rfl ?_); refine Wl_store hS (fun _ => by rfl) _ _ _ rfl rfl (info80c _) (pi_one _) ?_; (repeat (first | refine Turn.here rfl ?_ | refine Turn.next ?_)); clear hS; intro wW hS; try simp only [Act.put, List.setIfInBounds_toArray, List.set_cons_zero, List.set_cons_succ])
  | ((with_reducible refine to_load 4 rfl ?_); refine Wl_load1 hS (fun _ => by rfl) _ _ rfl sc4 ?_; (repeat (first | refine Look.here (of_decide_eq_true rfl) rfl ?_ | refine Look.next ?_)); (with_reducible show wpList _ _ _ _ _ _); simp only [Act.put, List.setIfInBounds_toArray, List.set_cons_zero, List.set_cons_succ]))
  refine (H5.out _).mono ?_
  rintro e w1 ⟨rfl, hb⟩
  replace hS := hS.call hb
  clear hb
  go_wp2_with (first
  | ((with_reducible refine to_alloc 80 rfl ?_); refine Wl_alloc hS (fun _ => by rfl) _ zero80r ?_; clear hS; intro bB wW hS; simp only [Act.put, List.setIfInBounds_toArray, List.set_cons_zero, List.set_cons_succ])
  | ((with_reducible refine to_load 80 rfl ?_); refine Wl_load hS (fun _ => by rfl) _ _ rfl _ Try.underlying80 rfl ?_; (repeat (first | (refine Row.here ⟨info80c _, ?_⟩) | refine Row.next ?_)); (with_reducible show wpList _ _ _ _ _ _); simp only [Act.put, List.setIfInBounds_toArray, List.set_cons_zero, List.set_cons_succ])
  | ((with_reducible refine to_store 80 rfl ?_); refine Wl_store hS (fun _ => by rfl) _ _ _ rfl rfl (info80c _) (pi_one _) ?_; (repeat (first | refine Turn.here rfl ?_ | refine Turn.next ?_)); clear hS; intro wW hS; try simp only [Act.put, List.setIfInBounds_toArray, List.set_cons_zero, List.set_cons_succ])
  | ((with_reducible refine to_load 4 rfl ?_); refine Wl_load1 hS (fun _ => by rfl) _ _ rfl sc4 ?_; (repeat (first | refine Look.here (of_decide_eq_true rfl) rfl ?_ | refine Look.next ?_)); (with_reducible show wpList _ _ _ _ _ _); simp only [Act.put, List.setIfInBounds_toArray, List.set_cons_zero, List.set_cons_succ]))
  refine (H6.out _).mono ?_
  rintro e w1 ⟨rfl, hb⟩
  replace hS := hS.call hb
  clear hb
  go_wp2_with (first
  | ((with_reducible refine to_alloc 80 rfl ?_); refine Wl_alloc hS (fun _ => by rfl) _ zero80r ?_; clear hS; intro bB wW hS; simp only [Act.put, List.setIfInBounds_toArray, List.set_cons_zero, List.set_cons_succ])
  | ((with_reducible refine to_load 80 rfl ?_); refine Wl_load hS (fun _ => by rfl) _ _ rfl _ Try.underlying80 rfl ?_; (repeat (first | (refine Row.here ⟨info80c _, ?_⟩) | refine Row.next ?_)); (with_reducible show wpList _ _ _ _ _ _); simp only [Act.put, List.setIfInBounds_toArray, List.set_cons_zero, List.set_cons_succ])
  | ((with_reducible refine to_store 80 rfl ?_); refine Wl_store hS (fun _ => by rfl) _ _ _ rfl rfl (info80c _) (pi_one _) ?_; (repeat (first | refine Turn.here rfl ?_ | refine Turn.next ?_)); clear hS; intro wW hS; try simp only [Act.put, List.setIfInBounds_toArray, List.set_cons_zero, List.set_cons_succ])
  | ((with_reducible refine to_load 4 rfl ?_); refine Wl_load1 hS (fun _ => by rfl) _ _ rfl sc4 ?_; (repeat (first | refine Look.here (of_decide_eq_true rfl) rfl ?_ | refine Look.next ?_)); (with_reducible show wpList _ _ _ _ _ _); simp only [Act.put, List.setIfInBounds_toArray, List.set_cons_zero, List.set_cons_succ]))
  refine (H0.out _).mono ?_
  rintro e w1 ⟨rfl, hb⟩
  replace hS := hS.call hb
  clear hb
  go_wp2_with (first
  | ((with_reducible refine to_alloc 80 rfl ?_); refine Wl_alloc hS (fun _ => by rfl) _ zero80r ?_; clear hS; intro bB wW hS; simp only [Act.put, List.setIfInBounds_toArray, List.set_cons_zero, List.set_cons_succ])
  | ((with_reducible refine to_load 80 rfl ?_); refine Wl_load hS (fun _ => by rfl) _ _ rfl _ Try.underlying80 rfl ?_; (repeat (first | (refine Row.here ⟨info80c _, ?_⟩) | refine Row.next ?_)); (with_reducible show wpList _ _ _ _ _ _); simp only [Act.put, List.setIfInBounds_toArray, List.set_cons_zero, List.set_cons_succ])
  | ((with_reducible refine to_store 80 rfl ?_); refine Wl_store hS (fun _ => by rfl) _ _ _ rfl rfl (info80c _) (pi_one _) ?_; (repeat (first | refine Turn.here rfl ?_ | refine Turn.next ?_)); clear hS; intro wW hS; try simp only [Act.put, List.setIfInBounds_toArray, List.set_cons_zero, List.set_cons_succ])
  | ((with_reducible refine to_load 4 rfl ?_); refine Wl_load1 hS (fun _ => by rfl) _ _ rfl sc4 ?_; (repeat (first | refine Look.here (of_decide_eq_true rfl) rfl ?_ | refine Look.next ?_)); (with_reducible show wpList _ _ _ _ _ _); simp only [Act.put, List.setIfInBounds_toArray, List.set_cons_zero, List.set_cons_succ]))
  refine (H7.out _).mono ?_
  rintro e w1 ⟨rfl, hb⟩
  replace hS := hS.call hb
  clear hb
  go_wp2_with (first
  | ((with_reducible refine to_alloc 80 rfl ?_); refine Wl_alloc hS (fun _ => by rfl) _ zero80r ?_; clear hS; intro bB wW hS; simp only [Act.put, List.setIfInBounds_toArray, List.set_cons_zero, List.set_cons_succ])
  | ((with_reducible refine to_load 80 rfl ?_); refine Wl_load hS (fun _ => by rfl) _ _ rfl _ Try.underlying80 rfl ?_; (repeat (first | (refine Row.here ⟨info80c _, ?_⟩) | refine Row.next ?_)); (with_reducible show wpList _ _ _ _ _ _); simp only [Act.put, List.setIfInBounds_toArray, List.set_cons_zero, List.set_cons_succ])
  | ((with_reducible refine to_store 80 rfl ?_); refine Wl_store hS (fun _ => by rfl) _ _ _ rfl rfl (info80c _) (pi_one _) ?_; (repeat (first | refine Turn.here rfl ?_ | refine Turn.next ?_)); clear hS; intro wW hS; try simp only [Act.put, List.setIfInBounds_toArray, List.set_cons_zero, List.set_cons_succ])
  | ((with_reducible refine to_load 4 rfl ?_); refine Wl_load1 hS (fun _ => by rfl) _ _ rfl sc4 ?_; (repeat (first | refine Look.here (of_decide_eq_true rfl) rfl ?_ | refine Look.next ?_)); (with_reducible show wpList _ _ _ _ _ _); simp only [Act.put, List.setIfInBounds_toArray, List.set_cons_zero, List.set_cons_succ]))
  refine (H8.out _).mono ?_
  rintro e w1 ⟨rfl, hb⟩
  replace hS := hS.call hb
  clear hb
  go_wp2_with (first
  | ((with_reducible refine to_alloc 80 rfl ?_); refine Wl_alloc hS (fun _ => by rfl) _ zero80r ?_; clear hS; intro bB wW hS; simp only [Act.put, List.setIfInBounds_toArray, List.set_cons_zero, List.set_cons_succ])
  | ((with_reducible refine to_load 80 rfl ?_); refine Wl_load hS (fun _ => by rfl) _ _ rfl _ Try.underlying80 rfl ?_; (repeat (first | (refine Row.here ⟨info80c _, ?_⟩) | refine Row.next ?_)); (with_reducible show wpList _ _ _ _ _ _); simp only [Act.put, List.setIfInBounds_toArray, List.set_cons_zero, List.set_cons_succ])
  | ((with_reducible refine to_store 80 rfl ?_); refine Wl_store hS (fun _ => by rfl) _ _ _ rfl rfl (info80c _) (pi_one _) ?_; (repeat (first | refine Turn.here rfl ?_ | refine Turn.next ?_)); clear hS; intro wW hS; try simp only [Act.put, List.setIfInBounds_toArray, List.set_cons_zero, List.set_cons_succ])
  | ((with_reducible refine to_load 4 rfl ?_); refine Wl_load1 hS (fun _ => by rfl) _ _ rfl sc4 ?_; (repeat (first | refine Look.here (of_decide_eq_true rfl) rfl ?_ | refine Look.next ?_)); (with_reducible show wpList _ _ _ _ _ _); simp only [Act.put, List.setIfInBounds_toArray, List.set_cons_zero, List.set_cons_succ]))
  refine (H9.out _).mono ?_
  rintro e w1 ⟨rfl, hb⟩
  replace hS := hS.call hb
  clear hb
  go_wp2_with (first
  | ((with_reducible refine to_alloc 80 rfl ?_); refine Wl_alloc hS (fun _ => by rfl) _ zero80r ?_; clear hS; intro bB wW hS; simp only [Act.put, List.setIfInBounds_toArray, List.set_cons_zero, List.set_cons_succ])
  | ((with_reducible refine to_load 80 rfl ?_); refine Wl_load hS (fun _ => by rfl) _ _ rfl _ Try.underlying80 rfl ?_; (repeat (first | (refine Row.here ⟨info80c _, ?_⟩) | refine Row.next ?_)); (with_reducible show wpList _ _ _ _ _ _); simp only [Act.put, List.setIfInBounds_toArray, List.set_cons_zero, List.set_cons_succ])
  | ((with_reducible refine to_store 80 rfl ?_); refine Wl_store hS (fun _ => by rfl) _ _ _ rfl rfl (info80c _) (pi_one _) ?_; (repeat (first | refine Turn.here rfl ?_ | refine Turn.next ?_)); clear hS; intro wW hS; try simp only [Act.put, List.setIfInBounds_toArray, List.set_cons_zero, List.set_cons_succ])
  | ((with_reducible refine to_load 4 rfl ?_); refine Wl_load1 hS (fun _ => by rfl) _ _ rfl sc4 ?_; (repeat (first | refine Look.here (of_decide_eq_true rfl) rfl ?_ | refine Look.next ?_)); (with_reducible show wpList _ _ _ _ _ _); simp only [Act.put, List.setIfInBounds_toArray, List.set_cons_zero, List.set_cons_succ]))
  refine (H10.out _).mono ?_
  rintro e w1 ⟨rfl, hb⟩
  replace hS := hS.call hb
  clear hb
  go_wp2_with (first
  | ((with_reducible refine to_alloc 80 rfl ?_); refine Wl_alloc hS (fun _ => by rfl) _ zero80r ?_; clear hS; intro bB wW hS; simp only [Act.put, List.setIfInBounds_toArray, List.set_cons_zero, List.set_cons_succ])
  | ((with_reducible refine to_load 80 rfl ?_); refine Wl_load hS (fun _ => by rfl) _ _ rfl _ Try.underlying80 rfl ?_; (repeat (first | (refine Row.here ⟨info80c _, ?_⟩) | refine Row.next ?_)); (with_reducible show wpList _ _ _ _ _ _); simp only [Act.put, List.setIfInBounds_toArray, List.set_cons_zero, List.set_cons_succ])
  | ((with_reducible refine to_store 80 rfl ?_); refine Wl_store hS (fun _ => by rfl) _ _ _ rfl rfl (info80c _) (pi_one _) ?_; (repeat (first | refine Turn.here rfl ?_ | refine Turn.next ?_)); clear hS; intro wW hS; try simp only [Act.put, List.setIfInBounds_toArray, List.set_cons_zero, List.set_cons_succ])
  | ((with_reducible refine to_load 4 rfl ?_); refine Wl_load1 hS (fun _ => by rfl) _ _ rfl sc4 ?_; (repeat (first | refine Look.here (of_decide_eq_true rfl) rfl ?_ | refine Look.next ?_)); (with_reducible show wpList _ _ _ _ _ _); simp only [Act.put, List.setIfInBounds_toArray, List.set_cons_zero, List.set_cons_succ]))
  refine (H11.out _).mono ?_
  rintro e w1 ⟨rfl, hb⟩
  replace hS := hS.call hb
  clear hb
  go_wp2_with (first
  | ((with_reducible refine to_alloc 80 rfl ?_); refine Wl_alloc hS (fun _ => by rfl) _ zero80r ?_; clear hS; intro bB wW hS; simp only [Act.put, List.setIfInBounds_toArray, List.set_cons_zero, List.set_cons_succ])
  | ((with_reducible refine to_load 80 rfl ?_); refine Wl_load hS (fun _ => by rfl) _ _ rfl _ Try.underlying80 rfl ?_; (repeat (first | (refine Row.here ⟨info80c _, ?_⟩) | refine Row.next ?_)); (with_reducible show wpList _ _ _ _ _ _); simp only [Act.put, List.setIfInBounds_toArray, List.set_cons_zero, List.set_cons_succ])
  | ((with_reducible refine to_store 80 rfl ?_); refine Wl_store hS (fun _ => by rfl) _ _ _ rfl rfl (info80c _) (pi_one _) ?_; (repeat (first | refine Turn.here rfl ?_ | refine Turn.next ?_)); clear hS; intro wW hS; try simp only [Act.put, List.setIfInBounds_toArray, List.set_cons_zero, List.set_cons_succ])
  | ((with_reducible refine to_load 4 rfl ?_); refine Wl_load1 hS (fun _ => by rfl) _ _ rfl sc4 ?_; (repeat (first | refine Look.here (of_decide_eq_true rfl) rfl ?_ | refine Look.next ?_)); (with_reducible show wpList _ _ _ _ _ _); simp only [Act.put, List.setIfInBounds_toArray, List.set_cons_zero, List.set_cons_succ]))
  go_returns
  exact ⟨rfl, hS.below⟩
end Go.Proofs.Ytmoafjgogbcoeaa
