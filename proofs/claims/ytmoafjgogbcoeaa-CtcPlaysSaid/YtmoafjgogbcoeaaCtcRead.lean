/- ctc.Read, ctc.Pending, charabancref23.Read, charabancref23.Pending, each by its contract. -/
import Derived.Test.YtmoafjgogbcoeaaCtcBox
namespace Go.Proofs.Ytmoafjgogbcoeaa
open Go.RowKit
set_option linter.unusedVariables false
set_option maxRecDepth 100000

/-- The four channels as one array. -/
def M.Ct.a4 (c : M.Ct) : Array Value := (c.c0.v ++ c.c1.v ++ c.c2.v ++ c.c3.v).toArray
theorem a4_size (c : M.Ct) : c.a4.size = 32 := rfl
theorem info45 : (Try.prog.info? 45).map (·.size) = some 32 := by kernel_rfl
theorem info45c (c : M.Ct) : (Try.prog.info? 45).map (·.size) = some c.a4.size := by rw [a4_size]; exact info45
theorem range_a4 {W : World} {B : Nat} {c : M.Ct} (h : W.rangeAt B 0 c.a.toList) : W.rangeAt B 0 c.a4.toList := fun j v hv => h j v (by
  have hj : j < 32 := (List.getElem?_eq_some_iff.1 hv).1
  show (c.c0.v ++ c.c1.v ++ c.c2.v ++ c.c3.v ++ [.int .u8 c.vec])[j]? = some v
  rw [List.getElem?_append_left (by show j < 32; exact hj)]
  exact hv)
theorem pend_cell {W : World} {B : Nat} {x : M.Ch} (h : W.rangeAt B 0 x.a.toList) : W.cell? ⟨B, 7, none⟩ = some (.bool x.pend) := h 7 _ rfl
theorem tmod256 (n : Int) : Int.tmod (wrap64 (Int.tmod n 256 + 256)) 256 % 256 = n % 256 := by
  have h1 := Int.lt_tmod_of_pos n (show (0 : Int) < 256 by decide)
  have h2 := Int.tmod_lt_of_pos n (show (0 : Int) < 256 by decide)
  have h3 := Int.tmod_add_mul_tdiv n 256
  have hw : wrap64 (Int.tmod n 256 + 256) = Int.tmod n 256 + 256 := by unfold wrap64; omega
  rw [hw, Int.tmod_eq_emod_of_nonneg (by omega)]
  omega
theorem cnt_cell (c : M.Ct) (k : Nat) (hk : k < 4) : c.a[8 * k + 2]'(by rw [ct_size]; omega) = .int .i64 (c.at k).cnt := by
  rcases (show k = 0 ∨ k = 1 ∨ k = 2 ∨ k = 3 by omega) with rfl | rfl | rfl | rfl <;> rfl
set_option maxHeartbeats 1000000 in
theorem cread_any (c : M.Ct) (hc : c.ok) (k : Int) (w : World) : Calls Try.prog 34 #[.agg c.a, .int .i64 k] w fun e w' => e = .returned (.int .u8 (M.read c k)) ∧ Below w.heap.size w w' := by
  have hs := ct_size c
  by_cases h0 : k < 0
  · have hr := Lib.hid (show M.read c k = 0 by simp [M.read, h0])
    go_enter Try.func34, Try.ntmps34
    go_wp2_with fail
    go_returns
    exact ⟨ret_int hr.out.symm, by go_grown⟩
  · by_cases h3 : 3 < k
    · have hr := Lib.hid (show M.read c k = 0 by simp [M.read, h3])
      go_enter Try.func34, Try.ntmps34
      go_wp2_with fail
      go_returns
      exact ⟨ret_int hr.out.symm, by go_grown⟩
    · have hk4 : k = 0 ∨ k = 1 ∨ k = 2 ∨ k = 3 := by omega
      have hr := Lib.hid (show M.read c k = (c.at k.toNat).cnt % 256 by simp [M.read, h0, h3])
      have g0 : c.a[2]'(by rw [hs]; decide) = .int .i64 c.c0.cnt := rfl
      have g1 : c.a[10]'(by rw [hs]; decide) = .int .i64 c.c1.cnt := rfl
      have g2 : c.a[18]'(by rw [hs]; decide) = .int .i64 c.c2.cnt := rfl
      have g3 : c.a[26]'(by rw [hs]; decide) = .int .i64 c.c3.cnt := rfl
      clear h0 h3
      rcases hk4 with rfl | rfl | rfl | rfl
      all_goals
        go_enter Try.func34, Try.ntmps34
        go_wp2_with fail
        go_returns
        exact ⟨ret_int hr.out.symm, by go_grown⟩
set_option maxHeartbeats 1000000 in
theorem rread_any (c : M.Ct) (hc : c.ok) (k : Int) (w : World) : Calls Try.prog 35 #[.agg c.a, .int .i64 k] w fun e w' => e = .returned (.int .u8 (M.read c k)) ∧ Below w.heap.size w w' := by
  have hs := ct_size c
  by_cases h0 : k < 0
  · have hr := Lib.hid (show M.read c k = 0 by simp [M.read, h0])
    go_enter Try.func35, Try.ntmps35
    go_wp2_with fail
    go_returns
    exact ⟨ret_int hr.out.symm, by go_grown⟩
  · by_cases h3 : 3 < k
    · have hr := Lib.hid (show M.read c k = 0 by simp [M.read, h3])
      go_enter Try.func35, Try.ntmps35
      go_wp2_with fail
      go_returns
      exact ⟨ret_int hr.out.symm, by go_grown⟩
    · have hk4 : k = 0 ∨ k = 1 ∨ k = 2 ∨ k = 3 := by omega
      have hr := Lib.hid (show M.read c k = (c.at k.toNat).cnt % 256 by simp [M.read, h0, h3])
      have g0 : c.a[2]'(by rw [hs]; decide) = .int .i64 c.c0.cnt := rfl
      have g1 : c.a[10]'(by rw [hs]; decide) = .int .i64 c.c1.cnt := rfl
      have g2 : c.a[18]'(by rw [hs]; decide) = .int .i64 c.c2.cnt := rfl
      have g3 : c.a[26]'(by rw [hs]; decide) = .int .i64 c.c3.cnt := rfl
      clear h0 h3
      rcases hk4 with rfl | rfl | rfl | rfl
      all_goals
        go_enter Try.func35, Try.ntmps35
        go_wp2_with fail
        go_returns
        exact ⟨ret_int ((tmod256 _).trans hr.out.symm), by go_grown⟩
set_option maxHeartbeats 1000000 in
theorem rpend_any (c : M.Ct) (w : World) : Calls Try.prog 41 #[.agg c.a] w fun e w' => e = .returned (.int .i64 (M.pendC c)) ∧ Below w.heap.size w w' := by
  have hs := ct_size c
  have g0 : c.a[7]'(by rw [hs]; decide) = .bool c.c0.pend := rfl
  have g1 : c.a[15]'(by rw [hs]; decide) = .bool c.c1.pend := rfl
  have g2 : c.a[23]'(by rw [hs]; decide) = .bool c.c2.pend := rfl
  have g3 : c.a[31]'(by rw [hs]; decide) = .bool c.c3.pend := rfl
  have hp : M.pendC c = if c.c0.pend then 0 else if c.c1.pend then 1 else if c.c2.pend then 2 else if c.c3.pend then 3 else -1 := rfl
  cases h0 : c.c0.pend with
  | true =>
    have hr := Lib.hid (show M.pendC c = 0 by simp [hp, h0])
    rw [h0] at g0
    clear hp h0
    go_enter Try.func41, Try.ntmps41
    go_wp2_with fail
    go_rounds 5
    go_returns
    exact ⟨ret_int hr.out.symm, by go_grown⟩
  | false =>
    cases h1 : c.c1.pend with
    | true =>
      have hr := Lib.hid (show M.pendC c = 1 by simp [hp, h0, h1])
      rw [h0] at g0
      rw [h1] at g1
      clear hp h0 h1
      go_enter Try.func41, Try.ntmps41
      go_wp2_with fail
      go_rounds 5
      go_returns
      exact ⟨ret_int hr.out.symm, by go_grown⟩
    | false =>
      cases h2 : c.c2.pend with
      | true =>
        have hr := Lib.hid (show M.pendC c = 2 by simp [hp, h0, h1, h2])
        rw [h0] at g0
        rw [h1] at g1
        rw [h2] at g2
        clear hp h0 h1 h2
        go_enter Try.func41, Try.ntmps41
        go_wp2_with fail
        go_rounds 5
        go_returns
        exact ⟨ret_int hr.out.symm, by go_grown⟩
      | false =>
        have hr := Lib.hid (show M.pendC c = (bif c.c3.pend then 3 else -1) by rw [hp, h0, h1, h2]; cases c.c3.pend <;> rfl)
        rw [h0] at g0
        rw [h1] at g1
        rw [h2] at g2
        clear hp h0 h1 h2
        cases h3 : c.c3.pend
        all_goals
          rw [h3] at g3 hr
          clear h3
          go_enter Try.func41, Try.ntmps41
          go_wp2_with fail
          go_rounds 5
          go_returns
          exact ⟨ret_int hr.out.symm, by go_grown⟩
end Go.Proofs.Ytmoafjgogbcoeaa
