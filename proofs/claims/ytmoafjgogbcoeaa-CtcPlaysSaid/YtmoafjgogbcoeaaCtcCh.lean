/- A counter's methods behind a pointer ((*ctc.Channel).has, whole, scale, down, tick, told), each by its contract. -/
import Derived.Test.YtmoafjgogbcoeaaBits
import Derived.Test.YtmoafjgogbcoeaaTouch
import Derived.Test.YtmoafjgogbcoeaaCtcM
import Derived.BigQuiet
namespace Go.Proofs.Ytmoafjgogbcoeaa
open Go.RowKit
set_option linter.unusedVariables false

theorem chas_any (B o : Nat) (b n : Int) (h0 : 0 ≤ b) (h1 : b ≤ 255) (w : World) (c0 : w.cell? ⟨B, o, none⟩ = some (.int .u8 b)) : Calls Try.prog 81 #[.pointer (some ⟨B, o, none⟩), .int .i64 n] w fun e w' => e = .returned (.bool (M.is b n)) ∧ w = w' := by
  go_enter Try.func81, Try.ntmps81
  go_wp2_with fail
  refine (is_any b n h0 h1 _).mono ?_
  rintro e w1 ⟨rfl, rfl⟩
  go_wp2_with fail
  go_returns
  exact ⟨rfl, rfl⟩
theorem cwhole_any (B o : Nat) (b : Int) (h0 : 0 ≤ b) (h1 : b ≤ 255) (w : World) (c1 : w.cell? ⟨B, o + 1, none⟩ = some (.int .u8 b)) : Calls Try.prog 80 #[.pointer (some ⟨B, o, none⟩)] w fun e w' => e = .returned (.int .i64 (M.whole b)) ∧ w = w' := by
  have hw := Lib.hid (M.whole_code h0 h1)
  go_enter Try.func80, Try.ntmps80
  go_wp2_with fail
  go_returns
  exact ⟨ret_int hw.out, rfl⟩
theorem cscale_any (B o : Nat) (x : M.Ch) (h0 : 0 ≤ x.con) (h1 : x.con ≤ 255) (w : World) (c0 : w.cell? ⟨B, o, none⟩ = some (.int .u8 x.con)) : Calls Try.prog 84 #[.pointer (some ⟨B, o, none⟩)] w fun e w' => e = .returned (.int .i64 (M.scale x)) ∧ w = w' := by
  have hc := chas_any B o x.con 5 h0 h1 w c0
  have hs : M.scale x = if M.is x.con 5 then 256 else 16 := rfl
  revert hc hs
  cases M.is x.con 5
  all_goals
    intro hc hs
    have Hs := Lib.hid hs
    have Hc := Lib.hid hc
    clear hc hs
    go_enter Try.func84, Try.ntmps84
    go_wp2_with fail
    refine Hc.out.mono ?_
    rintro e w1 ⟨rfl, rfl⟩
    go_wp2_with fail
    go_returns
    exact ⟨ret_int Hs.out.symm, rfl⟩
/-- A channel lies in block B from offset o on, and may be written. -/
def ChAt (w : World) (B o : Nat) (x : M.Ch) : Prop := w.rangeAt B o x.v ∧ Free w B o 8 ∧ B < w.heap.size
theorem ch_cells {w : World} {B o : Nat} {x : M.Ch} (h : w.rangeAt B o x.v) : w.cell? ⟨B, o, none⟩ = some (.int .u8 x.con) ∧ w.cell? ⟨B, o + 1, none⟩ = some (.int .u8 x.cst) ∧ w.cell? ⟨B, o + 2, none⟩ = some (.int .i64 x.cnt) ∧ w.cell? ⟨B, o + 3, none⟩ = some (.int .i64 x.pre)
    ∧ w.cell? ⟨B, o + 4, none⟩ = some (.bool x.runs) ∧ w.cell? ⟨B, o + 5, none⟩ = some (.bool x.waits) ∧ w.cell? ⟨B, o + 6, none⟩ = some (.bool x.wants) ∧ w.cell? ⟨B, o + 7, none⟩ = some (.bool x.pend) :=
  ⟨h 0 _ rfl, h 1 _ rfl, h 2 _ rfl, h 3 _ rfl, h 4 _ rfl, h 5 _ rfl, h 6 _ rfl, h 7 _ rfl⟩
theorem ch_free {w : World} {B o : Nat} (h : Free w B o 8) : w.frozen? ⟨B, o, none⟩ = false ∧ w.frozen? ⟨B, o + 1, none⟩ = false ∧ w.frozen? ⟨B, o + 2, none⟩ = false ∧ w.frozen? ⟨B, o + 3, none⟩ = false
    ∧ w.frozen? ⟨B, o + 4, none⟩ = false ∧ w.frozen? ⟨B, o + 5, none⟩ = false ∧ w.frozen? ⟨B, o + 6, none⟩ = false ∧ w.frozen? ⟨B, o + 7, none⟩ = false :=
  ⟨h 0 (by omega), h 1 (by omega), h 2 (by omega), h 3 (by omega), h 4 (by omega), h 5 (by omega), h 6 (by omega), h 7 (by omega)⟩
theorem ch_range {w : World} {B o : Nat} {v0 v1 v2 v3 v4 v5 v6 v7 : Value} (c0 : w.cell? ⟨B, o, none⟩ = some v0) (c1 : w.cell? ⟨B, o + 1, none⟩ = some v1) (c2 : w.cell? ⟨B, o + 2, none⟩ = some v2) (c3 : w.cell? ⟨B, o + 3, none⟩ = some v3)
    (c4 : w.cell? ⟨B, o + 4, none⟩ = some v4) (c5 : w.cell? ⟨B, o + 5, none⟩ = some v5) (c6 : w.cell? ⟨B, o + 6, none⟩ = some v6) (c7 : w.cell? ⟨B, o + 7, none⟩ = some v7) : w.rangeAt B o [v0, v1, v2, v3, v4, v5, v6, v7] := fun j v hv => by
  rcases j with _ | _ | _ | _ | _ | _ | _ | _ | j
  all_goals simp at hv
  all_goals (subst hv; assumption)
set_option maxHeartbeats 1000000 in
theorem cdown_any (B o : Nat) (x : M.Ch) (hx : x.ok) (w : World) (hc : w.rangeAt B o x.v) (hf : Free w B o 8) (hB : B < w.heap.size) : Calls Try.prog 83 #[.pointer (some ⟨B, o, none⟩)] w fun e w' =>
    e = .returned (.bool (M.downZ x)) ∧ w'.rangeAt B o (M.downX x).v ∧ Touch B o 8 w w' := by
  obtain ⟨con, cst, cnt, pre, runs, waits, wants, pend⟩ := x
  obtain ⟨⟨a1, a2⟩, ⟨a3, a4⟩, ⟨a5, a6⟩, ⟨a7, a8⟩⟩ := hx
  obtain ⟨c0, c1, c2, c3, c4, c5, c6, c7⟩ := ch_cells hc
  obtain ⟨f0, f1, f2, f3, f4, f5, f6, f7⟩ := ch_free hf
  simp only at a1 a2 a3 a4 a5 a6 a7 a8 c0 c1 c2 c3 c4 c5 c6 c7
  clear hc hf
  by_cases h : 0 < wrap64 (cnt - 1)
  · have hX : M.downX ⟨con, cst, cnt, pre, runs, waits, wants, pend⟩ = ⟨con, cst, wrap64 (cnt - 1), pre, runs, waits, wants, pend⟩ := if_pos h
    have hZ : M.downZ ⟨con, cst, cnt, pre, runs, waits, wants, pend⟩ = false := by simp [M.downZ, h]
    rw [hX, hZ]
    clear hX hZ
    go_enter Try.func83, Try.ntmps83
    go_wp2_with fail
    go_returns
    exact ⟨rfl, ch_range (by go_cell) (by go_cell) (by go_cell) (by go_cell) (by go_cell) (by go_cell) (by go_cell) (by go_cell), ((Touch.refl B o 8 w).setCell _ (by omega) (by omega) _)⟩
  · have hX : M.downX ⟨con, cst, cnt, pre, runs, waits, wants, pend⟩ = ⟨con, cst, M.whole cst, pre, runs, waits, wants, pend || M.is con 7⟩ := if_neg h
    have hZ : M.downZ ⟨con, cst, cnt, pre, runs, waits, wants, pend⟩ = true := by simp [M.downZ, h]
    rw [hX, hZ]
    clear hX hZ
    have hH := fun W hW => chas_any B o con 7 a1 a2 W hW
    revert hH
    cases M.is con 7
    all_goals
      intro hH
      have HH := Lib.hid hH
      clear hH
      cases pend
      all_goals
        go_enter Try.func83, Try.ntmps83
        go_wp2_with fail
        refine (cwhole_any B o cst a3 a4 _ (by go_cell)).mono ?_
        rintro e w1 ⟨rfl, rfl⟩
        go_wp2_with (refine (HH.out _ (by go_cell)).mono ?_; rintro e w1 ⟨rfl, rfl⟩)
        go_returns
        exact ⟨rfl, ch_range (by go_cell) (by go_cell) (by go_cell) (by go_cell) (by go_cell) (by go_cell) (by go_cell) (by go_cell), (((Touch.refl B o 8 w).setCell _ (by omega) (by omega) _).setCell _ (by omega) (by omega) _).setCell _ (by omega) (by omega) _⟩
end Go.Proofs.Ytmoafjgogbcoeaa
