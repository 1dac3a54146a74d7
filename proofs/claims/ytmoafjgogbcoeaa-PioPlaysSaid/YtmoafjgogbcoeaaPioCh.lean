/- A port's methods behind a pointer ((*pio.Port).so, look, signal, data, follow), each by its contract. -/
import Derived.Test.YtmoafjgogbcoeaaBits
import Derived.Test.YtmoafjgogbcoeaaTouch
import Derived.Test.YtmoafjgogbcoeaaPioM
namespace Go.Proofs.Ytmoafjgogbcoeaa
open Go.RowKit
set_option linter.unusedVariables false
set_option maxRecDepth 100000

theorem po_cells {w : World} {B o : Nat} {x : M.Po} (h : w.rangeAt B o x.v) : w.cell? ⟨B, o, none⟩ = some (.int .i64 x.mode) ∧ w.cell? ⟨B, o + 1, none⟩ = some (.int .u8 x.out) ∧ w.cell? ⟨B, o + 2, none⟩ = some (.int .u8 x.inn) ∧ w.cell? ⟨B, o + 3, none⟩ = some (.int .u8 x.dir)
    ∧ w.cell? ⟨B, o + 4, none⟩ = some (.int .u8 x.vec) ∧ w.cell? ⟨B, o + 5, none⟩ = some (.int .u8 x.mask) ∧ w.cell? ⟨B, o + 6, none⟩ = some (.int .u8 x.con) ∧ w.cell? ⟨B, o + 7, none⟩ = some (.int .i64 x.next)
    ∧ w.cell? ⟨B, o + 8, none⟩ = some (.bool x.ready) ∧ w.cell? ⟨B, o + 9, none⟩ = some (.bool x.was) ∧ w.cell? ⟨B, o + 10, none⟩ = some (.bool x.pend) :=
  ⟨h 0 _ rfl, h 1 _ rfl, h 2 _ rfl, h 3 _ rfl, h 4 _ rfl, h 5 _ rfl, h 6 _ rfl, h 7 _ rfl, h 8 _ rfl, h 9 _ rfl, h 10 _ rfl⟩
theorem po_free {w : World} {B o : Nat} (h : Free w B o 11) : w.frozen? ⟨B, o, none⟩ = false ∧ w.frozen? ⟨B, o + 1, none⟩ = false ∧ w.frozen? ⟨B, o + 2, none⟩ = false ∧ w.frozen? ⟨B, o + 3, none⟩ = false
    ∧ w.frozen? ⟨B, o + 4, none⟩ = false ∧ w.frozen? ⟨B, o + 5, none⟩ = false ∧ w.frozen? ⟨B, o + 6, none⟩ = false ∧ w.frozen? ⟨B, o + 7, none⟩ = false
    ∧ w.frozen? ⟨B, o + 8, none⟩ = false ∧ w.frozen? ⟨B, o + 9, none⟩ = false ∧ w.frozen? ⟨B, o + 10, none⟩ = false :=
  ⟨h 0 (by omega), h 1 (by omega), h 2 (by omega), h 3 (by omega), h 4 (by omega), h 5 (by omega), h 6 (by omega), h 7 (by omega), h 8 (by omega), h 9 (by omega), h 10 (by omega)⟩
theorem po_range {w : World} {B o : Nat} {v0 v1 v2 v3 v4 v5 v6 v7 v8 v9 v10 : Value} (c0 : w.cell? ⟨B, o, none⟩ = some v0) (c1 : w.cell? ⟨B, o + 1, none⟩ = some v1) (c2 : w.cell? ⟨B, o + 2, none⟩ = some v2) (c3 : w.cell? ⟨B, o + 3, none⟩ = some v3)
    (c4 : w.cell? ⟨B, o + 4, none⟩ = some v4) (c5 : w.cell? ⟨B, o + 5, none⟩ = some v5) (c6 : w.cell? ⟨B, o + 6, none⟩ = some v6) (c7 : w.cell? ⟨B, o + 7, none⟩ = some v7)
    (c8 : w.cell? ⟨B, o + 8, none⟩ = some v8) (c9 : w.cell? ⟨B, o + 9, none⟩ = some v9) (c10 : w.cell? ⟨B, o + 10, none⟩ = some v10) : w.rangeAt B o [v0, v1, v2, v3, v4, v5, v6, v7, v8, v9, v10] := fun j v hv => by
  rcases j with _ | _ | _ | _ | _ | _ | _ | _ | _ | _ | _ | j
  all_goals simp at hv
  all_goals (subst hv; assumption)
set_option maxHeartbeats 4000000 in
theorem pso_any (B o : Nat) (x : M.Po) (hx : x.ok) (w : World) (hc : w.rangeAt B o x.v) : Calls Try.prog 89 #[.pointer (some ⟨B, o, none⟩)] w fun e w' => e = .returned (.bool (M.soB x)) ∧ w = w' := by
  obtain ⟨mode, out, inn, dir, vec, mask, con, next, ready, was, pend⟩ := x
  obtain ⟨⟨a1, a2⟩, ⟨a3, a4⟩, ⟨a5, a6⟩, ⟨a7, a8⟩, ⟨a9, a10⟩, ⟨a11, a12⟩, ⟨a13, a14⟩, ⟨a15, a16⟩⟩ := hx
  obtain ⟨c0, c1, c2, c3, c4, c5, c6, c7, c8, c9, c10⟩ := po_cells hc
  simp only at a1 a2 a3 a4 a5 a6 a7 a8 a9 a10 a11 a12 a13 a14 a15 a16 c0 c1 c2 c3 c4 c5 c6 c7 c8 c9 c10
  clear hc
  have h5 := fun W => is_any con 5 a13 a14 W
  have h6 := fun W => is_any con 6 a13 a14 W
  have hz := M.held_any (M.is con 5) mask inn
  have ha := M.held_all (M.is con 5) mask inn
  have hs : M.soB ⟨mode, out, inn, dir, vec, mask, con, next, ready, was, pend⟩ = (mode == 3 && (M.anyH mask inn (M.is con 5) && (!M.is con 6 || M.allH mask inn (M.is con 5)))) := rfl
  rw [hs]
  clear hs
  revert h5 hz ha
  generalize M.is con 5 = s
  intro h5 hz ha
  revert h6
  generalize M.is con 6 = t
  intro h6
  generalize M.anyH mask inn s = y at hz ⊢
  generalize M.allH mask inn s = z at ha ⊢
  have H5 := Lib.hid h5
  have H6 := Lib.hid h6
  clear h5 h6
  by_cases hm : mode = 3
  · subst hm
    cases s <;> cases y <;> cases t <;> cases z
    all_goals
      simp only [cond_true, cond_false, Bool.not_true, Bool.not_false] at hz ha
      go_enter Try.func89, Try.ntmps89
      go_wp2_with fail
      refine (H5.out _).mono ?_
      rintro e w1 ⟨rfl, rfl⟩
      go_wp2_with (refine (H6.out _).mono ?_; rintro e w1 ⟨rfl, rfl⟩)
      go_returns
      exact ⟨rfl, rfl⟩
  · have hm' : (mode == 3) = false := by simpa using hm
    rw [hm']
    cases s
    all_goals
      go_enter Try.func89, Try.ntmps89
      go_wp2_with fail
      refine (H5.out _).mono ?_
      rintro e w1 ⟨rfl, rfl⟩
      go_wp2_with fail
      go_returns
      exact ⟨rfl, rfl⟩
end Go.Proofs.Ytmoafjgogbcoeaa
