/- The reference's flag byte (charabancref02.Of, Make, Result), each by its contract: nothing that lay before is turned. -/
import Derived.Test.YtkphidaoodedjaaDoorRef01
namespace Go.Proofs.YtkphidaoodedjaaDoor
open Go.RowKit
set_option linter.unusedVariables false

/-- What a call leaves behind what lay ahead of it. -/
theorem bstep {w X Y : World} (h : Below w.heap.size w X) (k : Below X.heap.size X Y) : Below w.heap.size w Y := h.trans (k.mono h.size)
/-- Eight flags as the program hands them on. -/
abbrev flg (s z y h x p n c : Bool) : Value := .agg #[.bool s, .bool z, .bool y, .bool h, .bool x, .bool p, .bool n, .bool c]
abbrev ofV (f : Int) : Value := flg (M.is f 7) (M.is f 6) (M.is f 5) (M.is f 4) (M.is f 3) (M.is f 2) (M.is f 1) (M.is f 0)

set_option maxHeartbeats 2000000 in
theorem refof_any (f : Int) (h0 : 0 ≤ f) (h1 : f ≤ 255) (w : World) : Calls Tryd.prog 35 #[.int .u8 f] w fun e w' => e = .returned (ofV f) ∧ Below w.heap.size w w' := by
  go_enter Tryd.func35, Tryd.ntmps35
  go_wp2
  refine wp_loop_rounds 9 ?_
  iterate 9
    rw [rounds_succ]
    go_wp2_with (go_at_call 36; refine (refis_any _ _ h0 h1 _).mono ?_; rintro e w' ⟨rfl, rfl⟩)
  go_returns
  exact ⟨rfl, by go_grown⟩

set_option maxHeartbeats 2000000 in
theorem refmake_any (s z y h x p n c : Bool) (w : World) : Calls Tryd.prog 33 #[flg s z y h x p n c] w fun e w' => e = .returned (.int .u8 (M.mk s z y h x p n c)) ∧ Below w.heap.size w w' := by
  have r1 := M.with_range 0 7 s (by omega) (by omega)
  have r2 := M.with_range _ 6 z r1.1 r1.2
  have r3 := M.with_range _ 5 y r2.1 r2.2
  have r4 := M.with_range _ 4 h r3.1 r3.2
  have r5 := M.with_range _ 3 x r4.1 r4.2
  have r6 := M.with_range _ 2 p r5.1 r5.2
  have r7 := M.with_range _ 1 n r6.1 r6.2
  have c1 := refwith_any 0 7 s (by omega) (by omega)
  have c2 := refwith_any _ 6 z r1.1 r1.2
  have c3 := refwith_any _ 5 y r2.1 r2.2
  have c4 := refwith_any _ 4 h r3.1 r3.2
  have c5 := refwith_any _ 3 x r4.1 r4.2
  have c6 := refwith_any _ 2 p r5.1 r5.2
  have c7 := refwith_any _ 1 n r6.1 r6.2
  have c8 := refwith_any _ 0 c r7.1 r7.2
  rw [M.mk_with] at c8
  have C1 := Lib.hid c1
  have C2 := Lib.hid c2
  have C3 := Lib.hid c3
  have C4 := Lib.hid c4
  have C5 := Lib.hid c5
  have C6 := Lib.hid c6
  have C7 := Lib.hid c7
  have C8 := Lib.hid c8
  clear r1 r2 r3 r4 r5 r6 r7 c1 c2 c3 c4 c5 c6 c7 c8
  go_enter Tryd.func33, Tryd.ntmps33
  go_wp2
  refine wp_loop_rounds 9 ?_
  rw [rounds_succ]
  go_wp2_with fail
  refine (C1.out _).mono ?_
  rintro e w' ⟨rfl, rfl⟩
  go_wp2_with fail
  rw [rounds_succ]
  go_wp2_with fail
  refine (C2.out _).mono ?_
  rintro e w' ⟨rfl, rfl⟩
  go_wp2_with fail
  rw [rounds_succ]
  go_wp2_with fail
  refine (C3.out _).mono ?_
  rintro e w' ⟨rfl, rfl⟩
  go_wp2_with fail
  rw [rounds_succ]
  go_wp2_with fail
  refine (C4.out _).mono ?_
  rintro e w' ⟨rfl, rfl⟩
  go_wp2_with fail
  rw [rounds_succ]
  go_wp2_with fail
  refine (C5.out _).mono ?_
  rintro e w' ⟨rfl, rfl⟩
  go_wp2_with fail
  rw [rounds_succ]
  go_wp2_with fail
  refine (C6.out _).mono ?_
  rintro e w' ⟨rfl, rfl⟩
  go_wp2_with fail
  rw [rounds_succ]
  go_wp2_with fail
  refine (C7.out _).mono ?_
  rintro e w' ⟨rfl, rfl⟩
  go_wp2_with fail
  rw [rounds_succ]
  go_wp2_with fail
  refine (C8.out _).mono ?_
  rintro e w' ⟨rfl, rfl⟩
  go_wp2_with fail
  rw [rounds_succ]
  go_wp2_with fail
  go_ret
  exact ⟨rfl, by go_grown⟩

set_option maxHeartbeats 2000000 in
theorem refresult_any (r : Int) (h0 : 0 ≤ r) (h1 : r ≤ 255) (w : World) : Calls Tryd.prog 38 #[.int .u8 r] w fun e w' => e = .returned (.int .u8 (M.resF r)) ∧ Below w.heap.size w w' := by
  go_enter Tryd.func38, Tryd.ntmps38
  go_wp2_with fail
  refine (refof_any r h0 h1 _).mono ?_
  rintro e w1 ⟨rfl, hb1⟩
  have z1 := hb1.size
  go_wp2_with fail
  refine (refmake_any _ _ _ _ _ _ _ _ _).mono ?_
  rintro e w2 ⟨rfl, hb2⟩
  replace hb2 := bstep (w := w) (by go_grown) hb2
  go_wp2_with fail
  go_ret
  exact ⟨rfl, hb2⟩
end Go.Proofs.YtkphidaoodedjaaDoor
