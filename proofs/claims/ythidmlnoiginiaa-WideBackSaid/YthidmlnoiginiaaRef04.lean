/- The reference's sums of words (charabancref04.Add, result), each by its contract: nothing that lay before is turned. -/
import Derived.Test.YthidmlnoiginiaaRef03
import Derived.Test.YthidmlnoiginiaaMath4
namespace Go.Proofs.Ythidmlnoiginiaa
open Go.RowKit
set_option linter.unusedVariables false

theorem refhi_any (x : Int) (h0 : 0 ≤ x) (h1 : x ≤ 65535) (w : World) : Calls Try.prog 19 #[.int .u16 x] w fun e w' => e = .returned (.int .u8 (x / 256)) ∧ w = w' := by
  go_enter Try.func19, Try.ntmps19
  go_wp2
  go_ret
  exact ⟨rfl, rfl⟩
set_option maxHeartbeats 2000000 in
theorem reflines_any (s z y h x p n c : Bool) (r : Int) (h0 : 0 ≤ r) (h1 : r ≤ 65535) (w : World) :
    Calls Try.prog 73 #[flg s z y h x p n c, .int .u16 r] w fun e w' => e = .returned (flg s z (M.is (r / 256) 5) h (M.is (r / 256) 3) p n c) ∧ Below w.heap.size w w' := by
  go_enter Try.func73, Try.ntmps73
  go_wp2_with fail
  refine (refhi_any r h0 h1 _).mono ?_
  rintro e w1 ⟨rfl, rfl⟩
  go_wp2_with fail
  refine (refis_any (r / 256) 5 (by omega) (by omega) _).mono ?_
  rintro e w1 ⟨rfl, rfl⟩
  go_wp2_with fail
  refine (refis_any (r / 256) 3 (by omega) (by omega) _).mono ?_
  rintro e w1 ⟨rfl, rfl⟩
  go_wp2_with fail
  go_returns
  exact ⟨rfl, by go_grown⟩
set_option maxHeartbeats 2000000 in
theorem refwadd_any (a b f : Int) (h0 : 0 ≤ a) (h1 : a ≤ 65535) (h2 : 0 ≤ b) (h3 : b ≤ 65535) (h4 : 0 ≤ f) (h5 : f ≤ 255) (w : World) :
    Calls Try.prog 49 #[.int .u16 a, .int .u16 b, .int .u8 f] w fun e w' => e = .returned (.tuple #[.int .u16 ((a + b) % 65536), .int .u8 (M.rwaddF a b f)]) ∧ Below w.heap.size w w' := by
  go_enter Try.func49, Try.ntmps49
  go_wp2_with fail
  refine (refof_any f h4 h5 _).mono ?_
  rintro e w1 ⟨rfl, hb1⟩
  have z1 := hb1.size
  go_wp2_with fail
  refine (reflines_any _ _ _ _ _ _ _ _ _ (by omega) (by omega) _).mono ?_
  rintro e w2 ⟨rfl, hb2⟩
  replace hb2 := bstep (w := w) hb1 hb2
  have z2 := hb2.size
  go_wp2_with fail
  refine (refmake_any _ _ _ _ _ _ _ _ _).mono ?_
  rintro e w3 ⟨rfl, hb3⟩
  replace hb3 := bstep (w := w) (by go_grown) hb3
  go_wp2_with fail
  go_ret2
  exact ⟨rfl, hb3⟩
set_option maxHeartbeats 2000000 in
theorem refwresult_any (r : Int) (half over out minus : Bool) (h0 : 0 ≤ r) (h1 : r ≤ 65535) (w : World) :
    Calls Try.prog 76 #[.int .u16 r, .bool half, .bool over, .bool out, .bool minus] w fun e w' => e = .returned (.int .u8 (M.mk (M.is (r / 256) 7) (r == 0) (M.is (r / 256) 5) half (M.is (r / 256) 3) over minus out)) ∧ Below w.heap.size w w' := by
  go_enter Try.func76, Try.ntmps76
  go_wp2_with fail
  refine (refhi_any r h0 h1 _).mono ?_
  rintro e w1 ⟨rfl, rfl⟩
  go_wp2_with fail
  refine (reflines_any _ _ _ _ _ _ _ _ _ h0 h1 _).mono ?_
  rintro e w2 ⟨rfl, hb2⟩
  have z2 := hb2.size
  go_wp2_with fail
  refine (refis_any (r / 256) 7 (by omega) (by omega) _).mono ?_
  rintro e w1 ⟨rfl, rfl⟩
  go_wp2_with fail
  refine (refmake_any _ _ _ _ _ _ _ _ _).mono ?_
  rintro e w3 ⟨rfl, hb3⟩
  replace hb3 := bstep (w := w) (by go_grown) hb3
  go_wp2_with fail
  go_ret
  exact ⟨rfl, hb3⟩
end Go.Proofs.Ythidmlnoiginiaa
