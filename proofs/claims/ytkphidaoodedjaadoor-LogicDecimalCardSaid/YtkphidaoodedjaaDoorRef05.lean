/- The reference's turns of the accumulator (charabancref05.Cpl, Scf, Ccf, Daa), each by its contract: nothing that lay before is turned. -/
import Derived.Test.YtkphidaoodedjaaDoorMathLogic
import Derived.Test.YtkphidaoodedjaaDoorRef02Even
import Derived.Test.YtkphidaoodedjaaDoorRef03
import Derived.Test.YtkphidaoodedjaaDoorMidStore
import Derived.WalkSpells
namespace Go.Proofs.YtkphidaoodedjaaDoor
open Go.RowKit
set_option linter.unusedVariables false

def M.cplF (f r : Int) : Int := M.mk (M.is f 7) (M.is f 6) (M.is r 5) true (M.is r 3) (M.is f 2) true (M.is f 0)
def M.scfF (a f : Int) : Int := M.mk (M.is f 7) (M.is f 6) (M.is a 5) false (M.is a 3) (M.is f 2) false true
def M.ccfF (a f : Int) : Int := M.mk (M.is f 7) (M.is f 6) (M.is a 5) (M.is f 0) (M.is a 3) (M.is f 2) false (!M.is f 0)
theorem info8 : (Tryd.prog.info? 35).map (·.size) = some 8 := by kernel_rfl
set_option maxHeartbeats 2000000 in
theorem reflines_any (f a : Int) (h0 : 0 ≤ f) (h1 : f ≤ 255) (h2 : 0 ≤ a) (h3 : a ≤ 255) (w : World) : Calls Tryd.prog 32 #[.int .u8 f, .int .u8 a] w fun e w' =>
    e = .returned (flg (M.is f 7) (M.is f 6) (M.is a 5) (M.is f 4) (M.is a 3) (M.is f 2) (M.is f 1) (M.is f 0)) ∧ Below w.heap.size w w' := by
  go_enter Tryd.func32, Tryd.ntmps32
  go_wp2_with fail
  refine (refof_any f h0 h1 _).mono ?_
  rintro e w1 ⟨rfl, hb0⟩
  have hT := there_below (there_new w _ _ 8 (by simp)) hb0 (by simp)
  have hz1 : w.heap.size < w1.heap.size := by have := hb0.size; simp at this; omega
  have hb1 := bstep (w := w) (by go_grown) hb0
  have HT := Lib.hid hT
  clear hb0 hT
  have z1 := hb1.size
  go_wp2_with fail
  refine (refis_any a 5 h2 h3 _).mono ?_
  rintro e w3 ⟨rfl, rfl⟩
  go_wp2_with fail
  refine (refis_any a 3 h2 h3 _).mono ?_
  rintro e w3 ⟨rfl, rfl⟩
  go_wp2_with (refine is_store ?_; refine wpList_store_row rfl _ _ _ rfl w.heap.size 0 _ rfl rfl (there_alloc _ HT.out) info8 (by simp [Value.oneCell']) ?_; intro W hW _ hB _; have hB2 := hB w.heap.size w (Nat.le_refl _) (by go_grown); obtain ⟨c0, c1, c2, c3, c4, c5, c6, c7⟩ := range8 hW; clear hW hB)
  refine bodyPost_ret (by simp [results, Tryd.results32, go_sem, c0, c1, c2, c3, c4, c5, c6, c7]; try rfl) rfl ?_
  exact ⟨rfl, hB2⟩
theorem refcpl_any (a f : Int) (h0 : 0 ≤ a) (h1 : a ≤ 255) (h2 : 0 ≤ f) (h3 : f ≤ 255) (w : World) : Calls Tryd.prog 15 #[.int .u8 a, .int .u8 f] w fun e w' => e = .returned (.tuple #[.int .u8 (255 - a), .int .u8 (M.cplF f (255 - a))]) ∧ Below w.heap.size w w' := by
  have er : (255 - a) % 256 = 255 - a := by omega
  go_enter Tryd.func15, Tryd.ntmps15
  go_wp2_with fail
  refine (reflines_any f (255 - a) h2 h3 (by omega) (by omega) _).mono ?_
  rintro e w1 ⟨rfl, hb1⟩
  have z1 := hb1.size
  go_wp2_with fail
  refine (refmake_any _ _ _ _ _ _ _ _ _).mono ?_
  rintro e w3 ⟨rfl, hb3⟩
  replace hb3 := bstep (w := w) (by go_grown) hb3
  go_wp2_with fail
  go_returns
  exact ⟨rfl, hb3⟩
theorem refscf_any (a f : Int) (h0 : 0 ≤ a) (h1 : a ≤ 255) (h2 : 0 ≤ f) (h3 : f ≤ 255) (w : World) : Calls Tryd.prog 19 #[.int .u8 a, .int .u8 f] w fun e w' => e = .returned (.int .u8 (M.scfF a f)) ∧ Below w.heap.size w w' := by
  go_enter Tryd.func19, Tryd.ntmps19
  go_wp2_with fail
  refine (reflines_any f a h2 h3 h0 h1 _).mono ?_
  rintro e w1 ⟨rfl, hb1⟩
  have z1 := hb1.size
  go_wp2_with fail
  refine (refmake_any _ _ _ _ _ _ _ _ _).mono ?_
  rintro e w3 ⟨rfl, hb3⟩
  replace hb3 := bstep (w := w) (by go_grown) hb3
  go_wp2_with fail
  go_returns
  exact ⟨rfl, hb3⟩
theorem refccf_any (a f : Int) (h0 : 0 ≤ a) (h1 : a ≤ 255) (h2 : 0 ≤ f) (h3 : f ≤ 255) (w : World) : Calls Tryd.prog 21 #[.int .u8 a, .int .u8 f] w fun e w' => e = .returned (.int .u8 (M.ccfF a f)) ∧ Below w.heap.size w w' := by
  go_enter Tryd.func21, Tryd.ntmps21
  go_wp2_with fail
  refine (reflines_any f a h2 h3 h0 h1 _).mono ?_
  rintro e w1 ⟨rfl, hb1⟩
  have z1 := hb1.size
  go_wp2_with fail
  refine (refmake_any _ _ _ _ _ _ _ _ _).mono ?_
  rintro e w3 ⟨rfl, hb3⟩
  replace hb3 := bstep (w := w) (by go_grown) hb3
  go_wp2_with fail
  go_returns
  exact ⟨rfl, hb3⟩
theorem refofeven_any (r : Int) (w : World) : Calls Tryd.prog 35 #[.int .u8 (M.evenF r)] w fun e w' => e = .returned (flg (M.is r 7) (r == 0) (M.is r 5) false (M.is r 3) (M.evenB r) false false) ∧ Below w.heap.size w w' := by
  have her := M.evenF_range r
  have hoe := refof_any (M.evenF r) her.1 her.2 w
  simp only [M.evenF, ofV, M.is_mk7, M.is_mk6, M.is_mk5, M.is_mk4, M.is_mk3, M.is_mk2, M.is_mk1, M.is_mk0] at hoe
  exact hoe
set_option maxHeartbeats 8000000 in
theorem refdaa_walk (a f : Int) (h0 : 0 ≤ a) (h1 : a ≤ 255) (h2 : 0 ≤ f) (h3 : f ≤ 255) (p l c g n : Bool) (hp : M.is f 4 = p) (hl : decide (9 < a % 16) = l) (hc : M.is f 0 = c) (hg : decide (153 < a) = g) (hn : M.is f 1 = n)
    (w : World) : Calls Tryd.prog 17 #[.int .u8 a, .int .u8 f] w fun e w' =>
      e = .returned (.tuple #[.int .u8 (M.dR n (M.dBy p l c g) a), .int .u8 (M.dF a (M.dR n (M.dBy p l c g) a) n (c || g))]) ∧ Below w.heap.size w w' := by
  have hof := refof_any f h2 h3
  unfold ofV at hof
  rw [hp, hc, hn] at hof
  obtain ⟨X, hX⟩ : ∃ X, M.dR n (M.dBy p l c g) a = X := ⟨_, rfl⟩
  rw [hX]
  have Hof := Lib.hid hof
  have HX := Lib.hid hX
  clear hof hX hp hc hn
  cases p <;> cases l <;> cases c <;> cases g <;> cases n
  all_goals
    go_enter Tryd.func17, Tryd.ntmps17
    go_wp2_with fail
    refine (Hof.out _).mono ?_
    rintro e w1 ⟨rfl, hb1⟩
    have z1 := hb1.size
    go_wp2_with fail
    refine (refeven02_any _ (by omega) (by omega) _).mono ?_
    rintro e w2 ⟨rfl, hb2⟩
    first
      | have k6 : w2.cell? ⟨w1.heap.size, 6, none⟩ = some (.bool true) := by (refine cell_later hb2 ?_; go_cell; done)
      | have k6 : w2.cell? ⟨w1.heap.size, 6, none⟩ = some (.bool false) := by (refine cell_later hb2 ?_; go_cell; done)
    have y2 : w1.heap.size < w2.heap.size := by have := hb2.size; simp at this; omega
    replace hb2 := bstep (w := w) (by go_grown) hb2
    have z2 := hb2.size
    go_wp2_with fail
    refine (refofeven_any _ _).mono ?_
    rintro e w3 ⟨rfl, hb3⟩
    replace k6 := cell_later hb3 k6
    have y3 : w1.heap.size < w3.heap.size := Nat.lt_of_lt_of_le y2 hb3.size
    replace hb3 := bstep (w := w) (by go_grown) hb3
    have z3 := hb3.size
    go_wp2_with fail
    refine (refis_any a 4 h0 h1 _).mono ?_
    rintro e w4 ⟨rfl, rfl⟩
    go_wp2_with fail
    refine (refis_any _ 4 (by omega) (by omega) _).mono ?_
    rintro e w4 ⟨rfl, rfl⟩
    go_wp2_with fail
    refine (refmake_any _ _ _ _ _ _ _ _ _).mono ?_
    rintro e w4 ⟨rfl, hb4⟩
    replace hb4 := bstep (w := w) (by go_grown) hb4
    go_wp2_with fail
    go_returns
    have hX := HX.out
    simp only [M.dR, M.dBy, Bool.or_self, Bool.or_false, Bool.or_true, Bool.false_eq_true, if_true, if_false, Int.add_zero, Int.sub_zero, Int.zero_add, Int.reduceAdd] at hX
    subst hX
    exact ⟨ret2 rfl rfl, hb4⟩
theorem refdaa_any (a f : Int) (h0 : 0 ≤ a) (h1 : a ≤ 255) (h2 : 0 ≤ f) (h3 : f ≤ 255) (w : World) : Calls Tryd.prog 17 #[.int .u8 a, .int .u8 f] w fun e w' => e = .returned (.tuple #[.int .u8 (M.daaR a f), .int .u8 (M.daaF a f)]) ∧ Below w.heap.size w w' :=
  refdaa_walk a f h0 h1 h2 h3 (M.is f 4) (decide (9 < a % 16)) (M.is f 0) (decide (153 < a)) (M.is f 1) rfl rfl rfl rfl rfl w
end Go.Proofs.YtkphidaoodedjaaDoor
