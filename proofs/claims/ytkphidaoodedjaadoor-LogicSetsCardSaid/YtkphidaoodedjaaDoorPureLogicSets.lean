/- The statement LogicSets over plain numbers: what and, or, xor and the complement have to do with one another. -/
import Derived.Test.YtkphidaoodedjaaDoorPureLogic
import Derived.Test.YtkphidaoodedjaaDoorPLx2
namespace Go.Proofs.YtkphidaoodedjaaDoor.Pure
open Go.RowKit Go.Proofs.YtkphidaoodedjaaDoor.PL Go.Proofs.YtkphidaoodedjaaDoorW.PrintWords Go.Proofs.YtkphidaoodedjaaDoorW.PrintLast Go.Proofs.YtkphidaoodedjaaDoorW.PrintMore
theorem sum_tab : ∀ x y : Bool, M.b2i (x && y) + M.b2i (x ^^ y) = M.b2i (x || y) := by decide
theorem byte_mk (op : BinOp) (x y : Int) (g : Bool → Bool → Bool) (h : ∀ k, k < 8 → M.bit (Go.bits op .u8 x y) k = g (M.bit x k) (M.bit y k)) :
    Go.bits op .u8 x y = M.mk (g (M.bit x 7) (M.bit y 7)) (g (M.bit x 6) (M.bit y 6)) (g (M.bit x 5) (M.bit y 5)) (g (M.bit x 4) (M.bit y 4)) (g (M.bit x 3) (M.bit y 3)) (g (M.bit x 2) (M.bit y 2)) (g (M.bit x 1) (M.bit y 1)) (g (M.bit x 0) (M.bit y 0)) := by
  have r := M.bits_range op x y
  exact M.mk_eq r.1 r.2 _ _ _ _ _ _ _ _ (h 7 (by omega)) (h 6 (by omega)) (h 5 (by omega)) (h 4 (by omega)) (h 3 (by omega)) (h 2 (by omega)) (h 1 (by omega)) (h 0 (by omega))
theorem and_xor (x y : Int) : (Go.bits .and .u8 x y + Go.bits .xor .u8 x y) % 256 = Go.bits .or .u8 x y := by
  have r := M.bits_range .or x y
  have e : Go.bits .and .u8 x y + Go.bits .xor .u8 x y = Go.bits .or .u8 x y := by
    rw [byte_mk .and x y and (fun k hk => M.bit_and x y k hk), byte_mk .xor x y xor (fun k hk => M.bit_xor x y k hk), byte_mk .or x y or (fun k hk => M.bit_or x y k hk)]
    unfold M.mk
    rw [← sum_tab (M.bit x 7), ← sum_tab (M.bit x 6), ← sum_tab (M.bit x 5), ← sum_tab (M.bit x 4), ← sum_tab (M.bit x 3), ← sum_tab (M.bit x 2), ← sum_tab (M.bit x 1), ← sum_tab (M.bit x 0)]
    omega
  rw [e]; omega
theorem or_xor (x y : Int) : Go.bits .or .u8 (Go.bits .and .u8 x y) (Go.bits .xor .u8 x y) = Go.bits .or .u8 x y := by
  refine M.byte_ext (M.bits_range _ _ _).1 (M.bits_range _ _ _).2 (M.bits_range _ _ _).1 (M.bits_range _ _ _).2 fun k hk => ?_
  rw [M.bit_or _ _ k hk, M.bit_and _ _ k hk, M.bit_xor _ _ k hk, M.bit_or _ _ k hk]
  cases M.bit x k <;> cases M.bit y k <;> rfl
theorem self_tab : ∀ a : Fin 256, Go.bits .and .u8 (a.val : Int) a.val = a.val ∧ Go.bits .xor .u8 (a.val : Int) a.val = 0 ∧ Go.bits .or .u8 (a.val : Int) 255 = 255 := by decide +kernel
theorem selves (a : Int) (h0 : 0 ≤ a) (h1 : a ≤ 255) : Go.bits .and .u8 a a = a ∧ Go.bits .xor .u8 a a = 0 ∧ Go.bits .or .u8 a 255 = 255 := by
  obtain ⟨x, rfl⟩ := fin_of h0 h1
  exact self_tab x
theorem LogicSets : charabanclaw05_LogicSets.Pure := by
  intro a b wa wb
  have ba := bounds_u8 wa
  have bb := bounds_u8 wb
  have s := selves a ba.1 ba.2
  have f68 : M.logF 0 false = 68 := by decide +kernel
  have n : 0 ≤ 255 - a ∧ 255 - a ≤ 255 := by omega
  unfold charabanclaw05_LogicSets.f logic_And.f logic_Or.f logic_Xor.f logic_Cpl.f
  rw [awake05]
  simp only [if_pos (show (0 ≤ a ∧ a ≤ 255) ∧ (0 ≤ b ∧ b ≤ 255) from ⟨ba, bb⟩), if_pos (show (0 ≤ a ∧ a ≤ 255) ∧ (0 ≤ a ∧ a ≤ 255) from ⟨ba, ba⟩), if_pos (show (0 ≤ a ∧ a ≤ 255) ∧ ((0 : Int) ≤ 255 ∧ (255 : Int) ≤ 255) from ⟨ba, by decide⟩),
    if_pos (show (0 ≤ a ∧ a ≤ 255) ∧ ((0 : Int) ≤ 0 ∧ (0 : Int) ≤ 255) from ⟨ba, by decide⟩), if_pos (show (0 ≤ 255 - a ∧ 255 - a ≤ 255) ∧ ((0 : Int) ≤ 0 ∧ (0 : Int) ≤ 255) from ⟨n, by decide⟩), Option.bind_some, if_true]
  rw [if_pos (and_xor a b), if_pos (or_xor a b), if_pos s.1, s.2.1, f68, if_pos rfl, if_pos rfl, if_pos s.2.2, if_pos (show 255 - (255 - a) = a by omega), show (a + (255 - a)) % 256 = 255 by omega]
  rfl
end Go.Proofs.YtkphidaoodedjaaDoor.Pure
