/- A DMA at work, more mathematics: what Take keeps; the document's example. -/
import Derived.Test.YtkkkjdbcckaedaaDmTake
import Derived.Test.YtkkkjdbcckaedaaDmNext
import Derived.Test.YtkkkjdbcckaedaaDmTold
namespace Go.Proofs.Ytkkkjdbcckaedaa
open Go.RowKit
set_option linter.unusedVariables false
set_option maxRecDepth 100000
theorem M.dBlock_p (d : M.Dm) : (M.dBlock d).p = d.p := rfl
theorem M.dFinish_p (d : M.Dm) : (M.dFinish d).p = d.p := by
  unfold M.dFinish
  split
  · rfl
  · split <;> rfl
theorem M.dTake_p (d : M.Dm) (b : Int) : (M.dTake d b).p = d.p := by
  rw [M.dTake_is d b _ rfl]
  have hm : (M.dMove d (M.dIsA d)).p = d.p := by cases M.dIsA d <;> rfl
  split
  · rw [M.dFinish_p]; exact hm
  · split
    · rw [M.dFinish_p, (M.dFound_same _ _).2]; exact hm
    · show (M.dFound _ _).p = _
      rw [(M.dFound_same _ _).2]; exact hm
theorem M.dTake_ok {d : M.Dm} (h : d.ok) (hl : -9223372036854775807 ≤ d.left) {b : Int} (h0 : 0 ≤ b) (h1 : b ≤ 255) : (M.dTake d b).ok := by
  rw [M.dTake_is d b _ rfl]
  have hm := M.dMove_ok h (M.dIsA d)
  have hml : (M.dMove d (M.dIsA d)).left = d.left := M.dMove_same _ _
  generalize M.dMove d (M.dIsA d) = x at hm hml ⊢
  have hx : ({ x with hold := b, ran := true } : M.Dm).ok := ⟨hm.p, hm.a, hm.b, hm.left, ⟨h0, h1⟩, hm.ask⟩
  refine M.dite_ok (fun _ => ?_) (fun _ => M.dite_ok (fun _ => ?_) (fun _ => ?_))
  · exact M.dFinish_ok ⟨hm.p, hm.a, hm.b, hm.left, hm.hold, hm.ask⟩ (by show _ ≤ x.left; omega)
  · exact M.dFinish_ok (M.dFound_ok hx b) (by rw [(M.dFound_same _ _).1]; show _ ≤ x.left; omega)
  · have := M.dFound_ok hx b
    exact ⟨this.p, this.a, this.b, this.left, this.hold, this.ask⟩
theorem M.dFinish_left {d : M.Dm} (h : d.ok) (k : Int) (hk : -1 ≤ k) (hl : -k ≤ d.left) : -(k + 1) ≤ (M.dFinish d).left := by
  have := M.dLen_range h
  unfold M.dFinish
  split
  · show _ ≤ d.left - 1; omega
  · split
    · show _ ≤ M.dLen _
      have e : M.dLen (M.dSignal { d with left := d.left - 1 } 1) = M.dLen d := rfl
      omega
    · show _ ≤ d.left - 1; omega
theorem M.dTake_left {d : M.Dm} (h : d.ok) {b : Int} (h0 : 0 ≤ b) (h1 : b ≤ 255) (k : Int) (hk : 0 ≤ k) (hl : -k ≤ d.left) : -(k + 1) ≤ (M.dTake d b).left := by
  rw [M.dTake_is d b _ rfl]
  have hm := M.dMove_ok h (M.dIsA d)
  have hml : (M.dMove d (M.dIsA d)).left = d.left := M.dMove_same _ _
  generalize M.dMove d (M.dIsA d) = x at hm hml ⊢
  have hx : ({ x with hold := b, ran := true } : M.Dm).ok := ⟨hm.p, hm.a, hm.b, hm.left, ⟨h0, h1⟩, hm.ask⟩
  split
  · exact M.dFinish_left (d := { x with held := false }) ⟨hm.p, hm.a, hm.b, hm.left, hm.hold, hm.ask⟩ k (by omega) (by show _ ≤ x.left; omega)
  · split
    · exact M.dFinish_left (M.dFound_ok hx b) k (by omega) (by rw [(M.dFound_same _ _).1]; show _ ≤ x.left; omega)
    · show _ ≤ (M.dFound _ _).left
      rw [(M.dFound_same _ _).1]; show _ ≤ x.left; omega
/-- What a DMA that was told bytes has left is at least nought. -/
theorem M.dWrite_left {d : M.Dm} (h : d.ok) {b : Int} (h0 : 0 ≤ b) (h1 : b ≤ 255) (hl : 0 ≤ d.left) : 0 ≤ (M.dWrite d b).left := by
  have hp := M.rWrite_ok h.p h0 h1
  have hx : ({ d with p := M.rWrite d.p b } : M.Dm).ok := ⟨hp, h.a, h.b, h.left, h.hold, h.ask⟩
  have := M.dLen_range hx
  have hite : ∀ {c : Prop} [Decidable c] {x y : M.Dm}, (c → 0 ≤ x.left) → (¬ c → 0 ≤ y.left) → 0 ≤ (if c then x else y).left := by
    intro c _ x y hx hy
    by_cases k : c
    · rw [if_pos k]; exact hx k
    · rw [if_neg k]; exact hy k
  unfold M.dWrite
  have hxl : 0 ≤ ({ d with p := M.rWrite d.p b } : M.Dm).left := hl
  generalize ({ d with p := M.rWrite d.p b } : M.Dm) = x at hx this hxl ⊢
  unfold M.dCmd
  repeat' refine hite (fun _ => ?_) (fun _ => ?_)
  all_goals first
    | exact hxl
    | exact Int.le_refl 0
    | (show 0 ≤ M.dLen x; omega)
theorem M.dFold_left : ∀ (L : List Int) (d : M.Dm), d.ok → (∀ x ∈ L, 0 ≤ x ∧ x ≤ 255) → 0 ≤ d.left → 0 ≤ (L.foldl M.dWrite d).left
  | [], _, _, _, hl => hl
  | x :: L, d, h, hb, hl => M.dFold_left L _ (M.dWrite_ok h (hb x (.head _)).1 (hb x (.head _)).2) (fun y hy => hb y (.tail _ hy)) (M.dWrite_left h (hb x (.head _)).1 (hb x (.head _)).2 hl)
theorem M.dTold_left {L : List Int} (hb : ∀ x ∈ L, 0 ≤ x ∧ x ≤ 255) : 0 ≤ (M.dTold L).left := M.dFold_left L _ M.dmNew_ok hb (Int.le_refl 0)
def M.awL : List Int := [125, 0, 16, 2, 0, 20, 16, 173, 0, 32, 207, 135]
def M.awD : Nat → M.Dm
  | 0 => M.dTold M.awL
  | j + 1 => M.dTake (M.awD j) 7
def M.awC : Nat → Array Value
  | 0 => #[.int .i64 2, .int .u16 4096, .int .u8 0, .int .i64 3]
  | 1 => #[.int .i64 3, .int .u16 8192, .int .u8 7, .int .i64 3]
  | 2 => #[.int .i64 2, .int .u16 4097, .int .u8 0, .int .i64 3]
  | _ => #[.int .i64 3, .int .u16 8193, .int .u8 7, .int .i64 3]
def M.awS : Array Value := #[.int .i64 2, .int .u16 4096, .int .u8 0, .int .i64 3, .int .i64 3, .int .u16 8192, .int .u8 7, .int .i64 3, .int .i64 2, .int .u16 4097, .int .u8 0, .int .i64 3, .int .i64 3, .int .u16 8193, .int .u8 7, .int .i64 3]
theorem M.awL_ok : ∀ x ∈ M.awL, 0 ≤ x ∧ x ≤ 255 := by decide
theorem M.awD_p (j : Nat) : (M.awD j).p = (M.awD 0).p := by
  induction j with
  | zero => rfl
  | succ j ih => exact (M.dTake_p _ _).trans ih
theorem M.awD_want (j : Nat) : (M.awD j).p.want = [] := by
  rw [M.awD_p]
  decide +kernel
theorem M.awD_ok (j : Nat) (hj : j < 1000000) : (M.awD j).ok ∧ -(j : Int) ≤ (M.awD j).left := by
  induction j with
  | zero => exact ⟨M.dTold_ok M.awL_ok, by have := M.dTold_left M.awL_ok; show _ ≤ (M.dTold _).left; omega⟩
  | succ j ih =>
    replace ih := ih (by omega)
    · have hl : (-9223372036854775807 : Int) ≤ (M.awD j).left := by have := ih.2; omega
      exact ⟨M.dTake_ok ih.1 hl (by decide) (by decide), by
        have h := M.dTake_left ih.1 (b := 7) (by decide) (by decide) (j : Int) (by omega) ih.2
        show -(((j + 1 : Nat)) : Int) ≤ (M.dTake (M.awD j) 7).left
        have e : (((j + 1 : Nat)) : Int) = (j : Int) + 1 := by omega
        rw [e]; exact h⟩
theorem M.aw_facts : ∀ j : Fin 4, (M.awD j).done = false ∧ M.dHolds (M.awD j) true = true ∧ M.dNextK (M.awD j) = (if j.val % 2 = 0 then 2 else 3) ∧ M.dNextA (M.awD j) = (if j.val % 2 = 0 then 4096 + (j.val : Int) / 2 else 8192 + (j.val : Int) / 2) ∧ M.dNextD (M.awD j) = (if j.val % 2 = 0 then 0 else 7) ∧ M.dNextT (M.awD j) = 3 := by decide +kernel
theorem M.aw_ends : M.dWants (M.awD 0) false = true ∧ M.dWants (M.awD 0) true = false ∧ (M.awD 4).done = true ∧ (M.awD 4).ran = true ∧ (M.dReadP (M.awD 4)).matched = false ∧ M.dReadV (M.awD 4) = 33 ∧ M.dStatus (M.awD 4) = 33 := by decide +kernel
theorem M.aw_next (j : Nat) (hj : j < 4) : M.dNextC (M.awD j) = M.awC j := by
  have h := M.aw_facts ⟨j, hj⟩
  obtain ⟨-, -, h1, h2, h3, h4⟩ := h
  unfold M.dNextC
  simp only at h1 h2 h3 h4
  rw [h1, h2, h3, h4]
  rcases (show j = 0 ∨ j = 1 ∨ j = 2 ∨ j = 3 by omega) with rfl | rfl | rfl | rfl <;> simp [M.awC]
theorem M.aw_cut (j : Nat) (hj : j < 4) : (M.awS.toList.drop (j * 4)).take (M.awC j).size = (M.awC j).toList := by
  rcases (show j = 0 ∨ j = 1 ∨ j = 2 ∨ j = 3 by omega) with rfl | rfl | rfl | rfl <;> rfl
end Go.Proofs.Ytkkkjdbcckaedaa
