/- The program's All (dmareg), by its contract. -/
import Derived.Test.YtkkkjdbcckaedaaRgWrite
namespace Go.Proofs.Ytkkkjdbcckaedaa
open Go.RowKit
set_option linter.unusedVariables false
set_option linter.unusedSimpArgs false
set_option maxRecDepth 100000
theorem infoU8 : (Try.prog.info? 5).map (fun i => (i.zero, i.size, i.bytes)) = some (some (.int .u8 0), 1, 1) := by kernel_rfl
theorem St.perm {B o n : Nat} {w W : World} {es es' : List Ent} (h : St B o n w es W) (hp : es.Perm es') : St B o n w es' W :=
  ⟨h.touch, fun e he => h.good e (hp.symm.subset he), (List.Perm.pairwise_iff (fun {x y} hxy hf => Ent.apart_comm (hxy (Or.comm.1 hf))) hp).1 h.sep⟩
theorem St.swapN {B o n : Nat} {w W : World} {a O E N : List Ent} (h : St B o n w ((a ++ (O ++ E)) ++ N) W) : St B o n w ((a ++ N) ++ E) W := by
  have h1 : St B o n w (a ++ (E ++ N)) W := h.sub (by
    rw [List.append_assoc]
    exact (List.Sublist.refl a).append ((List.sublist_append_right O E).append (List.Sublist.refl N)))
  rw [List.append_assoc]
  exact h1.perm (List.Perm.append_left _ List.perm_append_comm)
theorem M.rWrite_len (r : M.Rg) (b : Int) : (M.rWrite r b).want.length ≤ r.want.length + 4 := by
  have h1 := M.rWants_len b 1 3 4
  have h2 := M.rWants_len b 5 6 1
  have h3 := M.rWants_len b 6 6 1
  have h4 := M.rWants_len b 7 3 2
  have h5 := M.rWants_len b 9 2 3
  have h6 := M.rWants_len b 12 3 2
  have hite : ∀ {c : Prop} [Decidable c] {x y : M.Rg} {n : Nat}, (c → x.want.length ≤ n) → (¬ c → y.want.length ≤ n) → (if c then x else y).want.length ≤ n := by
    intro c _ x y n hx hy
    by_cases k : c
    · rw [if_pos k]; exact hx k
    · rw [if_neg k]; exact hy k
  unfold M.rWrite
  cases hw : r.want with
  | nil =>
    simp only [List.length_nil]
    unfold M.rBase M.rCmd
    repeat' refine hite (fun _ => ?_) (fun _ => ?_)
    all_goals first
      | (show (M.rWants _ _ _ _).length ≤ _; omega)
      | (show r.want.length ≤ _; rw [hw]; exact Nat.zero_le _)
      | (show ([] : List Int).length ≤ _; exact Nat.zero_le _)
      | (show ([14] : List Int).length ≤ _; decide)
  | cons k rest =>
    simp only [List.length_cons]
    unfold M.rTake
    repeat' refine hite (fun _ => ?_) (fun _ => ?_)
    all_goals first
      | (show rest.length ≤ _; omega)
      | (show (M.rWants _ _ _ _ ++ rest).length ≤ _; rw [List.length_append]; omega)
theorem M.rAll_len (r : M.Rg) (l : List Int) : (M.rAll r l).want.length ≤ r.want.length + 4 * l.length := by
  induction l generalizing r with
  | nil => exact Nat.le_refl _
  | cons x l ih =>
    have := ih (M.rWrite r x)
    have := M.rWrite_len r x
    simp only [M.rAll, List.length_cons]
    omega
theorem M.rAllC_len (r : M.Rg) (l : List Int) : (M.rAllC r l).length ≤ l.length := by
  induction l generalizing r with
  | nil => exact Nat.le_refl _
  | cons x l ih =>
    have := ih (M.rWrite r x)
    simp only [M.rAllC, List.length_append, List.length_cons]
    split <;> simp <;> omega
theorem take_succ' {L : List Int} {j : Nat} (h : j < L.length) : L.take (j + 1) = L.take j ++ [L.getD j 0] := by
  rw [List.take_add_one, List.getD_eq_getElem?_getD, List.getElem?_eq_getElem h]
  rfl
end Go.Proofs.Ytkkkjdbcckaedaa
