/- Of the arbiter: one owner among the granted, the first of those that ask, whether any asks. Plain mathematics. -/
import Derived.Test.YtmoafjgogbcoeaaArRow
namespace Go.Proofs.Ytmoafjgogbcoeaa
open Go.RowKit
set_option linter.unusedVariables false
def M.cnt (G : List Bool) : Nat → Int
  | 0 => 0
  | j + 1 => M.cnt G j + (if G.getD j false then 1 else 0)
def M.anyB (L : List Bool) : Nat → Bool
  | 0 => false
  | j + 1 => M.anyB L j || L.getD j false
theorem M.cnt_in (G : List Bool) (j : Nat) : 0 ≤ M.cnt G j ∧ M.cnt G j ≤ j := by
  induction j with
  | zero => exact ⟨Int.le_refl _, Int.le_refl _⟩
  | succ j ih =>
    rw [M.cnt]
    split <;> omega
theorem M.cnt_yes {G : List Bool} {j : Nat} (h : G.getD j false = true) : M.cnt G j + 1 = M.cnt G (j + 1) := by rw [M.cnt, h]; rfl
theorem M.cnt_no {G : List Bool} {j : Nat} (h : G.getD j false = false) : M.cnt G j = M.cnt G (j + 1) := by rw [M.cnt, h]; simp
theorem M.arGp_at {o : Int} {k i : Nat} (h : i < k) : (M.arGp o k).getD i false = decide ((i : Int) = o) := by simp [M.arGp, List.getD_eq_getElem?_getD, h]
theorem M.cnt_arGp {o : Int} (h0 : 0 ≤ o) (k : Nat) : ∀ j, j ≤ k → M.cnt (M.arGp o k) j = if o < (j : Int) then 1 else 0 := by
  intro j
  induction j with
  | zero => intro _; rw [M.cnt, if_neg (by omega)]
  | succ j ih =>
    intro hj
    rw [M.cnt, ih (by omega), M.arGp_at (by omega)]
    by_cases h1 : (j : Int) = o
    · simp [h1]
      omega
    · simp [h1]
      by_cases h2 : o < (j : Int)
      · rw [if_pos h2, if_pos (by omega)]
      · rw [if_neg h2, if_neg (by omega)]
theorem M.cnt_arG {N o : Int} (h1 : 1 ≤ N) (h8 : N ≤ 8) (h0 : 0 ≤ o) (ho : o ≤ N - 1) : M.cnt (M.arG N o) (M.arG N o).length = 1 := by
  have hl : (M.arG N o).length = (min N 8).toNat := by rw [M.arG, M.arGp_len]
  rw [hl]
  unfold M.arG
  rw [M.cnt_arGp h0 _ _ (Nat.le_refl _), if_pos (by omega)]
theorem M.arFirst_cases (e : Int) (L : List Bool) : (∃ i : Nat, i < L.length ∧ M.arP e L i = true ∧ M.arFirst e L = (i : Int)) ∨ ((∀ i, i < L.length → M.arP e L i = false) ∧ M.arFirst e L = e) := by
  cases h : (List.range L.length).find? (M.arP e L) with
  | none =>
    refine .inr ⟨fun i hi => ?_, ?_⟩
    · have := List.find?_range_eq_none.1 h i hi
      simpa using this
    · unfold M.arFirst; rw [h]
  | some i =>
    have := List.find?_range_eq_some.1 h
    refine .inl ⟨i, List.mem_range.1 this.2.1, this.1, ?_⟩
    unfold M.arFirst; rw [h]
theorem M.arP_iff {e : Int} {L : List Bool} {i : Nat} : M.arP e L i = true ↔ (i : Int) < e ∧ L.getD i false = true := by simp [M.arP]
theorem M.arFirst_in {e : Int} (L : List Bool) (h : 0 ≤ e) : 0 ≤ M.arFirst e L ∧ M.arFirst e L ≤ e := by
  rcases M.arFirst_cases e L with ⟨i, _, hp, h1⟩ | ⟨_, h1⟩
  · have := (M.arP_iff.1 hp).1
    rw [h1]
    omega
  · rw [h1]
    omega
theorem M.arE_of {N : Int} (h : 1 ≤ N) : M.arE N = N - 1 := (M.arE_ge h).symm
theorem M.arTick_in {N o : Int} (h1 : 1 ≤ N) (h0 : 0 ≤ o) (ho : o ≤ N - 1) (a : List Bool) (b : Bool) : 0 ≤ M.arTick N o a b ∧ M.arTick N o a b ≤ N - 1 := by
  cases b
  · exact ⟨h0, ho⟩
  · have := M.arFirst_in (e := M.arE N) a (by rw [M.arE_of h1]; omega)
    rw [M.arE_of h1] at this
    show 0 ≤ M.arFirst (M.arE N) a ∧ M.arFirst (M.arE N) a ≤ N - 1
    rw [M.arE_of h1]
    exact this
theorem M.arTick_zero {N o : Int} {a : List Bool} (h1 : 1 < N) (h2 : 0 < a.length) (h3 : a.getD 0 false = true) : M.arTick N o a true = 0 := by
  show M.arFirst (M.arE N) a = 0
  exact M.arFirst_hit h2 (M.arP_iff.2 ⟨by rw [M.arE_of (by omega)]; show (0 : Int) < N - 1; omega, h3⟩) (fun j hj => absurd hj (Nat.not_lt_zero _))
theorem M.anyB_iff (L : List Bool) (K : Nat) : M.anyB L K = true ↔ ∃ k, k < K ∧ L.getD k false = true := by
  induction K with
  | zero => simp [M.anyB]
  | succ K ih =>
    rw [M.anyB, Bool.or_eq_true, ih]
    constructor
    · rintro (⟨k, h1, h2⟩ | h)
      · exact ⟨k, by omega, h2⟩
      · exact ⟨K, by omega, h⟩
    · rintro ⟨k, h1, h2⟩
      by_cases hk : k = K
      · exact .inr (hk ▸ h2)
      · exact .inl ⟨k, by omega, h2⟩
theorem M.arTick_any {N o : Int} {a : List Bool} (h1 : 1 ≤ N) {K : Nat} (hK : K = min a.length (N - 1).toNat) : M.anyB a K = !(decide (M.arTick N o a true = N - 1)) := by
  have hT : M.arTick N o a true = M.arFirst (N - 1) a := by
    show M.arFirst (M.arE N) a = _
    rw [M.arE_of h1]
  rw [hT]
  rcases M.arFirst_cases (N - 1) a with ⟨i, hi, hp, h⟩ | ⟨hn, h⟩
  · have hp' := M.arP_iff.1 hp
    rw [h, decide_eq_false (by omega)]
    exact (M.anyB_iff a K).2 ⟨i, by omega, hp'.2⟩
  · rw [h]
    simp only [decide_true, Bool.not_true]
    cases hb : M.anyB a K with
    | false => rfl
    | true =>
      obtain ⟨k, hk, hk2⟩ := (M.anyB_iff a K).1 hb
      have := hn k (by omega)
      rw [M.arP_iff.2 ⟨by omega, hk2⟩] at this
      cases this
theorem M.arN_one (m : Int) : 1 ≤ M.arN m ∧ M.arN m ≤ 8 := by unfold M.arN; omega
end Go.Proofs.Ytmoafjgogbcoeaa
