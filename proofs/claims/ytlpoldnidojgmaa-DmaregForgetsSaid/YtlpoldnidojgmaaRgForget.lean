/- What is still to come is little; nine bytes make it forget all; All of no bytes. -/
import Derived.Test.YtlpoldnidojgmaaRgAll
namespace Go.Proofs.Ytlpoldnidojgmaa
open Go.RowKit
set_option linter.unusedVariables false
set_option linter.unusedSimpArgs false
set_option maxRecDepth 100000
theorem M.rWants_mem (b num : Int) (n k : Nat) : ∀ x ∈ M.rWants b num n k, num ≤ x ∧ x < num + (k : Int) := by
  induction k with
  | zero => intro x hx; cases hx
  | succ k ih =>
    intro x hx
    rcases List.mem_append.1 hx with h | h
    · have := ih x h; omega
    · split at h
      · rcases List.mem_singleton.1 h with rfl; omega
      · cases h
def M.Few (l : List Int) : Prop := ∃ p : List Int, ((l = p ∧ p.length ≤ 4) ∨ (l = p ++ [11] ∧ p.length ≤ 2)) ∧ 11 ∉ p
theorem M.Few.len {l : List Int} (h : M.Few l) : l.length ≤ 4 := by
  obtain ⟨p, (⟨rfl, h⟩ | ⟨rfl, h⟩), _⟩ := h
  · exact h
  · simp; omega
theorem M.few_wants (b num : Int) (n k : Nat) (hk : k ≤ 4) (h : num + (k : Int) ≤ 11 ∨ 11 < num) : M.Few (M.rWants b num n k) :=
  ⟨_, .inl ⟨rfl, Nat.le_trans (M.rWants_len _ _ _ _) hk⟩, fun hx => by have := M.rWants_mem b num n k 11 hx; omega⟩
theorem M.few_nil : M.Few [] := ⟨[], .inl ⟨rfl, by simp⟩, by simp⟩
theorem M.few_three (b : Int) : M.Few (M.rWants b 9 2 3) := by
  have h2 := M.rWants_len b 9 2 2
  have hm := M.rWants_mem b 9 2 2
  show M.Few (M.rWants b 9 2 2 ++ (if M.is b ((2 + 2 : Nat) : Int) then [9 + ((2 : Nat) : Int)] else []))
  split
  · exact ⟨_, .inr ⟨rfl, h2⟩, fun hx => by have := hm 11 hx; omega⟩
  · exact ⟨_, .inl ⟨List.append_nil _, by omega⟩, fun hx => by have := hm 11 hx; omega⟩
theorem M.ite_few {c : Prop} [Decidable c] {x y : M.Rg} (h : c → M.Few x.want) (g : ¬ c → M.Few y.want) : M.Few (if c then x else y).want := by
  by_cases k : c
  · rw [if_pos k]; exact h k
  · rw [if_neg k]; exact g k
theorem M.ite_want {c : Prop} [Decidable c] {x y : M.Rg} {l : List Int} (h : c → x.want = l) (g : ¬ c → y.want = l) : (if c then x else y).want = l := by
  by_cases k : c
  · rw [if_pos k]; exact h k
  · rw [if_neg k]; exact g k
theorem M.few_write {r : M.Rg} (h : M.Few r.want) (b : Int) : M.Few (M.rWrite r b).want := by
  unfold M.rWrite
  cases hw : r.want with
  | nil =>
    have hn : M.Few r.want := h
    simp only
    unfold M.rBase M.rCmd
    repeat' refine M.ite_few (fun _ => ?_) (fun _ => ?_)
    all_goals first
      | exact hn
      | exact M.few_nil
      | exact M.few_wants b 1 3 4 (by decide) (by decide)
      | exact M.few_wants b 5 6 1 (by decide) (by decide)
      | exact M.few_wants b 6 6 1 (by decide) (by decide)
      | exact M.few_wants b 7 3 2 (by decide) (by decide)
      | exact M.few_three b
      | exact ⟨[14], .inl ⟨rfl, by decide⟩, by decide⟩
  | cons k rest =>
    rw [hw] at h
    simp only
    by_cases k11 : k = 11
    · have e1 : (M.rTake r b k rest).want = M.rWants b 12 3 2 ++ rest := by subst k11; unfold M.rTake; simp
      have hr : rest = [] := by
        obtain ⟨p, (⟨hp, _⟩ | ⟨hp, _⟩), hn⟩ := h
        · exact absurd (by rw [← hp, k11]; exact .head _) hn
        · cases p with
          | nil => simp at hp; exact hp.2
          | cons y p => simp at hp; exact absurd (by rw [← hp.1, k11]; exact .head _) hn
      rw [e1, hr, List.append_nil]
      exact M.few_wants b 12 3 2 (by decide) (by decide)
    · have e1 : (M.rTake r b k rest).want = rest := by
        unfold M.rTake
        repeat' refine M.ite_want (fun _ => ?_) (fun _ => ?_)
        all_goals first | rfl | exact absurd ‹k = 11› k11
      rw [e1]
      obtain ⟨p, (⟨hp, h4⟩ | ⟨hp, h2⟩), hn⟩ := h
      · subst hp
        exact ⟨rest, .inl ⟨rfl, by simp at h4; omega⟩, fun hx => hn (.tail _ hx)⟩
      · cases p with
        | nil => simp at hp; exact absurd hp.1 k11
        | cons y p =>
          simp at hp
          exact ⟨p, .inr ⟨hp.2, by simp at h2; omega⟩, fun hx => hn (.tail _ hx)⟩
theorem M.few_all {r : M.Rg} (h : M.Few r.want) (l : List Int) : M.Few (M.rAll r l).want := by
  induction l generalizing r with
  | nil => exact h
  | cons x l ih => exact ih (M.few_write h x)
theorem M.write_zero (r : M.Rg) : (M.rWrite r 0).want = r.want.tail := by
  unfold M.rWrite
  cases hw : r.want with
  | nil =>
    have e : M.rBase r 0 = M.rLow r 0 := M.rBase_low (by decide)
    simp only [e]
    unfold M.rLow
    rw [if_neg (by decide), if_neg (by decide)]
    rfl
  | cons k rest =>
    have h0 : M.rWants 0 12 3 2 = [] := by decide +kernel
    simp only [List.tail_cons]
    unfold M.rTake
    repeat' refine M.ite_want (fun _ => ?_) (fun _ => ?_)
    all_goals first | rfl | (show M.rWants 0 12 3 2 ++ rest = rest; rw [h0]; rfl)
theorem M.forgets (r : M.Rg) (h : r.want.length ≤ 8) : M.rAll r [0, 0, 0, 0, 0, 0, 0, 0, 195] = M.rReset := by
  simp only [M.rAll]
  have e : ∀ x : M.Rg, x.want = [] → M.rWrite x 195 = M.rReset := fun x hx => by
    have : M.rWrite x 195 = M.rBase x 195 := by simp only [M.rWrite, hx]
    rw [this]
    rfl
  refine e _ ?_
  rw [M.write_zero, M.write_zero, M.write_zero, M.write_zero, M.write_zero, M.write_zero, M.write_zero, M.write_zero]
  match r.want, h with
  | [], _ => rfl
  | [_], _ => rfl
  | [_, _], _ => rfl
  | [_, _, _], _ => rfl
  | [_, _, _, _], _ => rfl
  | [_, _, _, _, _], _ => rfl
  | [_, _, _, _, _, _], _ => rfl
  | [_, _, _, _, _, _, _], _ => rfl
  | [_, _, _, _, _, _, _, _], _ => rfl
  | _ :: _ :: _ :: _ :: _ :: _ :: _ :: _ :: _ :: _, h => simp at h
set_option maxHeartbeats 4000000 in
theorem dall_nil (r : M.Rg) (A : Option Addr) (n c : Nat) (A2 : Option Addr) (c2 : Nat) (w : World) : Calls Try.prog 31 #[.agg (r.c (.slice A n c)), .slice A2 0 c2] w fun e w' => e = .returned (.tuple #[.agg (r.c (.slice A n c)), .slice none 0 0]) ∧ Below w.heap.size w w' := by
  have hS := St.start w.heap.size 0 0 w
  go_enter Try.func31, Try.ntmps31
  go_wp2_with (first
  | ((with_reducible refine to_boxT 59 rfl ?_); refine Wl_box hS (fun _ => by rfl) _ rfl ?_; clear hS; intro b2 wW hS; simp only [Act.put, List.setIfInBounds_toArray, List.set_cons_zero, List.set_cons_succ])
  | ((with_reducible refine to_alloc 59 rfl ?_); refine Wl_alloc hS (fun _ => by rfl) _ rgZ ?_; clear hS; intro b4 wW hS; simp only [Act.put, List.setIfInBounds_toArray, List.set_cons_zero, List.set_cons_succ])
  | ((with_reducible refine to_load 59 rfl ?_); refine Wl_load hS (fun _ => by rfl) _ _ rfl _ Try.underlying59 rfl ?_; (repeat (first | (refine Row.here ⟨rgI.trans rfl, ?_⟩) | refine Row.next ?_)); (with_reducible show wpList _ _ _ _ _ _); simp only [Act.put, List.setIfInBounds_toArray, List.set_cons_zero, List.set_cons_succ])
  | ((with_reducible refine to_store 59 rfl ?_); refine Wl_store hS (fun _ => by rfl) _ _ _ rfl rfl (rgI.trans rfl) (rg_one _ _ _ _) ?_; (repeat (first | refine Turn.here rfl ?_ | refine Turn.next ?_)); clear hS; intro wW hS; try simp only [Act.put, List.setIfInBounds_toArray, List.set_cons_zero, List.set_cons_succ]))
  have HS0 := Lib.hid hS
  clear hS
  go_loopw [6, 12] (fun o i wr => o = .slice none 0 0 ∧ i = .int .i64 0 ∧ St w.heap.size 0 0 w [⟨b4, 0, true, M.rZero.c nilS⟩, ⟨b2, 0, true, r.c (.slice A n c)⟩] wr) (fun _ _ _ => 0)
  case atStart => exact ⟨rfl, rfl, HS0.out⟩
  case round =>
    clear HS0
    obtain ⟨rfl, rfl, hS⟩ := hrel
    go_wp2_with (first
  | ((with_reducible refine to_boxT 59 rfl ?_); refine Wl_box hS (fun _ => by rfl) _ rfl ?_; clear hS; intro b2 wW hS; simp only [Act.put, List.setIfInBounds_toArray, List.set_cons_zero, List.set_cons_succ])
  | ((with_reducible refine to_alloc 59 rfl ?_); refine Wl_alloc hS (fun _ => by rfl) _ rgZ ?_; clear hS; intro b4 wW hS; simp only [Act.put, List.setIfInBounds_toArray, List.set_cons_zero, List.set_cons_succ])
  | ((with_reducible refine to_load 59 rfl ?_); refine Wl_load hS (fun _ => by rfl) _ _ rfl _ Try.underlying59 rfl ?_; (repeat (first | (refine Row.here ⟨rgI.trans rfl, ?_⟩) | refine Row.next ?_)); (with_reducible show wpList _ _ _ _ _ _); simp only [Act.put, List.setIfInBounds_toArray, List.set_cons_zero, List.set_cons_succ])
  | ((with_reducible refine to_store 59 rfl ?_); refine Wl_store hS (fun _ => by rfl) _ _ _ rfl rfl (rgI.trans rfl) (rg_one _ _ _ _) ?_; (repeat (first | refine Turn.here rfl ?_ | refine Turn.next ?_)); clear hS; intro wW hS; try simp only [Act.put, List.setIfInBounds_toArray, List.set_cons_zero, List.set_cons_succ]))
    refine ret_tmp_st hS rfl _ _ rfl _ rfl rfl _ Try.underlying59 rfl ?_
    repeat (first | (refine Row.here ⟨rgI.trans rfl, ?_⟩) | refine Row.next ?_)
    exact ⟨rfl, hS.below⟩
end Go.Proofs.Ytlpoldnidojgmaa
