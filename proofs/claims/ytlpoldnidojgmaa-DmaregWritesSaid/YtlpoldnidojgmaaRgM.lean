/- How a DMA is told, as plain mathematics: what a byte makes of what it knows. No Go, no memory but the cells' values. -/
import Derived.Test.YtlpoldnidojgmaaMath2
import Derived.Test.YtlpoldnidojgmaaMath3
namespace Go.Proofs.Ytlpoldnidojgmaa
open Go.RowKit
set_option linter.unusedVariables false

/-- What it was told; 'want': the bytes that are still to come. -/
structure M.Rg where
  cls : Int
  atob : Bool
  a : Int
  b : Int
  len : Int
  aio : Bool
  bio : Bool
  astep : Int
  bstep : Int
  atime : Int
  btime : Int
  mask : Int
  mat : Int
  stop : Bool
  mode : Int
  ctl : Int
  pulse : Int
  vec : Int
  high : Bool
  auto : Bool
  rmask : Int
  ints : Bool
  on : Bool
  want : List Int
structure M.Rg.ok (r : M.Rg) : Prop where
  a : 0 ≤ r.a ∧ r.a ≤ 65535
  b : 0 ≤ r.b ∧ r.b ≤ 65535
  len : 0 ≤ r.len ∧ r.len ≤ 65535
  mask : 0 ≤ r.mask ∧ r.mask ≤ 255
  mat : 0 ≤ r.mat ∧ r.mat ≤ 255
  ctl : 0 ≤ r.ctl ∧ r.ctl ≤ 255
  pulse : 0 ≤ r.pulse ∧ r.pulse ≤ 255
  vec : 0 ≤ r.vec ∧ r.vec ≤ 255
  rmask : 0 ≤ r.rmask ∧ r.rmask ≤ 255
  cls : -9223372036854775808 ≤ r.cls ∧ r.cls ≤ 9223372036854775807
  astep : -9223372036854775808 ≤ r.astep ∧ r.astep ≤ 9223372036854775807
  bstep : -9223372036854775808 ≤ r.bstep ∧ r.bstep ≤ 9223372036854775807
  atime : -9223372036854775808 ≤ r.atime ∧ r.atime ≤ 9223372036854775807
  btime : -9223372036854775808 ≤ r.btime ∧ r.btime ≤ 9223372036854775807
  mode : -9223372036854775808 ≤ r.mode ∧ r.mode ≤ 9223372036854775807
  want : ∀ x ∈ r.want, -9223372036854775808 ≤ x ∧ x ≤ 9223372036854775807
/-- Its cells; the last one holds the slice of the bytes that are to come. -/
def M.Rg.v (r : M.Rg) (s : Value) : List Value := [.int .i64 r.cls, .bool r.atob, .int .u16 r.a, .int .u16 r.b, .int .u16 r.len, .bool r.aio, .bool r.bio, .int .i64 r.astep, .int .i64 r.bstep, .int .i64 r.atime, .int .i64 r.btime, .int .u8 r.mask, .int .u8 r.mat, .bool r.stop, .int .i64 r.mode, .int .u8 r.ctl, .int .u8 r.pulse, .int .u8 r.vec, .bool r.high, .bool r.auto, .int .u8 r.rmask, .bool r.ints, .bool r.on, s]
def M.Rg.c (r : M.Rg) (s : Value) : Array Value := (r.v s).toArray
def M.rZero : M.Rg := ⟨0, false, 0, 0, 0, false, false, 0, 0, 0, 0, 0, 0, false, 0, 0, 0, 0, false, false, 0, false, false, []⟩
def M.rReset : M.Rg := ⟨1, true, 0, 0, 0, false, false, 1, 1, 0, 0, 0, 0, false, 0, 0, 0, 0, false, false, 127, false, false, []⟩
def M.rTime (b : Int) : Int := if b % 4 = 0 then 4 else if b % 4 = 1 then 3 else if b % 4 = 2 then 2 else 0
def M.rStep (b : Int) : Int := if b / 16 % 4 = 0 then -1 else if b / 16 % 4 = 1 then 1 else 0
/-- Which bytes are to come: from a number on, each if its bit is set, from bit n on, so many. -/
def M.rWants (b num : Int) (n : Nat) : Nat → List Int
  | 0 => []
  | k + 1 => M.rWants b num n k ++ (if M.is b (n + k : Nat) then [num + (k : Int)] else [])
def M.lowW (x b : Int) : Int := x / 256 * 256 + b
def M.highW (x b : Int) : Int := b * 256 + x % 256
def M.rTake (r : M.Rg) (b k : Int) (rest : List Int) : M.Rg :=
  if k = 1 then { r with want := rest, a := M.lowW r.a b }
  else if k = 2 then { r with want := rest, a := M.highW r.a b }
  else if k = 3 then { r with want := rest, len := M.lowW r.len b }
  else if k = 4 then { r with want := rest, len := M.highW r.len b }
  else if k = 5 then { r with want := rest, atime := M.rTime b }
  else if k = 6 then { r with want := rest, btime := M.rTime b }
  else if k = 7 then { r with want := rest, mask := b }
  else if k = 8 then { r with want := rest, mat := b }
  else if k = 9 then { r with want := rest, b := M.lowW r.b b }
  else if k = 10 then { r with want := rest, b := M.highW r.b b }
  else if k = 11 then { r with want := M.rWants b 12 3 2 ++ rest, ctl := b }
  else if k = 12 then { r with want := rest, pulse := b }
  else if k = 13 then { r with want := rest, vec := b }
  else if k = 14 then { r with want := rest, rmask := b % 128 }
  else { r with want := rest }
def M.rCmd (r : M.Rg) (b : Int) : M.Rg :=
  if b = 195 then M.rReset
  else if b = 199 then { r with atime := 0 }
  else if b = 203 then { r with btime := 0 }
  else if b = 175 then { r with ints := false }
  else if b = 163 then { r with ints := false }
  else if b = 171 then { r with ints := true }
  else if b = 135 then { r with on := true }
  else if b = 131 then { r with on := false }
  else if b = 187 then { r with want := [14] }
  else r
def M.rBase (r : M.Rg) (b : Int) : M.Rg :=
  if b < 128 then
    if b % 4 ≠ 0 then { r with cls := b % 4, atob := M.is b 2, want := M.rWants b 1 3 4 }
    else if M.is b 2 then { r with aio := M.is b 3, astep := M.rStep b, want := M.rWants b 5 6 1 }
    else { r with bio := M.is b 3, bstep := M.rStep b, want := M.rWants b 6 6 1 }
  else if b % 4 = 0 then { r with stop := M.is b 2, want := M.rWants b 7 3 2, ints := M.is b 5, on := r.on || M.is b 6 }
  else if b % 4 = 1 then { r with mode := b / 32 % 4, want := M.rWants b 9 2 3 }
  else if b % 4 = 2 then { r with high := M.is b 3, auto := M.is b 5 }
  else M.rCmd r b
def M.rBaseC (b : Int) : Int := if 128 ≤ b ∧ b % 4 = 3 then b else 0
def M.rWrite (r : M.Rg) (b : Int) : M.Rg :=
  match r.want with
  | [] => M.rBase r b
  | k :: rest => M.rTake r b k rest
def M.rWriteC (r : M.Rg) (b : Int) : Int := if r.want = [] then M.rBaseC b else 0
def M.rAll (r : M.Rg) : List Int → M.Rg
  | [] => r
  | b :: l => M.rAll (M.rWrite r b) l
def M.rAllC (r : M.Rg) : List Int → List Int
  | [] => []
  | b :: l => (if M.rWriteC r b = 0 then [] else [M.rWriteC r b]) ++ M.rAllC (M.rWrite r b) l
theorem M.rAll_snoc (r : M.Rg) (l : List Int) (b : Int) : M.rAll r (l ++ [b]) = M.rWrite (M.rAll r l) b := by
  induction l generalizing r with
  | nil => rfl
  | cons x l ih => exact ih _
theorem M.rAll_append (r : M.Rg) (l m : List Int) : M.rAll r (l ++ m) = M.rAll (M.rAll r l) m := by
  induction l generalizing r with
  | nil => rfl
  | cons x l ih => exact ih _
theorem M.rAllC_append (r : M.Rg) (l m : List Int) : M.rAllC r (l ++ m) = M.rAllC r l ++ M.rAllC (M.rAll r l) m := by
  induction l generalizing r with
  | nil => rfl
  | cons x l ih => simp only [List.cons_append, M.rAllC, M.rAll, ih, List.append_assoc]
theorem M.rAllC_snoc (r : M.Rg) (l : List Int) (b : Int) : M.rAllC r (l ++ [b]) = M.rAllC r l ++ (if M.rWriteC (M.rAll r l) b = 0 then [] else [M.rWriteC (M.rAll r l) b]) := by
  rw [M.rAllC_append]; simp [M.rAllC]
theorem M.rWants_small (b num : Int) (n k : Nat) (h0 : -1000 ≤ num) (h1 : num ≤ 1000) (hk : k ≤ 100) : ∀ x ∈ M.rWants b num n k, -9223372036854775808 ≤ x ∧ x ≤ 9223372036854775807 := by
  induction k with
  | zero => intro x hx; cases hx
  | succ k ih =>
    intro x hx
    rcases List.mem_append.1 hx with h | h
    · exact ih (by omega) x h
    · split at h
      · rcases List.mem_singleton.1 h with rfl; omega
      · cases h
theorem M.rWants_len (b num : Int) (n k : Nat) : (M.rWants b num n k).length ≤ k := by
  induction k with
  | zero => exact Nat.le_refl _
  | succ k ih =>
    simp only [M.rWants, List.length_append]
    split <;> simp <;> omega
theorem M.lowW_range {x b : Int} (hx : 0 ≤ x ∧ x ≤ 65535) (h0 : 0 ≤ b) (h1 : b ≤ 255) : 0 ≤ M.lowW x b ∧ M.lowW x b ≤ 65535 := by unfold M.lowW; omega
theorem M.highW_range {x b : Int} (hx : 0 ≤ x ∧ x ≤ 65535) (h0 : 0 ≤ b) (h1 : b ≤ 255) : 0 ≤ M.highW x b ∧ M.highW x b ≤ 65535 := by unfold M.highW; omega
theorem M.rTime_range (b : Int) : -9223372036854775808 ≤ M.rTime b ∧ M.rTime b ≤ 9223372036854775807 := by unfold M.rTime; split <;> (try split) <;> (try split) <;> omega
theorem M.rStep_range (b : Int) : -9223372036854775808 ≤ M.rStep b ∧ M.rStep b ≤ 9223372036854775807 := by unfold M.rStep; split <;> (try split) <;> omega
theorem M.rReset_ok : M.rReset.ok := by constructor <;> first | decide | (intro x hx; cases hx)
theorem M.ite_ok {c : Prop} [Decidable c] {x y : M.Rg} (h : c → x.ok) (g : ¬ c → y.ok) : (if c then x else y).ok := by
  by_cases k : c
  · rw [if_pos k]; exact h k
  · rw [if_neg k]; exact g k
theorem M.rTake_ok {r : M.Rg} (h : r.ok) {b k : Int} {rest : List Int} (h0 : 0 ≤ b) (h1 : b ≤ 255) (hr : ∀ x ∈ rest, -9223372036854775808 ≤ x ∧ x ≤ 9223372036854775807) : (M.rTake r b k rest).ok := by
  have hl := fun x hx => M.lowW_range (x := x) hx h0 h1
  have hh := fun x hx => M.highW_range (x := x) hx h0 h1
  unfold M.rTake
  repeat' refine M.ite_ok (fun _ => ?_) (fun _ => ?_)
  all_goals
    refine ⟨?_, ?_, ?_, ?_, ?_, ?_, ?_, ?_, ?_, ?_, ?_, ?_, ?_, ?_, ?_, ?_⟩
    all_goals first
      | exact h.a
      | exact h.b
      | exact h.len
      | exact h.mask
      | exact h.mat
      | exact h.ctl
      | exact h.pulse
      | exact h.vec
      | exact h.rmask
      | exact h.cls
      | exact h.astep
      | exact h.bstep
      | exact h.atime
      | exact h.btime
      | exact h.mode
      | exact hr
      | exact ⟨h0, h1⟩
      | exact hl _ h.a
      | exact hl _ h.b
      | exact hl _ h.len
      | exact hh _ h.a
      | exact hh _ h.b
      | exact hh _ h.len
      | exact M.rTime_range b
      | (show 0 ≤ b % 128 ∧ b % 128 ≤ 255; omega)
      | (intro x hx; rcases List.mem_append.1 hx with hx | hx; exact M.rWants_small _ _ _ _ (by decide) (by decide) (by decide) x hx; exact hr x hx)
theorem M.rBase_ok {r : M.Rg} (h : r.ok) {b : Int} (h0 : 0 ≤ b) (h1 : b ≤ 255) : (M.rBase r b).ok := by
  unfold M.rBase M.rCmd
  repeat' refine M.ite_ok (fun _ => ?_) (fun _ => ?_)
  all_goals first
    | exact h
    | exact M.rReset_ok
    | (refine ⟨?_, ?_, ?_, ?_, ?_, ?_, ?_, ?_, ?_, ?_, ?_, ?_, ?_, ?_, ?_, ?_⟩
       all_goals first
        | exact h.a
        | exact h.b
        | exact h.len
        | exact h.mask
        | exact h.mat
        | exact h.ctl
        | exact h.pulse
        | exact h.vec
        | exact h.rmask
        | exact h.cls
        | exact h.astep
        | exact h.bstep
        | exact h.atime
        | exact h.btime
        | exact h.mode
        | exact h.want
        | exact M.rStep_range b
        | (show _ ≤ b % 4 ∧ b % 4 ≤ _; omega)
        | (show _ ≤ (0 : Int) ∧ (0 : Int) ≤ _; decide)
        | (show _ ≤ b / 32 % 4 ∧ b / 32 % 4 ≤ _; omega)
        | exact M.rWants_small _ _ _ _ (by decide) (by decide) (by decide)
        | decide
        | (intro x hx; rcases List.mem_singleton.1 hx with rfl; decide))
theorem M.rWrite_ok {r : M.Rg} (h : r.ok) {b : Int} (h0 : 0 ≤ b) (h1 : b ≤ 255) : (M.rWrite r b).ok := by
  unfold M.rWrite
  split
  · exact M.rBase_ok h h0 h1
  · rename_i k rest hw
    exact M.rTake_ok h h0 h1 fun x hx => h.want x (by rw [hw]; exact .tail _ hx)
theorem M.rAll_ok {r : M.Rg} (h : r.ok) {l : List Int} (hl : ∀ x ∈ l, 0 ≤ x ∧ x ≤ 255) : (M.rAll r l).ok := by
  induction l generalizing r with
  | nil => exact h
  | cons x l ih => exact ih (M.rWrite_ok h (hl x (.head _)).1 (hl x (.head _)).2) fun y hy => hl y (.tail _ hy)
end Go.Proofs.Ytlpoldnidojgmaa
