/- What a DMA was told, as mathematics, and the slices it makes. -/
import Derived.Test.YtkkkjdbcckaedaaZMath
import Derived.Laws.BitsAllLaws
import Derived.Test.YtkkkjdbcckaedaaZBits
import Derived.Test.YtkkkjdbcckaedaaZSl
import Derived.Lib.LazyBuf
import Derived.Lib.AppendZeros
namespace Go.Proofs.Ytkkkjdbcckaedaa
open Go.RowKit
set_option linter.unusedVariables false

/-- What it was told; 'want': the bytes that are still to come. -/
structure M.Rg where
  cls : Int
  atob : Bool
  a : Int
  b : Int
  len : Int
  aio : Bool
  bio : Bool
  astep : Int
  bstep : Int
  atime : Int
  btime : Int
  mask : Int
  mat : Int
  stop : Bool
  mode : Int
  ctl : Int
  pulse : Int
  vec : Int
  high : Bool
  auto : Bool
  rmask : Int
  ints : Bool
  on : Bool
  want : List Int
structure M.Rg.ok (r : M.Rg) : Prop where
  a : 0 ≤ r.a ∧ r.a ≤ 65535
  b : 0 ≤ r.b ∧ r.b ≤ 65535
  len : 0 ≤ r.len ∧ r.len ≤ 65535
  mask : 0 ≤ r.mask ∧ r.mask ≤ 255
  mat : 0 ≤ r.mat ∧ r.mat ≤ 255
  ctl : 0 ≤ r.ctl ∧ r.ctl ≤ 255
  pulse : 0 ≤ r.pulse ∧ r.pulse ≤ 255
  vec : 0 ≤ r.vec ∧ r.vec ≤ 255
  rmask : 0 ≤ r.rmask ∧ r.rmask ≤ 255
  cls : -9223372036854775808 ≤ r.cls ∧ r.cls ≤ 9223372036854775807
  astep : -9223372036854775808 ≤ r.astep ∧ r.astep ≤ 9223372036854775807
  bstep : -9223372036854775808 ≤ r.bstep ∧ r.bstep ≤ 9223372036854775807
  atime : -9223372036854775808 ≤ r.atime ∧ r.atime ≤ 9223372036854775807
  btime : -9223372036854775808 ≤ r.btime ∧ r.btime ≤ 9223372036854775807
  mode : -9223372036854775808 ≤ r.mode ∧ r.mode ≤ 9223372036854775807
  want : ∀ x ∈ r.want, -9223372036854775808 ≤ x ∧ x ≤ 9223372036854775807
/-- Its cells; the last one holds the slice of the bytes that are to come. -/
def M.Rg.v (r : M.Rg) (s : Value) : List Value := [.int .i64 r.cls, .bool r.atob, .int .u16 r.a, .int .u16 r.b, .int .u16 r.len, .bool r.aio, .bool r.bio, .int .i64 r.astep, .int .i64 r.bstep, .int .i64 r.atime, .int .i64 r.btime, .int .u8 r.mask, .int .u8 r.mat, .bool r.stop, .int .i64 r.mode, .int .u8 r.ctl, .int .u8 r.pulse, .int .u8 r.vec, .bool r.high, .bool r.auto, .int .u8 r.rmask, .bool r.ints, .bool r.on, s]
def M.Rg.c (r : M.Rg) (s : Value) : Array Value := (r.v s).toArray
def M.rZero : M.Rg := ⟨0, false, 0, 0, 0, false, false, 0, 0, 0, 0, 0, 0, false, 0, 0, 0, 0, false, false, 0, false, false, []⟩
def M.rReset : M.Rg := ⟨1, true, 0, 0, 0, false, false, 1, 1, 0, 0, 0, 0, false, 0, 0, 0, 0, false, false, 127, false, false, []⟩
def M.rTime (b : Int) : Int := if b % 4 = 0 then 4 else if b % 4 = 1 then 3 else if b % 4 = 2 then 2 else 0
def M.rStep (b : Int) : Int := if b / 16 % 4 = 0 then -1 else if b / 16 % 4 = 1 then 1 else 0
/-- Which bytes are to come: from a number on, each if its bit is set, from bit n on, so many. -/
def M.rWants (b num : Int) (n : Nat) : Nat → List Int
  | 0 => []
  | k + 1 => M.rWants b num n k ++ (if M.is b (n + k : Nat) then [num + (k : Int)] else [])
def M.lowW (x b : Int) : Int := x / 256 * 256 + b
def M.highW (x b : Int) : Int := b * 256 + x % 256
def M.rTake (r : M.Rg) (b k : Int) (rest : List Int) : M.Rg :=
  if k = 1 then { r with want := rest, a := M.lowW r.a b }
  else if k = 2 then { r with want := rest, a := M.highW r.a b }
  else if k = 3 then { r with want := rest, len := M.lowW r.len b }
  else if k = 4 then { r with want := rest, len := M.highW r.len b }
  else if k = 5 then { r with want := rest, atime := M.rTime b }
  else if k = 6 then { r with want := rest, btime := M.rTime b }
  else if k = 7 then { r with want := rest, mask := b }
  else if k = 8 then { r with want := rest, mat := b }
  else if k = 9 then { r with want := rest, b := M.lowW r.b b }
  else if k = 10 then { r with want := rest, b := M.highW r.b b }
  else if k = 11 then { r with want := M.rWants b 12 3 2 ++ rest, ctl := b }
  else if k = 12 then { r with want := rest, pulse := b }
  else if k = 13 then { r with want := rest, vec := b }
  else if k = 14 then { r with want := rest, rmask := b % 128 }
  else { r with want := rest }
def M.rCmd (r : M.Rg) (b : Int) : M.Rg :=
  if b = 195 then M.rReset
  else if b = 199 then { r with atime := 0 }
  else if b = 203 then { r with btime := 0 }
  else if b = 175 then { r with ints := false }
  else if b = 163 then { r with ints := false }
  else if b = 171 then { r with ints := true }
  else if b = 135 then { r with on := true }
  else if b = 131 then { r with on := false }
  else if b = 187 then { r with want := [14] }
  else r
def M.rBase (r : M.Rg) (b : Int) : M.Rg :=
  if b < 128 then
    if b % 4 ≠ 0 then { r with cls := b % 4, atob := M.is b 2, want := M.rWants b 1 3 4 }
    else if M.is b 2 then { r with aio := M.is b 3, astep := M.rStep b, want := M.rWants b 5 6 1 }
    else { r with bio := M.is b 3, bstep := M.rStep b, want := M.rWants b 6 6 1 }
  else if b % 4 = 0 then { r with stop := M.is b 2, want := M.rWants b 7 3 2, ints := M.is b 5, on := r.on || M.is b 6 }
  else if b % 4 = 1 then { r with mode := b / 32 % 4, want := M.rWants b 9 2 3 }
  else if b % 4 = 2 then { r with high := M.is b 3, auto := M.is b 5 }
  else M.rCmd r b
def M.rBaseC (b : Int) : Int := if 128 ≤ b ∧ b % 4 = 3 then b else 0
def M.rWrite (r : M.Rg) (b : Int) : M.Rg :=
  match r.want with
  | [] => M.rBase r b
  | k :: rest => M.rTake r b k rest
def M.rWriteC (r : M.Rg) (b : Int) : Int := if r.want = [] then M.rBaseC b else 0
def M.rAll (r : M.Rg) : List Int → M.Rg
  | [] => r
  | b :: l => M.rAll (M.rWrite r b) l
def M.rAllC (r : M.Rg) : List Int → List Int
  | [] => []
  | b :: l => (if M.rWriteC r b = 0 then [] else [M.rWriteC r b]) ++ M.rAllC (M.rWrite r b) l
theorem M.rAll_snoc (r : M.Rg) (l : List Int) (b : Int) : M.rAll r (l ++ [b]) = M.rWrite (M.rAll r l) b := by
  induction l generalizing r with
  | nil => rfl
  | cons x l ih => exact ih _
theorem M.rAll_append (r : M.Rg) (l m : List Int) : M.rAll r (l ++ m) = M.rAll (M.rAll r l) m := by
  induction l generalizing r with
  | nil => rfl
  | cons x l ih => exact ih _
theorem M.rAllC_append (r : M.Rg) (l m : List Int) : M.rAllC r (l ++ m) = M.rAllC r l ++ M.rAllC (M.rAll r l) m := by
  induction l generalizing r with
  | nil => rfl
  | cons x l ih => simp only [List.cons_append, M.rAllC, M.rAll, ih, List.append_assoc]
theorem M.rAllC_snoc (r : M.Rg) (l : List Int) (b : Int) : M.rAllC r (l ++ [b]) = M.rAllC r l ++ (if M.rWriteC (M.rAll r l) b = 0 then [] else [M.rWriteC (M.rAll r l) b]) := by
  rw [M.rAllC_append]; simp [M.rAllC]
theorem M.rWants_small (b num : Int) (n k : Nat) (h0 : -1000 ≤ num) (h1 : num ≤ 1000) (hk : k ≤ 100) : ∀ x ∈ M.rWants b num n k, -9223372036854775808 ≤ x ∧ x ≤ 9223372036854775807 := by
  induction k with
  | zero => intro x hx; cases hx
  | succ k ih =>
    intro x hx
    rcases List.mem_append.1 hx with h | h
    · exact ih (by omega) x h
    · split at h
      · rcases List.mem_singleton.1 h with rfl; omega
      · cases h
theorem M.rWants_len (b num : Int) (n k : Nat) : (M.rWants b num n k).length ≤ k := by
  induction k with
  | zero => exact Nat.le_refl _
  | succ k ih =>
    simp only [M.rWants, List.length_append]
    split <;> simp <;> omega
theorem M.lowW_range {x b : Int} (hx : 0 ≤ x ∧ x ≤ 65535) (h0 : 0 ≤ b) (h1 : b ≤ 255) : 0 ≤ M.lowW x b ∧ M.lowW x b ≤ 65535 := by unfold M.lowW; omega
theorem M.highW_range {x b : Int} (hx : 0 ≤ x ∧ x ≤ 65535) (h0 : 0 ≤ b) (h1 : b ≤ 255) : 0 ≤ M.highW x b ∧ M.highW x b ≤ 65535 := by unfold M.highW; omega
theorem M.rTime_range (b : Int) : -9223372036854775808 ≤ M.rTime b ∧ M.rTime b ≤ 9223372036854775807 := by unfold M.rTime; split <;> (try split) <;> (try split) <;> omega
theorem M.rStep_range (b : Int) : -9223372036854775808 ≤ M.rStep b ∧ M.rStep b ≤ 9223372036854775807 := by unfold M.rStep; split <;> (try split) <;> omega
theorem M.rReset_ok : M.rReset.ok := by constructor <;> first | decide | (intro x hx; cases hx)
theorem M.ite_ok {c : Prop} [Decidable c] {x y : M.Rg} (h : c → x.ok) (g : ¬ c → y.ok) : (if c then x else y).ok := by
  by_cases k : c
  · rw [if_pos k]; exact h k
  · rw [if_neg k]; exact g k
theorem M.rTake_ok {r : M.Rg} (h : r.ok) {b k : Int} {rest : List Int} (h0 : 0 ≤ b) (h1 : b ≤ 255) (hr : ∀ x ∈ rest, -9223372036854775808 ≤ x ∧ x ≤ 9223372036854775807) : (M.rTake r b k rest).ok := by
  have hl := fun x hx => M.lowW_range (x := x) hx h0 h1
  have hh := fun x hx => M.highW_range (x := x) hx h0 h1
  unfold M.rTake
  repeat' refine M.ite_ok (fun _ => ?_) (fun _ => ?_)
  all_goals
    refine ⟨?_, ?_, ?_, ?_, ?_, ?_, ?_, ?_, ?_, ?_, ?_, ?_, ?_, ?_, ?_, ?_⟩
    all_goals first
      | exact h.a
      | exact h.b
      | exact h.len
      | exact h.mask
      | exact h.mat
      | exact h.ctl
      | exact h.pulse
      | exact h.vec
      | exact h.rmask
      | exact h.cls
      | exact h.astep
      | exact h.bstep
      | exact h.atime
      | exact h.btime
      | exact h.mode
      | exact hr
      | exact ⟨h0, h1⟩
      | exact hl _ h.a
      | exact hl _ h.b
      | exact hl _ h.len
      | exact hh _ h.a
      | exact hh _ h.b
      | exact hh _ h.len
      | exact M.rTime_range b
      | (show 0 ≤ b % 128 ∧ b % 128 ≤ 255; omega)
      | (intro x hx; rcases List.mem_append.1 hx with hx | hx; exact M.rWants_small _ _ _ _ (by decide) (by decide) (by decide) x hx; exact hr x hx)
theorem M.rBase_ok {r : M.Rg} (h : r.ok) {b : Int} (h0 : 0 ≤ b) (h1 : b ≤ 255) : (M.rBase r b).ok := by
  unfold M.rBase M.rCmd
  repeat' refine M.ite_ok (fun _ => ?_) (fun _ => ?_)
  all_goals first
    | exact h
    | exact M.rReset_ok
    | (refine ⟨?_, ?_, ?_, ?_, ?_, ?_, ?_, ?_, ?_, ?_, ?_, ?_, ?_, ?_, ?_, ?_⟩
       all_goals first
        | exact h.a
        | exact h.b
        | exact h.len
        | exact h.mask
        | exact h.mat
        | exact h.ctl
        | exact h.pulse
        | exact h.vec
        | exact h.rmask
        | exact h.cls
        | exact h.astep
        | exact h.bstep
        | exact h.atime
        | exact h.btime
        | exact h.mode
        | exact h.want
        | exact M.rStep_range b
        | (show _ ≤ b % 4 ∧ b % 4 ≤ _; omega)
        | (show _ ≤ (0 : Int) ∧ (0 : Int) ≤ _; decide)
        | (show _ ≤ b / 32 % 4 ∧ b / 32 % 4 ≤ _; omega)
        | exact M.rWants_small _ _ _ _ (by decide) (by decide) (by decide)
        | decide
        | (intro x hx; rcases List.mem_singleton.1 hx with rfl; decide))
theorem M.rWrite_ok {r : M.Rg} (h : r.ok) {b : Int} (h0 : 0 ≤ b) (h1 : b ≤ 255) : (M.rWrite r b).ok := by
  unfold M.rWrite
  split
  · exact M.rBase_ok h h0 h1
  · rename_i k rest hw
    exact M.rTake_ok h h0 h1 fun x hx => h.want x (by rw [hw]; exact .tail _ hx)
theorem M.rAll_ok {r : M.Rg} (h : r.ok) {l : List Int} (hl : ∀ x ∈ l, 0 ≤ x ∧ x ≤ 255) : (M.rAll r l).ok := by
  induction l generalizing r with
  | nil => exact h
  | cons x l ih => exact ih (M.rWrite_ok h (hl x (.head _)).1 (hl x (.head _)).2) fun y hy => hl y (.tail _ hy)
end Go.Proofs.Ytkkkjdbcckaedaa
namespace Go.Proofs.Ytkkkjdbcckaedaa
open Go.RowKit
set_option linter.unusedVariables false
set_option linter.unusedSimpArgs false
theorem M.word_or (h l : Int) (h0 : 0 ≤ h) (h1 : h ≤ 255) (l0 : 0 ≤ l) (l1 : l ≤ 255) : bits .or .u16 (h * 256) l = h * 256 + l := by
  rw [u16_or (h * 256) l (by omega) (by omega) l0 (by omega), nat_join 8 _ _ (by omega) (by omega)]
  omega
theorem M.and_fin : ∀ x : Fin 256, bits .and .u8 (x.val : Int) 3 = (x.val : Int) % 4 ∧ bits .and .u8 (x.val / 16 : Int) 3 = (x.val : Int) / 16 % 4 ∧ bits .and .u8 (x.val / 32 : Int) 3 = (x.val : Int) / 32 % 4 ∧ (bits .and .u8 (x.val : Int) 128 != 0) = decide (128 ≤ (x.val : Int)) ∧ bits .and .u8 (x.val : Int) 127 = (x.val : Int) % 128 := by decide +kernel
theorem M.and3 (b : Int) (h0 : 0 ≤ b) (h1 : b ≤ 255) : bits .and .u8 b 3 = b % 4 := by
  obtain ⟨x, rfl⟩ := M.fin_of h0 h1; exact (M.and_fin x).1
theorem M.and3s (b : Int) (h0 : 0 ≤ b) (h1 : b ≤ 255) : bits .and .u8 (b / 16) 3 = b / 16 % 4 := by
  obtain ⟨x, rfl⟩ := M.fin_of h0 h1; exact (M.and_fin x).2.1
theorem M.and3m (b : Int) (h0 : 0 ≤ b) (h1 : b ≤ 255) : bits .and .u8 (b / 32) 3 = b / 32 % 4 := by
  obtain ⟨x, rfl⟩ := M.fin_of h0 h1; exact (M.and_fin x).2.2.1
theorem M.and128d (b : Int) (h0 : 0 ≤ b) (h1 : b ≤ 255) : (bits .and .u8 b 128 != 0) = decide (128 ≤ b) := by
  obtain ⟨x, rfl⟩ := M.fin_of h0 h1; exact (M.and_fin x).2.2.2.1
theorem M.and127 (b : Int) (h0 : 0 ≤ b) (h1 : b ≤ 255) : bits .and .u8 b 127 = b % 128 := by
  obtain ⟨x, rfl⟩ := M.fin_of h0 h1; exact (M.and_fin x).2.2.2.2
theorem hi_any (x : Int) (h0 : 0 ≤ x) (h1 : x ≤ 65535) (w : World) : Calls Try.prog 37 #[.int .u16 x] w fun e w' => e = .returned (.int .u8 (x / 256)) ∧ w = w' := by
  go_enter Try.func37, Try.ntmps37
  go_wp2
  go_ret
  exact ⟨ret_int (by (try rw [IntKind.wrap_u8']) <;> omega), rfl⟩
theorem lo_any (x : Int) (h0 : 0 ≤ x) (h1 : x ≤ 65535) (w : World) : Calls Try.prog 38 #[.int .u16 x] w fun e w' => e = .returned (.int .u8 (x % 256)) ∧ w = w' := by
  go_enter Try.func38, Try.ntmps38
  go_wp2
  go_ret
  exact ⟨ret_int (by (try rw [IntKind.wrap_u8']) <;> omega), rfl⟩
theorem word_any (h l : Int) (h0 : 0 ≤ h) (h1 : h ≤ 255) (l0 : 0 ≤ l) (l1 : l ≤ 255) (w : World) : Calls Try.prog 82 #[.int .u8 h, .int .u8 l] w fun e w' => e = .returned (.int .u16 (h * 256 + l)) ∧ w = w' := by
  have H := Lib.hid (M.word_or h l h0 h1 l0 l1)
  go_enter Try.func82, Try.ntmps82
  go_wp2
  go_ret
  exact ⟨ret_int H.out, rfl⟩
theorem rhi_any (x : Int) (h0 : 0 ≤ x) (h1 : x ≤ 65535) (w : World) : Calls Try.prog 42 #[.int .u16 x] w fun e w' => e = .returned (.int .u8 (x / 256)) ∧ w = w' := by
  go_enter Try.func42, Try.ntmps42
  go_wp2
  go_ret
  exact ⟨ret_int (by (try rw [IntKind.wrap_u8']) <;> omega), rfl⟩
theorem rlo_any (x : Int) (h0 : 0 ≤ x) (h1 : x ≤ 65535) (w : World) : Calls Try.prog 41 #[.int .u16 x] w fun e w' => e = .returned (.int .u8 (x % 256)) ∧ w = w' := by
  go_enter Try.func41, Try.ntmps41
  go_wp2
  go_ret
  exact ⟨ret_int (by (try rw [IntKind.wrap_u8']) <;> omega), rfl⟩
theorem rword_any (h l : Int) (h0 : 0 ≤ h) (h1 : h ≤ 255) (l0 : 0 ≤ l) (l1 : l ≤ 255) (w : World) : Calls Try.prog 101 #[.int .u8 h, .int .u8 l] w fun e w' => e = .returned (.int .u16 (h * 256 + l)) ∧ w = w' := by
  go_enter Try.func101, Try.ntmps101
  go_wp2
  go_ret
  exact ⟨ret_int (by (try rw [IntKind.wrap_u16]) <;> omega), rfl⟩
theorem timed_any (b : Int) (h0 : 0 ≤ b) (h1 : b ≤ 255) (w : World) : Calls Try.prog 88 #[.int .u8 b] w fun e w' => e = .returned (.int .i64 (M.rTime b)) ∧ w = w' := by
  have e := M.and3 b h0 h1
  rcases (show b % 4 = 0 ∨ b % 4 = 1 ∨ b % 4 = 2 ∨ b % 4 = 3 by omega) with k | k | k | k
  all_goals
    rw [k] at e
    go_enter Try.func88, Try.ntmps88
    go_wp2
    go_ret
    exact ⟨ret_int (by first | (unfold M.rTime; rw [k]; rfl) | (unfold M.rStep; rw [k]; rfl)), rfl⟩
theorem stepped_any (b : Int) (h0 : 0 ≤ b) (h1 : b ≤ 255) (w : World) : Calls Try.prog 94 #[.int .u8 b] w fun e w' => e = .returned (.int .i64 (M.rStep b)) ∧ w = w' := by
  have e := M.and3s b h0 h1
  rcases (show b / 16 % 4 = 0 ∨ b / 16 % 4 = 1 ∨ b / 16 % 4 = 2 ∨ b / 16 % 4 = 3 by omega) with k | k | k | k
  all_goals
    rw [k] at e
    go_enter Try.func94, Try.ntmps94
    go_wp2
    go_ret
    exact ⟨ret_int (by first | (unfold M.rTime; rw [k]; rfl) | (unfold M.rStep; rw [k]; rfl)), rfl⟩
theorem rtime_any (b : Int) (h0 : 0 ≤ b) (h1 : b ≤ 255) (w : World) : Calls Try.prog 98 #[.int .u8 b] w fun e w' => e = .returned (.int .i64 (M.rTime b)) ∧ Below w.heap.size w w' := by
  unfold M.rTime
  rcases (show b % 4 = 0 ∨ b % 4 = 1 ∨ b % 4 = 2 ∨ b % 4 = 3 by omega) with k | k | k | k
  all_goals
    go_enter Try.func98, Try.ntmps98
    go_wp2
    go_ret
    exact ⟨ret_int (by simp [k]), by go_grown⟩
theorem rstep_any (b : Int) (h0 : 0 ≤ b) (h1 : b ≤ 255) (w : World) : Calls Try.prog 99 #[.int .u8 b] w fun e w' => e = .returned (.int .i64 (M.rStep b)) ∧ Below w.heap.size w w' := by
  unfold M.rStep
  rcases (show b / 16 % 4 = 0 ∨ b / 16 % 4 = 1 ∨ b / 16 % 4 = 2 ∨ b / 16 % 4 = 3 by omega) with k | k | k | k
  all_goals
    go_enter Try.func99, Try.ntmps99
    go_wp2
    go_ret
    exact ⟨ret_int (by simp [k]), by go_grown⟩
end Go.Proofs.Ytkkkjdbcckaedaa
namespace Go.Proofs.Ytkkkjdbcckaedaa
open Go.RowKit
set_option linter.unusedVariables false
set_option maxRecDepth 100000
theorem sc3 : Scalar Try.prog 3 := ⟨⟨_, Try.underlying3, rfl⟩, by kernel_rfl⟩
theorem sc4 : Scalar Try.prog 4 := ⟨⟨_, Try.underlying4, rfl⟩, by kernel_rfl⟩
theorem sc5 : Scalar Try.prog 5 := ⟨⟨_, Try.underlying5, rfl⟩, by kernel_rfl⟩
theorem scW : Scalar Try.prog 24 := ⟨⟨_, Try.underlying24, rfl⟩, by kernel_rfl⟩
theorem scS : Scalar Try.prog 25 := ⟨⟨_, Try.underlying25, rfl⟩, by kernel_rfl⟩
theorem scP : Scalar Try.prog 104 := ⟨⟨_, Try.underlying104, rfl⟩, by kernel_rfl⟩
theorem scT (T : TypeId) (h : (T == 3 || T == 4 || T == 5 || T == 24 || T == 25 || T == 104) = true) : Scalar Try.prog T := by
  simp only [Bool.or_eq_true, beq_iff_eq] at h
  rcases h with ((((rfl | rfl) | rfl) | rfl) | rfl) | rfl
  · exact sc3
  · exact sc4
  · exact sc5
  · exact scW
  · exact scS
  · exact scP
def nilS : Value := .slice none 0 0
theorem rgZ (w : World) : (zeroValue 27).run Try.prog w = .ok (.agg (M.rZero.c nilS)) w := Try.zeroValue27 w
theorem rrgZ (w : World) : (zeroValue 40).run Try.prog w = .ok (.agg (M.rZero.c nilS)) w := Try.zeroValue40 w
theorem rgI : (Try.prog.info? 27).map (·.size) = some 24 := by kernel_rfl
theorem rrgI : (Try.prog.info? 40).map (·.size) = some 24 := by kernel_rfl
theorem rg_one (r : M.Rg) (A : Option Addr) (m c : Nat) : (r.c (.slice A m c)).all (·.oneCell') = true := by simp [M.Rg.c, M.Rg.v, Value.oneCell']
theorem rg_oneS (r : M.Rg) (s : Value) (h : ∃ A m c, s = .slice A m c) : (r.c s).all (·.oneCell') = true := by
  obtain ⟨A, m, c, rfl⟩ := h
  exact rg_one _ _ _ _
theorem rg_eq {r r' : M.Rg} {s : Value} (h : r = r') : Value.agg (r.c s) = .agg (r'.c s) := by rw [h]
theorem rg_ss : (∀ (x : M.Rg) (s : Value) (v : Int), (x.c s).setIfInBounds 0 (.int .i64 v) = ({ x with cls := v } : M.Rg).c s) ∧ (∀ (x : M.Rg) (s : Value) (v : Bool), (x.c s).setIfInBounds 1 (.bool v) = ({ x with atob := v } : M.Rg).c s) ∧ (∀ (x : M.Rg) (s : Value) (v : Int), (x.c s).setIfInBounds 2 (.int .u16 v) = ({ x with a := v } : M.Rg).c s) ∧ (∀ (x : M.Rg) (s : Value) (v : Int), (x.c s).setIfInBounds 3 (.int .u16 v) = ({ x with b := v } : M.Rg).c s) ∧ (∀ (x : M.Rg) (s : Value) (v : Int), (x.c s).setIfInBounds 4 (.int .u16 v) = ({ x with len := v } : M.Rg).c s) ∧ (∀ (x : M.Rg) (s : Value) (v : Bool), (x.c s).setIfInBounds 5 (.bool v) = ({ x with aio := v } : M.Rg).c s) ∧ (∀ (x : M.Rg) (s : Value) (v : Bool), (x.c s).setIfInBounds 6 (.bool v) = ({ x with bio := v } : M.Rg).c s) ∧ (∀ (x : M.Rg) (s : Value) (v : Int), (x.c s).setIfInBounds 7 (.int .i64 v) = ({ x with astep := v } : M.Rg).c s) ∧ (∀ (x : M.Rg) (s : Value) (v : Int), (x.c s).setIfInBounds 8 (.int .i64 v) = ({ x with bstep := v } : M.Rg).c s) ∧ (∀ (x : M.Rg) (s : Value) (v : Int), (x.c s).setIfInBounds 9 (.int .i64 v) = ({ x with atime := v } : M.Rg).c s) ∧ (∀ (x : M.Rg) (s : Value) (v : Int), (x.c s).setIfInBounds 10 (.int .i64 v) = ({ x with btime := v } : M.Rg).c s) ∧ (∀ (x : M.Rg) (s : Value) (v : Int), (x.c s).setIfInBounds 11 (.int .u8 v) = ({ x with mask := v } : M.Rg).c s) ∧ (∀ (x : M.Rg) (s : Value) (v : Int), (x.c s).setIfInBounds 12 (.int .u8 v) = ({ x with mat := v } : M.Rg).c s) ∧ (∀ (x : M.Rg) (s : Value) (v : Bool), (x.c s).setIfInBounds 13 (.bool v) = ({ x with stop := v } : M.Rg).c s) ∧ (∀ (x : M.Rg) (s : Value) (v : Int), (x.c s).setIfInBounds 14 (.int .i64 v) = ({ x with mode := v } : M.Rg).c s) ∧ (∀ (x : M.Rg) (s : Value) (v : Int), (x.c s).setIfInBounds 15 (.int .u8 v) = ({ x with ctl := v } : M.Rg).c s) ∧ (∀ (x : M.Rg) (s : Value) (v : Int), (x.c s).setIfInBounds 16 (.int .u8 v) = ({ x with pulse := v } : M.Rg).c s) ∧ (∀ (x : M.Rg) (s : Value) (v : Int), (x.c s).setIfInBounds 17 (.int .u8 v) = ({ x with vec := v } : M.Rg).c s) ∧ (∀ (x : M.Rg) (s : Value) (v : Bool), (x.c s).setIfInBounds 18 (.bool v) = ({ x with high := v } : M.Rg).c s) ∧ (∀ (x : M.Rg) (s : Value) (v : Bool), (x.c s).setIfInBounds 19 (.bool v) = ({ x with auto := v } : M.Rg).c s) ∧ (∀ (x : M.Rg) (s : Value) (v : Int), (x.c s).setIfInBounds 20 (.int .u8 v) = ({ x with rmask := v } : M.Rg).c s) ∧ (∀ (x : M.Rg) (s : Value) (v : Bool), (x.c s).setIfInBounds 21 (.bool v) = ({ x with ints := v } : M.Rg).c s) ∧ (∀ (x : M.Rg) (s : Value) (v : Bool), (x.c s).setIfInBounds 22 (.bool v) = ({ x with on := v } : M.Rg).c s) ∧ (∀ (x : M.Rg) (s : Value) (A : Option Addr) (m c : Nat), (x.c s).setIfInBounds 23 (.slice A m c) = x.c (.slice A m c)) :=
  ⟨fun _ _ _ => rfl, fun _ _ _ => rfl, fun _ _ _ => rfl, fun _ _ _ => rfl, fun _ _ _ => rfl, fun _ _ _ => rfl, fun _ _ _ => rfl, fun _ _ _ => rfl, fun _ _ _ => rfl, fun _ _ _ => rfl, fun _ _ _ => rfl, fun _ _ _ => rfl, fun _ _ _ => rfl, fun _ _ _ => rfl, fun _ _ _ => rfl, fun _ _ _ => rfl, fun _ _ _ => rfl, fun _ _ _ => rfl, fun _ _ _ => rfl, fun _ _ _ => rfl, fun _ _ _ => rfl, fun _ _ _ => rfl, fun _ _ _ => rfl, fun _ _ _ _ _ => rfl⟩
end Go.Proofs.Ytkkkjdbcckaedaa
namespace Go.Proofs.Ytkkkjdbcckaedaa
open Go.RowKit
set_option linter.unusedVariables false
set_option linter.unusedSimpArgs false
set_option maxRecDepth 100000
theorem info_get {P : Program} {T : TypeId} {z : Value} {s b : Nat} (h : (P.info? T).map (fun i => (i.zero, i.size, i.bytes)) = some (some z, s, b)) : ∃ i, P.info? T = some i ∧ i.zero = some z ∧ i.size = s ∧ i.bytes = b := by
  cases hi : P.info? T with
  | none => rw [hi] at h; cases h
  | some i =>
    rw [hi] at h
    simp only [Option.map_some, Option.some.injEq, Prod.mk.injEq] at h
    exact ⟨i, rfl, h.1, h.2.1, h.2.2⟩
theorem src_one {P : Program} (W : World) (k : IntKind) (x : Int) (t tx e' : TypeId) (hk : P.underlying tx = some (.slice e')) : Src P 1 tx (.slice (some ⟨W.heap.size, 0, none⟩) 1 1) 1 (ints k [x]) (W.alloc (.cells #[.int k x] t)) :=
  Src.ofSlice _ hk _ _ _ _ rfl (fun j u hu => by rw [Addr.add_lit]; exact range_new W #[.int k x] t j u hu) (ints_one _ _)
theorem infoInt : (Try.prog.info? 3).map (fun i => (i.zero, i.size, i.bytes)) = some (some (.int .i64 0), 1, 8) := by kernel_rfl
set_option maxHeartbeats 4000000 in
theorem wants_any (b num : Int) (n k : Nat) (h0 : 0 ≤ b) (h1 : b ≤ 255) (hn0 : -1000 ≤ num) (hn1 : num ≤ 1000) (hn : n ≤ 100) (hk : k ≤ 100) (w : World) :
    Calls Try.prog 92 #[.int .u8 b, .int .i64 num, .int .i64 (n : Int), .int .i64 (k : Int)] w fun e w' => ∃ A c, e = .returned (.slice A (M.rWants b num n k).length c) ∧ Ls w.heap.size w' (.slice A (M.rWants b num n k).length c) (ints .i64 (M.rWants b num n k)) ∧ Below w.heap.size w w' := by
  obtain ⟨i0, hi0, hz0, hz1, hz2⟩ := info_get infoInt
  have hS := St.start w.heap.size 0 0 w
  go_enter Try.func92, Try.ntmps92
  go_wp2_with fail
  have HS0 := Lib.hid hS
  clear hS
  go_loopw [9, 12] (fun l i wr => ∃ (j : Nat) (E : List Ent), i = .int .i64 j ∧ j ≤ k ∧ Own l (ints .i64 (M.rWants b num n j)) E ∧ St w.heap.size 0 0 w E wr) (fun _ i _ => k - (intOf i).toNat)
  case atStart => exact ⟨0, [], rfl, Nat.zero_le _, Own.none, HS0.out⟩
  case round =>
    clear HS0
    obtain ⟨j, E, rfl, hj, hO, hS⟩ := hrel
    have hlen := M.rWants_len b num n j
    by_cases k1 : j < k
    · have k1' : (j : Int) < (k : Int) := by omega
      have e1 : M.rWants b num n (j + 1) = M.rWants b num n j ++ (if M.is b ((n : Int) + (j : Int)) then [num + (j : Int)] else []) := by
        rw [M.rWants, show ((n + j : Nat) : Int) = (n : Int) + (j : Int) by omega]
      have HE := Lib.hid e1
      have HL := Lib.hid hlen
      clear e1 hlen
      go_wp2_with fail
      refine (is_any b _ h0 h1 _).mono ?_
      rintro e w1 ⟨rfl, rfl⟩
      cases hc : M.is b ((n : Int) + (j : Int)) with
      | true =>
        have e2 := HE.out
        rw [hc, if_pos rfl] at e2
        have HE2 := Lib.hid e2
        clear e2 HE
        go_wp2_with ((with_reducible refine to_app ?_); refine Wl_app (es := [_]) (hS.new _ _) hO 3 i0 (.int .i64 0) 8 Try.underlying25 hi0 hz0 hz1 hz2 rfl rfl 1 (ints .i64 [num + (j : Int)]) (src_one _ _ _ _ _ _ Try.underlying25) (by have := HL.out; simp [ints, maxLen]; omega) (by have := HL.out; simp [ints]; omega) ?_; intro v2 E2 w2 hO2 hS2)
        go_round
        case rel => exact ⟨j + 1, E2, by simp, by omega, by rw [HE2.out, ints_append]; exact hO2, hS2.sub (List.sublist_cons_self _ _)⟩
        case measure => simp [intOf]; omega
      | false =>
        have e2 := HE.out
        rw [hc, if_neg (by decide), List.append_nil] at e2
        have HE2 := Lib.hid e2
        clear e2 HE
        go_wp2_with fail
        go_round
        case rel => exact ⟨j + 1, E, by simp, by omega, HE2.out ▸ hO, hS⟩
        case measure => simp [intOf]; omega
    · have k1' : ¬ ((j : Int) < (k : Int)) := by omega
      obtain rfl : j = k := by omega
      go_wp2_with fail
      go_returns
      obtain ⟨A, c, rfl⟩ := hO.len
      rw [ints_length] at hO ⊢
      exact ⟨A, c, rfl, hO.res (es := []) hS, hS.below⟩
end Go.Proofs.Ytkkkjdbcckaedaa
namespace Go.Proofs.Ytkkkjdbcckaedaa
open Go.RowKit
set_option linter.unusedVariables false
set_option linter.unusedSimpArgs false
set_option maxRecDepth 100000
/-- A call that gives a slice of its own. -/
theorem St.callO {B o n : Nat} {w W W' : World} {es E : List Ent} (h : St B o n w es W) (hE : St W.heap.size 0 0 W E W') (hne : ∀ e, e ∈ E → W.heap.size ≤ e.b) : St B o n w (es ++ E) W' := by
  have hc := h.call hE.below
  refine ⟨hc.touch, fun e he => ?_, List.pairwise_append.2 ⟨hc.sep, hE.sep, fun x hx y hy hf => .inl ?_⟩⟩
  · rcases List.mem_append.1 he with he | he
    · exact hc.good e he
    · have g := hE.good e he
      exact ⟨g.lt, g.rng, g.free, fun hf => .inl (Nat.le_trans h.size (hne e he))⟩
  · have := (h.good x hx).lt
    have := hne y hy
    omega
/-- A slice of the call's own: where it lies. -/
def OwnR (w : World) (v : Value) (vs : List Value) (w' : World) : Prop := ∃ E, Own v vs E ∧ St w.heap.size 0 0 w E w' ∧ ∀ e, e ∈ E → w.heap.size ≤ e.b
theorem OwnR.ls {w w' : World} {v : Value} {vs : List Value} (h : OwnR w v vs w') : Ls w.heap.size w' v vs ∧ Below w.heap.size w w' := by
  obtain ⟨E, hO, hS, _⟩ := h
  exact ⟨hO.res (es := []) hS, hS.below⟩
theorem OwnR.of {w w' : World} {v : Value} {vs : List Value} {E es : List Ent} (hO : Own v vs E) (hS : St w.heap.size 0 0 w (es ++ E) w') : OwnR w v vs w' ∨ vs = [] := by
  by_cases hv : vs = []
  · exact .inr hv
  · refine .inl ⟨E, hO, hS.sub (List.sublist_append_right _ _), fun e he => ?_⟩
    rcases hO with ⟨rfl, rfl, rfl⟩ | ⟨b, c, cs, rfl, h1, h2, h3, rfl, h5⟩
    · cases he
    · have hg := hS.good e (List.mem_append_right _ he)
      rcases List.mem_singleton.1 he with rfl
      rcases hg.own rfl with k | ⟨k1, k2, k3⟩
      · exact k
      · have : vs.length ≠ 0 := fun e => hv (List.eq_nil_of_length_eq_zero e)
        simp at k3
        subst k3
        simp at h3
        omega
def M.upFrom (n k : Nat) : List Int := (List.range k).map fun i => ((n + i : Nat) : Int)
theorem M.upFrom_len (n k : Nat) : (M.upFrom n k).length = k := by simp [M.upFrom]
theorem M.upFrom_at {n k j : Nat} (h : j < k) : (M.upFrom n k).getD j 0 = (n : Int) + (j : Int) := by
  simp [M.upFrom, List.getD_eq_getElem?_getD, h]
set_option maxHeartbeats 4000000 in
theorem rwanted_any (A1 : Option Addr) (c1 : Nat) (L1 : List Int) (b num : Int) (n k : Nat) (A2 : Option Addr) (c2 : Nat) (h0 : 0 ≤ b) (h1 : b ≤ 255) (hn0 : -1000 ≤ num) (hn1 : num ≤ 1000) (hn : n ≤ 100) (hk : k ≤ 100) (hL : L1.length ≤ 10000) (w : World)
    (r1 : Ls 0 w (.slice A1 L1.length c1) (ints .i64 L1)) (r2 : Ls 0 w (.slice A2 k c2) (ints .i64 (M.upFrom n k))) :
    Calls Try.prog 74 #[.slice A1 L1.length c1, .int .u8 b, .int .i64 num, .slice A2 k c2] w fun e w' => ∃ v E, e = .returned v ∧ Own v (ints .i64 (L1 ++ M.rWants b num n k)) E ∧ St w.heap.size 0 0 w E w' := by
  obtain ⟨i0, hi0, hz0, hz1, hz2⟩ := info_get infoInt
  have hS : St w.heap.size 0 0 w ([] ++ []) w := St.start w.heap.size 0 0 w
  have hat : ∀ j, j < k → ∃ b q, A2 = some ⟨b, q, none⟩ ∧ k ≤ c2 ∧ w.cell? ⟨b, q + j, none⟩ = some (.int .i64 ((n : Int) + (j : Int))) := fun j hj => by
    obtain ⟨b, q, cp, hs, _, hc, hcell⟩ := r2.at_ (i := j) (by rw [M.upFrom_len]; exact hj)
    rw [M.upFrom_len] at hs hc
    rw [M.upFrom_at hj] at hcell
    simp only [Value.slice.injEq] at hs
    exact ⟨b, q, hs.1, by omega, hcell⟩
  have HA := Lib.hid hat
  have hlen0 : (ints .i64 L1).length = L1.length := ints_length _ _
  clear hat r2
  go_enter Try.func74, Try.ntmps74
  go_wp2_with ((with_reducible refine to_app ?_); refine Wl_app (es := []) hS Own.none 3 i0 (.int .i64 0) 8 Try.underlying25 hi0 hz0 hz1 hz2 rfl rfl L1.length (ints .i64 L1) (hlen0 ▸ r1.src Try.underlying25 (ints_one _ _)) (by simp [maxLen]; omega) (by simp; omega) ?_; clear hS; intro v1 E1 w2 hO hS)
  have HS0 := Lib.hid hS
  have HO0 := Lib.hid hO
  clear hS hO
  go_loopw [9, 10] (fun l i wr => ∃ (j : Nat) (E : List Ent), i = .int .i64 j ∧ j ≤ k ∧ Own l (ints .i64 (L1 ++ M.rWants b num n j)) E ∧ St w.heap.size 0 0 w E wr) (fun _ i _ => k - (intOf i).toNat)
  case atStart => exact ⟨0, _, rfl, Nat.zero_le _, by simpa [M.rWants] using HO0.out, HS0.out⟩
  case round =>
    clear HS0 HO0
    obtain ⟨j, E, rfl, hj, hO, hS⟩ := hrel
    have hlen := M.rWants_len b num n j
    by_cases k1 : j < k
    · have k1' : (j : Int) < (k : Int) := by omega
      have k0' : (0 : Int) ≤ (j : Int) := by omega
      have e1 : M.rWants b num n (j + 1) = M.rWants b num n j ++ (if M.is b ((n : Int) + (j : Int)) then [num + (j : Int)] else []) := by
        rw [M.rWants, show ((n + j : Nat) : Int) = (n : Int) + (j : Int) by omega]
      obtain ⟨bb, q, rfl, hkc, hcell⟩ := HA.out j k1
      have hv := hS.below.cell (p := ⟨bb, q + j, none⟩) (World.block_lt_of_cell? w _ hcell)
      rw [hcell] at hv
      have HE := Lib.hid e1
      have HL := Lib.hid hlen
      clear e1 hlen hcell
      go_wp2_with fail
      refine (refis_any b _ h0 h1 _).mono ?_
      rintro e w1 ⟨rfl, rfl⟩
      cases hc : M.is b ((n : Int) + (j : Int)) with
      | true =>
        have e2 := HE.out
        rw [hc, if_pos rfl] at e2
        have HE2 := Lib.hid e2
        clear e2 HE
        go_wp2_with ((with_reducible refine to_app ?_); refine Wl_app (es := [_]) (hS.new _ _) hO 3 i0 (.int .i64 0) 8 Try.underlying25 hi0 hz0 hz1 hz2 rfl rfl 1 (ints .i64 [num + (j : Int)]) (src_one _ _ _ _ _ _ Try.underlying25) (by have := HL.out; simp [ints, maxLen]; omega) (by have := HL.out; simp [ints]; omega) ?_; intro v2 E2 w2 hO2 hS2)
        go_round
        case rel => exact ⟨j + 1, E2, by simp, by omega, by rw [HE2.out, ← List.append_assoc, ints_append]; exact hO2, hS2.sub (List.sublist_cons_self _ _)⟩
        case measure => simp [intOf]; omega
      | false =>
        have e2 := HE.out
        rw [hc, if_neg (by decide), List.append_nil] at e2
        have HE2 := Lib.hid e2
        clear e2 HE
        go_wp2_with fail
        go_round
        case rel => exact ⟨j + 1, E, by simp, by omega, HE2.out ▸ hO, hS⟩
        case measure => simp [intOf]; omega
    · have k1' : ¬ ((j : Int) < (k : Int)) := by omega
      obtain rfl : j = k := by omega
      go_wp2_with fail
      go_returns
      exact ⟨_, rfl, E, hO, hS⟩
set_option maxHeartbeats 4000000 in
theorem clone_any (A1 : Option Addr) (c1 : Nat) (L1 : List Int) (hL : L1.length ≤ 10000) (w : World) (r1 : Ls 0 w (.slice A1 L1.length c1) (ints .i64 L1)) :
    Calls Try.prog 79 #[.slice A1 L1.length c1] w fun e w' => ∃ A c, e = .returned (.slice A L1.length c) ∧ Ls w.heap.size w' (.slice A L1.length c) (ints .i64 L1) ∧ Below w.heap.size w w' := by
  obtain ⟨i0, hi0, hz0, hz1, hz2⟩ := info_get infoInt
  have hS := St.start w.heap.size 0 0 w
  have hlen0 : (ints .i64 L1).length = L1.length := ints_length _ _
  cases A1 with
  | none =>
    have h0 : L1.length = 0 := by
      obtain ⟨A, c, hs, h1, h2, h3⟩ := r1.shp
      simp only [Value.slice.injEq] at hs
      rw [hlen0] at h3 hs
      exact Decidable.byContradiction fun hne => by obtain ⟨b, q, hb⟩ := h3 hne; rw [← hs.1] at hb; cases hb
    obtain rfl := List.eq_nil_of_length_eq_zero h0
    have hnil := fun W : World => run_eql_slice_nil W 25 3 none 0 c1 Try.underlying25
    simp only [Option.isNone_none] at hnil
    go_enter Try.func79, Try.ntmps79
    go_wp2_with fail
    go_returns
    exact ⟨_, _, rfl, Ls.nil _ _ _ _ (Nat.zero_le _), Below.refl _ _⟩
  | some x =>
    have hnil := fun W : World => run_eql_slice_nil W 25 3 (some x) L1.length c1 Try.underlying25
    simp only [Option.isNone_some] at hnil
    have hO0 : Own (.slice (some ⟨w.heap.size, 0, none⟩) 0 0) [] [⟨w.heap.size, 0, true, #[]⟩] := .inr ⟨w.heap.size, 0, #[], rfl, Nat.le_refl _, Nat.zero_le _, rfl, rfl, rfl⟩
    have hS0 := hS.new #[] 3
    have hsrc := (r1.below hS0.below).src (P := Try.prog) (tx := 25) Try.underlying25 (ints_one _ _)
    rw [hlen0] at hsrc
    go_enter Try.func79, Try.ntmps79
    go_wp2_with ((with_reducible refine to_app ?_); refine Wl_app (es := []) hS0 hO0 3 i0 (.int .i64 0) 8 Try.underlying25 hi0 hz0 hz1 hz2 rfl rfl L1.length (ints .i64 L1) hsrc (by simp [maxLen]; omega) (by simp; omega) ?_; clear hS; intro v1 E1 w2 hO hS)
    go_returns
    obtain ⟨A, c, rfl⟩ := hO.len
    rw [List.nil_append, ints_length] at hO ⊢
    exact ⟨A, c, rfl, hO.res (es := []) hS, hS.below⟩
end Go.Proofs.Ytkkkjdbcckaedaa
namespace Go.Proofs.Ytkkkjdbcckaedaa
open Go.RowKit
set_option linter.unusedVariables false
set_option linter.unusedSimpArgs false
set_option maxRecDepth 100000
set_option maxHeartbeats 4000000 in
theorem grow_any (n : Nat) (hn : n ≤ 30000) (w : World) : Calls Try.prog 100 #[.slice none 0 0, .int .i64 n] w fun e w' => ∃ v E, e = .returned v ∧ Own v [] E ∧ St w.heap.size 0 0 w E w' := by
  obtain ⟨i0, hi0, hz0, hz1, hz2⟩ := info_get infoInt
  have hS := St.start w.heap.size 0 0 w
  by_cases h0 : n = 0
  · subst h0
    go_enter Try.func100, Try.ntmps100
    go_wp2_with fail
    go_returns
    exact ⟨_, _, rfl, Own.none, hS⟩
  · have hn0 : (0 : Int) < (n : Int) := by omega
    have hr := fun (W : World) (ty : TypeId) => Lib.run_append_nil_zeros (P := Try.prog) (ty := ty) W 25 3 3 i0 (.int .i64 0) .i64 .i64 Try.underlying25 Try.underlying3 hi0 hz0 n (by omega) (by omega) (by omega) (by rw [hz2]; omega)
    have HR := Lib.hid hr
    clear hr
    go_enter Try.func100, Try.ntmps100
    go_wp2_with ((with_reducible refine to_app ?_); refine Wl.mk (Lib.wpList_append_run _ rfl _ _ _ _ rfl _ _ rfl rfl _ _ (HR.out _ _) ?_); have hge := grownCap_ge w n 0 3; have hle := grownCap_le_maxLen w n 0 3 (by simp only [maxLen]; omega); replace hS := hS.drew.new (Builtin.zeroCells (Value.int .i64 0).cells n ++ Builtin.zeroCells (Value.int .i64 0).cells (grownCap w n 0 3 - n)) 3; have hsz : (Builtin.zeroCells (Value.int .i64 0).cells n ++ Builtin.zeroCells (Value.int .i64 0).cells (grownCap w n 0 3 - n)).size = grownCap w n 0 3 := (by rw [Array.size_append, size_zeroCells, size_zeroCells]; simp [Value.cells]; omega); generalize Builtin.zeroCells (Value.int .i64 0).cells n ++ Builtin.zeroCells (Value.int .i64 0).cells (grownCap w n 0 3 - n) = Z at hS hsz ⊢; generalize grownCap w n 0 3 = G at hS hsz hge hle ⊢; have hG : (0 : Int) ≤ (G : Int) := (by omega); simp only [nA])
    go_returns
    exact ⟨_, _, rfl, .inr ⟨_, G, Z, rfl, Nat.zero_le _, hle, hsz, rfl, rfl⟩, hS⟩
set_option maxHeartbeats 8000000 in
theorem concat_any (A1 : Option Addr) (c1 : Nat) (L1 : List Int) (A2 : Option Addr) (c2 : Nat) (L2 : List Int) (h1 : L1.length ≤ 10000) (h2 : L2.length ≤ 10000) (d : Nat) (w : World) (k1 : w.cell? ⟨d, 0, none⟩ = some (.slice A1 L1.length c1)) (k2 : w.cell? ⟨d, 1, none⟩ = some (.slice A2 L2.length c2))
    (r1 : Ls 0 w (.slice A1 L1.length c1) (ints .i64 L1)) (r2 : Ls 0 w (.slice A2 L2.length c2) (ints .i64 L2)) :
    Calls Try.prog 91 #[.slice (some ⟨d, 0, none⟩) 2 2] w fun e w' => ∃ v E, e = .returned v ∧ Own v (ints .i64 (L1 ++ L2)) E ∧ St w.heap.size 0 0 w E w' := by
  obtain ⟨i0, hi0, hz0, hz1, hz2⟩ := info_get infoInt
  have hd : d < w.heap.size := World.block_lt_of_cell? w _ k1
  have hk1 : ∀ W, Below w.heap.size w W → W.cell? ⟨d, 0, none⟩ = some (.slice A1 L1.length c1) := fun W hW => (hW.cell (p := ⟨d, 0, none⟩) hd).trans k1
  have hk2 : ∀ W, Below w.heap.size w W → W.cell? ⟨d, 1, none⟩ = some (.slice A2 L2.length c2) := fun W hW => (hW.cell (p := ⟨d, 1, none⟩) hd).trans k2
  have HK1 := Lib.hid hk1
  have HK2 := Lib.hid hk2
  have R1 := Lib.hid r1
  have R2 := Lib.hid r2
  have hS := St.start w.heap.size 0 0 w
  have g1 : (ints .i64 L1).length = L1.length := ints_length _ _
  have g2 : (ints .i64 L2).length = L2.length := ints_length _ _
  have G1 := Lib.hid g1
  have G2 := Lib.hid g2
  clear k1 k2 hk1 hk2 r1 r2 g1 g2
  go_enter Try.func91, Try.ntmps91
  go_wp2_with fail
  go_loopw [3, 11] (fun s i wr => ∃ j : Nat, i = .int .i64 j ∧ j ≤ 2 ∧ s = .int .i64 ((if 0 < j then (L1.length : Int) else 0) + (if 1 < j then (L2.length : Int) else 0)) ∧ wr = w) (fun _ i _ => 2 - (intOf i).toNat)
  case atStart => exact ⟨0, rfl, Nat.zero_le _, rfl, rfl⟩
  case round =>
    obtain ⟨j, rfl, hj, rfl, rfl⟩ := hrel
    rcases (show j = 0 ∨ j = 1 ∨ j = 2 by omega) with rfl | rfl | rfl
    · have v1 := HK1.out wr (Below.refl _ _)
      simp only [Nat.lt_irrefl, if_false, Nat.zero_lt_one, Nat.not_lt_zero]
      go_wp2_with fail
      go_round
      case rel => exact ⟨1, rfl, by omega, by simp, by simp⟩
      case measure => simp [intOf]
    · have v2 := HK2.out wr (Below.refl _ _)
      simp only [Nat.lt_irrefl, if_false, Nat.zero_lt_one, if_true]
      go_wp2_with fail
      go_round
      case rel => exact ⟨2, rfl, by omega, by simp, by simp⟩
      case measure => simp [intOf]
    · simp only [show (0 : Nat) < 2 by omega, show (1 : Nat) < 2 by omega, if_true]
      obtain ⟨S, hSS⟩ : ∃ S : Nat, S = L1.length + L2.length := ⟨_, rfl⟩
      have en : ((L1.length : Nat) : Int) + ((L2.length : Nat) : Int) = (S : Int) := by omega
      have hS3 : S ≤ 30000 := by omega
      have hS4 : ¬ ((S : Int) < 0) := by omega
      rw [en]
      clear en hSS
      go_wp2_with fail
      refine (grow_any S hS3 _).mono ?_
      rintro e w1 ⟨v, E, rfl, hO, hE⟩
      clear hS
      go_wp2_with fail
      have HS0 := Lib.hid hE
      have HO0 := Lib.hid hO
      clear hE hO
      go_loopw [6, 27] (fun s i wr2 => ∃ (j : Nat) (E : List Ent), i = .int .i64 j ∧ j ≤ 2 ∧ Own s (ints .i64 ((if 0 < j then L1 else []) ++ (if 1 < j then L2 else []))) E ∧ St wr.heap.size 0 0 wr E wr2) (fun _ i _ => 2 - (intOf i).toNat)
      case atStart => exact ⟨0, _, rfl, Nat.zero_le _, HO0.out, HS0.out⟩
      case round =>
        clear HS0 HO0
        obtain ⟨j, E, rfl, hj, hO, hS⟩ := hrel
        rcases (show j = 0 ∨ j = 1 ∨ j = 2 by omega) with rfl | rfl | rfl
        · have v1 := HK1.out _ hS.below
          have hsrc := (R1.out.below hS.below).src (P := Try.prog) (tx := 25) Try.underlying25 (ints_one _ _)
          simp only [Nat.lt_irrefl, if_false, Nat.zero_lt_one, Nat.not_lt_zero, List.append_nil] at hO
          go_wp2_with ((with_reducible refine to_app ?_); refine Wl_app (es := []) hS hO 3 i0 (.int .i64 0) 8 Try.underlying25 hi0 hz0 hz1 hz2 rfl rfl _ _ hsrc (by simp [ints, maxLen]; omega) (by simp [ints]; omega) ?_; clear hS hO hsrc; intro v2 E2 wW hO hS; simp only [nA])
          go_round
          case rel => exact ⟨1, E2, rfl, by omega, by simpa [ints] using hO, hS⟩
          case measure => simp [intOf]
        · have v2 := HK2.out _ hS.below
          have hsrc := (R2.out.below hS.below).src (P := Try.prog) (tx := 25) Try.underlying25 (ints_one _ _)
          simp only [Nat.lt_irrefl, if_false, Nat.zero_lt_one, if_true, List.append_nil] at hO
          go_wp2_with ((with_reducible refine to_app ?_); refine Wl_app (es := []) hS hO 3 i0 (.int .i64 0) 8 Try.underlying25 hi0 hz0 hz1 hz2 rfl rfl _ _ hsrc (by simp [ints, maxLen]; omega) (by simp [ints]; omega) ?_; clear hS hO hsrc; intro v3 E2 wW hO hS; simp only [nA])
          go_round
          case rel => exact ⟨2, E2, rfl, by omega, by simpa [ints] using hO, hS⟩
          case measure => simp [intOf]
        · simp only [show (0 : Nat) < 2 by omega, show (1 : Nat) < 2 by omega, if_true] at hO
          go_wp2_with fail
          go_returns
          exact ⟨_, E, rfl, hO, hS⟩
end Go.Proofs.Ytkkkjdbcckaedaa
