/- A DMA that moves a block, and one that searches: what Take does to them, as plain mathematics. -/
import Derived.Test.YtkkkjdbcckaedaaDmM2
namespace Go.Proofs.Ytkkkjdbcckaedaa
open Go.RowKit
set_option linter.unusedVariables false
set_option linter.unusedSimpArgs false
set_option maxRecDepth 100000
def M.dTakes (d : M.Dm) (L : List Int) : M.Dm := L.foldl M.dTake d
theorem M.dTakes_snoc (d : M.Dm) (L : List Int) (x : Int) : M.dTakes d (L ++ [x]) = M.dTake (M.dTakes d L) x := by simp [M.dTakes, List.foldl_append]
theorem M.dTakes_next (d : M.Dm) {L : List Int} {j : Nat} (h : j < L.length) : M.dTakes d (L.take (j + 1)) = M.dTake (M.dTakes d (L.take j)) (L.getD j 0) := by rw [take_succ' h, M.dTakes_snoc]
theorem M.dTakes_p : ∀ (L : List Int) (d : M.Dm), (M.dTakes d L).p = d.p
  | [], _ => rfl
  | x :: L, d => (M.dTakes_p L (M.dTake d x)).trans (M.dTake_p d x)
theorem M.dTakes_ok : ∀ (L : List Int) (d : M.Dm) (k : Int), d.ok → 0 ≤ k → k + L.length ≤ 1000000 → -k ≤ d.left → (∀ x ∈ L, 0 ≤ x ∧ x ≤ 255) → (M.dTakes d L).ok ∧ -(k + L.length) ≤ (M.dTakes d L).left
  | [], d, k, h, _, _, hl, _ => ⟨h, by simpa [M.dTakes] using hl⟩
  | x :: L, d, k, h, hk, hkl, hl, hb => by
    have hx := hb x (.head _)
    have hkl' : k + ((L.length : Int) + 1) ≤ 1000000 := by simpa using hkl
    have h1 := M.dTake_ok h (by omega) hx.1 hx.2
    have h2 := M.dTake_left h hx.1 hx.2 k hk hl
    have ih := M.dTakes_ok L (M.dTake d x) (k + 1) h1 (by omega) (by omega) h2 (fun y hy => hb y (.tail _ hy))
    refine ⟨ih.1, ?_⟩
    have h3 := ih.2
    show -(k + (((x :: L).length : Nat) : Int)) ≤ (M.dTakes (M.dTake d x) L).left
    simp only [List.length_cons]
    omega
/-- What a mover was told. -/
structure M.Cf (p : M.Rg) (f t n : Int) (au : Bool) : Prop where
  cls : p.cls = 1
  atob : p.atob = true
  astep : p.astep = 1
  bstep : p.bstep = 1
  aio : p.aio = false
  bio : p.bio = false
  atime : p.atime = 0
  btime : p.btime = 0
  on : p.on = true
  high : p.high = false
  ints : p.ints = false
  auto : p.auto = au
  a : p.a = f
  b : p.b = t
  len : p.len = n
/-- A mover that has moved i bytes of its block, and holds one or not. -/
structure M.Mv (p : M.Rg) (f t n i : Int) (h : Bool) (d : M.Dm) : Prop where
  p : d.p = p
  a : d.a = (f + i + (if h then 1 else 0)) % 65536
  b : d.b = (t + i) % 65536
  left : d.left = n - i
  held : d.held = h
  done : d.done = false
section
variable {p : M.Rg} {f t n i : Int} {au : Bool} {d : M.Dm}
theorem M.take_rd (hh : d.held = false) (hc : d.p.cls = 1) (ha : d.p.atob = true) (v : Int) : M.dTake d v = { d with a := (d.a + d.p.astep) % 65536, hold := v, ran := true, held := true } := by
  simp [M.dTake, M.dMove, M.dFound, hh, hc, ha]
theorem M.take_wr (hh : d.held = true) (ha : d.p.atob = true) (v : Int) : M.dTake d v = M.dFinish { d with b := (d.b + d.p.bstep) % 65536, held := false } := by
  simp [M.dTake, M.dMove, hh, ha]
theorem M.Mv.read (c : M.Cf p f t n au) (h : M.Mv p f t n i false d) (v : Int) : M.Mv p f t n i true (M.dTake d v) ∧ (M.dTake d v).hold = v := by
  have e := M.take_rd h.held (by rw [h.p]; exact c.cls) (by rw [h.p]; exact c.atob) v
  rw [e]
  refine ⟨⟨h.p, ?_, h.b, h.left, rfl, h.done⟩, rfl⟩
  have ha := h.a
  have hs : d.p.astep = 1 := by rw [h.p]; exact c.astep
  show (d.a + d.p.astep) % 65536 = _
  rw [ha, hs]
  simp only [Bool.false_eq_true, if_false, if_true]
  omega
theorem M.Mv.write (c : M.Cf p f t n au) (h : M.Mv p f t n i true d) (hi : i + 1 < n) (v : Int) : M.Mv p f t n (i + 1) false (M.dTake d v) := by
  have e := M.take_wr h.held (by rw [h.p]; exact c.atob) v
  have hl := h.left
  have e2 : M.dFinish { d with b := (d.b + d.p.bstep) % 65536, held := false } = { d with b := (d.b + d.p.bstep) % 65536, held := false, left := d.left - 1 } := by
    unfold M.dFinish
    rw [if_pos (by show 1 < d.left; omega)]
  rw [e, e2]
  have ha := h.a
  have hb := h.b
  have hs : d.p.bstep = 1 := by rw [h.p]; exact c.bstep
  refine ⟨h.p, ?_, ?_, ?_, rfl, h.done⟩
  · show d.a = _
    rw [ha]
    simp only [Bool.false_eq_true, if_false, if_true]
    omega
  · show (d.b + d.p.bstep) % 65536 = _
    rw [hb, hs]
    omega
  · show d.left - 1 = _
    omega
theorem M.Mv.again (c : M.Cf p f t n true) (f0 : 0 ≤ f ∧ f ≤ 65535) (t0 : 0 ≤ t ∧ t ≤ 65535) (h : M.Mv p f t n i true d) (hi : i + 1 = n) (hn : 1 ≤ n) (v : Int) : M.Mv p f t n 0 false (M.dTake d v) := by
  have e := M.take_wr h.held (by rw [h.p]; exact c.atob) v
  have hl := h.left
  have hau : d.p.auto = true := by rw [h.p]; exact c.auto
  have e2 : M.dFinish { d with b := (d.b + d.p.bstep) % 65536, held := false } = M.dBlock (M.dSignal { d with b := (d.b + d.p.bstep) % 65536, held := false, left := d.left - 1 } 1) := by
    unfold M.dFinish
    rw [if_neg (by show ¬ 1 < d.left; omega), if_pos (by show (d.p.auto && !d.done) = true; rw [hau, h.done]; rfl)]
  rw [e, e2]
  refine ⟨h.p, ?_, ?_, ?_, rfl, h.done⟩
  · show d.p.a = _
    rw [h.p, c.a]
    simp only [Bool.false_eq_true, if_false]
    omega
  · show d.p.b = _
    rw [h.p, c.b]
    omega
  · show (if d.p.len = 0 then 65536 else d.p.len) = _
    rw [h.p, c.len, if_neg (by omega)]
    omega
theorem M.Mv.stop (c : M.Cf p f t n false) (h : M.Mv p f t n i true d) (hi : i + 1 = n) (v : Int) : (M.dTake d v).p = p ∧ (M.dTake d v).done = true ∧ (M.dTake d v).held = false ∧ (M.dTake d v).left = 0 := by
  have e := M.take_wr h.held (by rw [h.p]; exact c.atob) v
  have hl := h.left
  have hau : d.p.auto = false := by rw [h.p]; exact c.auto
  have e2 : M.dFinish { d with b := (d.b + d.p.bstep) % 65536, held := false } = { M.dSignal { d with b := (d.b + d.p.bstep) % 65536, held := false, left := d.left - 1 } 1 with done := true } := by
    unfold M.dFinish
    rw [if_neg (by show ¬ 1 < d.left; omega), if_neg (by show ¬ (d.p.auto && !d.done) = true; rw [hau]; simp)]
  rw [e, e2]
  exact ⟨h.p, rfl, rfl, by show d.left - 1 = 0; omega⟩
theorem M.Mv.next_rd (c : M.Cf p f t n au) (h : M.Mv p f t n i false d) : M.dNextC d = #[.int .i64 2, .int .u16 ((f + i) % 65536), .int .u8 0, .int .i64 3] := by
  have ha := h.a
  simp only [Bool.false_eq_true, if_false, Int.add_zero] at ha
  simp [M.dNextC, M.dNextK, M.dNextIo, M.dNextA, M.dNextD, M.dNextT, M.dNextT0, M.dIsA, h.held, h.p, c.atob, c.aio, c.atime, ha]
theorem M.Mv.next_wr (c : M.Cf p f t n au) (h : M.Mv p f t n i true d) : M.dNextC d = #[.int .i64 3, .int .u16 ((t + i) % 65536), .int .u8 d.hold, .int .i64 3] := by
  simp [M.dNextC, M.dNextK, M.dNextIo, M.dNextA, M.dNextD, M.dNextT, M.dNextT0, M.dIsA, h.held, h.p, c.atob, c.bio, c.btime, h.b]
theorem M.Mv.wants (c : M.Cf p f t n au) {h : Bool} (g : M.Mv p f t n i h d) (hi : i < n) : M.dWants d false = true := by
  have hl := g.left
  have h0 : 0 < d.left := by omega
  simp [M.dWants, M.dOpen, g.p, c.on, c.high, g.done, h0]
theorem M.Mv.open_ (c : M.Cf p f t n au) {h : Bool} (g : M.Mv p f t n i h d) (hi : i < n) (r : Bool) : M.dOpen d = true ∧ (d.forced = false → M.dWants d r = !r) := by
  have hl := g.left
  have h0 : 0 < d.left := by omega
  refine ⟨by simp [M.dOpen, g.p, c.on, g.done, h0], fun hf => ?_⟩
  cases r <;> simp [M.dWants, M.dOpen, g.p, c.on, c.high, g.done, h0, hf]
end
def M.mvL (f0 f1 x k t0 t1 : Int) : List Int := [125, f0, f1, x, 0, 20, 16, k, t0, t1, 207, 135]
def M.agL (f0 f1 x : Int) : List Int := [125, f0, f1, x, 0, 20, 16, 141, 0, 32, 162, 207, 135]
theorem M.ag_told (f0 f1 x : Int) (h0 : 0 ≤ f0 ∧ f0 ≤ 255) (h1 : 0 ≤ f1 ∧ f1 ≤ 255) (hx : 1 ≤ x ∧ x ≤ 255) : M.Cf (M.dTold (M.agL f0 f1 x)).p (f1 * 256 + f0) 8192 x true ∧ M.Mv (M.dTold (M.agL f0 f1 x)).p (f1 * 256 + f0) 8192 x 0 false (M.dTold (M.agL f0 f1 x)) ∧ (M.dTold (M.agL f0 f1 x)).p.want = [] := by
  have ea : (M.dTold (M.agL f0 f1 x)).p.a = f1 * 256 + (0 / 256 * 256 + f0) % 256 := by kernel_rfl
  have el : (M.dTold (M.agL f0 f1 x)).p.len = 0 * 256 + (0 / 256 * 256 + x) % 256 := by kernel_rfl
  have eb : (M.dTold (M.agL f0 f1 x)).a = f1 * 256 + (0 / 256 * 256 + f0) % 256 := by kernel_rfl
  have ec : (M.dTold (M.agL f0 f1 x)).left = if 0 * 256 + (0 / 256 * 256 + x) % 256 = 0 then (65536 : Int) else 0 * 256 + (0 / 256 * 256 + x) % 256 := by kernel_rfl
  refine ⟨⟨by kernel_rfl, by kernel_rfl, by kernel_rfl, by kernel_rfl, by kernel_rfl, by kernel_rfl, by kernel_rfl, by kernel_rfl, by kernel_rfl, by kernel_rfl, by kernel_rfl, by kernel_rfl, ?_, by kernel_rfl, ?_⟩, ⟨rfl, ?_, by kernel_rfl, ?_, by kernel_rfl, by kernel_rfl⟩, by kernel_rfl⟩
  · rw [ea]; omega
  · rw [el]; omega
  · rw [eb]
    simp only [Bool.false_eq_true, if_false]
    omega
  · rw [ec, if_neg (by omega)]
    omega
theorem M.mv_told (f0 f1 x k t0 t1 : Int) (h0 : 0 ≤ f0 ∧ f0 ≤ 255) (h1 : 0 ≤ f1 ∧ f1 ≤ 255) (hx : 1 ≤ x ∧ x ≤ 255) (g0 : 0 ≤ t0 ∧ t0 ≤ 255) (g1 : 0 ≤ t1 ∧ t1 ≤ 255) (hk : k = 141 ∨ k = 173 ∨ k = 205) :
    M.Cf (M.dTold (M.mvL f0 f1 x k t0 t1)).p (f1 * 256 + f0) (t1 * 256 + t0) x false ∧ M.Mv (M.dTold (M.mvL f0 f1 x k t0 t1)).p (f1 * 256 + f0) (t1 * 256 + t0) x 0 false (M.dTold (M.mvL f0 f1 x k t0 t1)) ∧ (M.dTold (M.mvL f0 f1 x k t0 t1)).p.want = [] ∧ (M.dTold (M.mvL f0 f1 x k t0 t1)).p.mode = k / 32 % 4 ∧ (M.dTold (M.mvL f0 f1 x k t0 t1)).forced = false := by
  rcases hk with rfl | rfl | rfl
  all_goals
    refine ⟨⟨by kernel_rfl, by kernel_rfl, by kernel_rfl, by kernel_rfl, by kernel_rfl, by kernel_rfl, by kernel_rfl, by kernel_rfl, by kernel_rfl, by kernel_rfl, by kernel_rfl, by kernel_rfl, ?_, ?_, ?_⟩, ⟨rfl, ?_, ?_, ?_, by kernel_rfl, by kernel_rfl⟩, by kernel_rfl, by kernel_rfl, by kernel_rfl⟩
    · refine Eq.trans (b := f1 * 256 + (0 / 256 * 256 + f0) % 256) (by kernel_rfl) ?_
      omega
    · refine Eq.trans (b := t1 * 256 + (0 / 256 * 256 + t0) % 256) (by kernel_rfl) ?_
      omega
    · refine Eq.trans (b := 0 * 256 + (0 / 256 * 256 + x) % 256) (by kernel_rfl) ?_
      omega
    · refine Eq.trans (b := f1 * 256 + (0 / 256 * 256 + f0) % 256) (by kernel_rfl) ?_
      simp only [Bool.false_eq_true, if_false]
      omega
    · refine Eq.trans (b := t1 * 256 + (0 / 256 * 256 + t0) % 256) (by kernel_rfl) ?_
      omega
    · refine Eq.trans (b := if 0 * 256 + (0 / 256 * 256 + x) % 256 = 0 then (65536 : Int) else 0 * 256 + (0 / 256 * 256 + x) % 256) (by kernel_rfl) ?_
      rw [if_neg (by omega)]
      omega
theorem M.dFinish_forced (d : M.Dm) : (M.dFinish d).forced = d.forced := by
  unfold M.dFinish
  split
  · rfl
  · split <;> rfl
theorem M.dFound_forced (d : M.Dm) (b : Int) : (M.dFound d b).forced = d.forced := by unfold M.dFound; split <;> rfl
theorem M.dTake_forced (d : M.Dm) (b : Int) : (M.dTake d b).forced = d.forced := by
  rw [M.dTake_is d b _ rfl]
  have hm : (M.dMove d (M.dIsA d)).forced = d.forced := by cases M.dIsA d <;> rfl
  split
  · rw [M.dFinish_forced]; exact hm
  · split
    · rw [M.dFinish_forced, M.dFound_forced]; exact hm
    · show (M.dFound _ _).forced = _
      rw [M.dFound_forced]; exact hm
theorem mod_up {q n : Nat} (h : q % n + 1 < n) : (q + 1) % n = q % n + 1 := by
  rw [Nat.add_mod, Nat.mod_eq_of_lt (show 1 < n by omega), Nat.mod_eq_of_lt h]
theorem mod_wrap {q n : Nat} (h : q % n + 1 = n) : (q + 1) % n = 0 := by
  have e := Nat.div_add_mod q n
  have e2 : q + 1 = n * (q / n + 1) := by rw [Nat.mul_add, Nat.mul_one]; omega
  rw [e2, Nat.mul_mod_right]
theorem M.ag_state {L : List Int} {P : M.Dm} {f : Int} {m : Nat} (c : M.Cf P.p f 8192 ((m : Int) + 1) true) (f0 : 0 ≤ f ∧ f ≤ 65535) (h : M.Mv P.p f 8192 ((m : Int) + 1) 0 false P) :
    ∀ j : Nat, j ≤ L.length → M.Mv P.p f 8192 ((m : Int) + 1) ((j / 2 % (m + 1) : Nat) : Int) (j % 2 == 1) (M.dTakes P (L.take j)) ∧ (j % 2 = 1 → (M.dTakes P (L.take j)).hold = L.getD (j - 1) 0)
  | 0, _ => ⟨by simpa [M.dTakes] using h, fun e => by simp at e⟩
  | j + 1, hj => by
    have ih := (M.ag_state (L := L) c f0 h j (by omega)).1
    rw [M.dTakes_next P (L := L) (by omega)]
    have hlt := Nat.mod_lt (j / 2) (show 0 < m + 1 by omega)
    rcases Nat.mod_two_eq_zero_or_one j with e | e
    · rw [e] at ih
      have r := ih.read c (L.getD j 0)
      have e1 : (j + 1) / 2 = j / 2 := by omega
      have e2 : (j + 1) % 2 = 1 := by omega
      rw [e1, e2]
      exact ⟨r.1, fun _ => r.2⟩
    · rw [e] at ih
      have e1 : (j + 1) / 2 = j / 2 + 1 := by omega
      have e2 : (j + 1) % 2 = 0 := by omega
      rw [e1, e2]
      refine ⟨?_, fun h => by cases h⟩
      by_cases g : j / 2 % (m + 1) + 1 < m + 1
      · rw [mod_up g]
        have r := ih.write c (by omega) (L.getD j 0)
        have e3 : ((j / 2 % (m + 1) + 1 : Nat) : Int) = ((j / 2 % (m + 1) : Nat) : Int) + 1 := by omega
        rw [e3]
        exact r
      · rw [mod_wrap (by omega)]
        exact ih.again c f0 (by decide) (by omega) (by omega) (L.getD j 0)
theorem M.mo_state {P : M.Dm} {f t : Int} {m : Nat} (c : M.Cf P.p f t ((m : Int) + 1) false) (h : M.Mv P.p f t ((m : Int) + 1) 0 false P) (D : Nat → M.Dm) (v : Nat → Int) (h0 : D 0 = P) (hs : ∀ j, D (j + 1) = M.dTake (D j) (v j)) :
    ∀ j : Nat, j < 2 * (m + 1) → M.Mv P.p f t ((m : Int) + 1) ((j / 2 : Nat) : Int) (j % 2 == 1) (D j) ∧ (j % 2 = 1 → (D j).hold = v (j - 1))
  | 0, _ => ⟨by rw [h0]; exact h, fun e => by simp at e⟩
  | j + 1, hj => by
    have ih := (M.mo_state c h D v h0 hs j (by omega)).1
    rw [hs]
    rcases Nat.mod_two_eq_zero_or_one j with e | e
    · rw [e] at ih
      have r := ih.read c (v j)
      have e1 : (j + 1) / 2 = j / 2 := by omega
      have e2 : (j + 1) % 2 = 1 := by omega
      rw [e1, e2]
      exact ⟨r.1, fun _ => r.2⟩
    · rw [e] at ih
      have e1 : (j + 1) / 2 = j / 2 + 1 := by omega
      have e2 : (j + 1) % 2 = 0 := by omega
      rw [e1, e2]
      refine ⟨?_, fun h => by cases h⟩
      have r := ih.write c (by omega) (v j)
      have e3 : ((j / 2 + 1 : Nat) : Int) = ((j / 2 : Nat) : Int) + 1 := by omega
      rw [e3]
      exact r
theorem M.mo_end {P : M.Dm} {f t : Int} {m : Nat} (c : M.Cf P.p f t ((m : Int) + 1) false) (h : M.Mv P.p f t ((m : Int) + 1) 0 false P) (D : Nat → M.Dm) (v : Nat → Int) (h0 : D 0 = P) (hs : ∀ j, D (j + 1) = M.dTake (D j) (v j)) :
    (D (2 * m + 1 + 1)).p = P.p ∧ (D (2 * m + 1 + 1)).done = true ∧ (D (2 * m + 1 + 1)).held = false ∧ (D (2 * m + 1 + 1)).left = 0 := by
  have g := (M.mo_state c h D v h0 hs (2 * m + 1) (by omega)).1
  have e1 : (2 * m + 1) / 2 = m := by omega
  have e2 : (2 * m + 1) % 2 = 1 := by omega
  rw [e1, e2] at g
  rw [hs]
  exact g.stop c rfl _
end Go.Proofs.Ytkkkjdbcckaedaa
