/- A DMA that searches: what Take does to it, as plain mathematics. -/
import Derived.Test.YtkkkjdbcckaedaaDmMv
namespace Go.Proofs.Ytkkkjdbcckaedaa
open Go.RowKit
set_option linter.unusedVariables false
set_option linter.unusedSimpArgs false
set_option maxRecDepth 100000
structure M.Cs (p : M.Rg) (mt : Int) : Prop where
  cls : p.cls = 2
  atob : p.atob = true
  astep : p.astep = 1
  aio : p.aio = false
  atime : p.atime = 0
  high : p.high = false
  ints : p.ints = false
  auto : p.auto = false
  stop : p.stop = true
  mask : p.mask = 0
  mat : p.mat = mt
/-- A searcher that has looked at i bytes of n, and found nothing. -/
structure M.Sr (p : M.Rg) (n i : Int) (d : M.Dm) : Prop where
  p : d.p = p
  a : d.a = (4096 + i) % 65536
  left : d.left = n - i
  held : d.held = false
  done : d.done = false
  matched : d.matched = false
theorem M.bit0 (k : Nat) : M.bit 0 k = false := by simp [M.bit]
theorem M.alike_self (a : Int) : M.alike a a 0 = true := by
  unfold M.alike
  rw [List.all_eq_true]
  intro k _
  simp
theorem M.alike_ne {a b : Int} (a0 : 0 ≤ a) (a1 : a ≤ 255) (b0 : 0 ≤ b) (b1 : b ≤ 255) (h : a ≠ b) : M.alike a b 0 = false := by
  cases hc : M.alike a b 0 with
  | false => rfl
  | true =>
    unfold M.alike at hc
    rw [List.all_eq_true] at hc
    have hk : ∀ k, k < 8 → a / 2 ^ k % 2 = b / 2 ^ k % 2 := fun k hk => by
      have h1 := hc k (List.mem_range.2 hk)
      rw [M.bit0, Bool.or_false] at h1
      have h2 : M.bit a k = M.bit b k := by simpa using h1
      unfold M.bit at h2
      have ra := Int.emod_two_eq (a / 2 ^ k)
      have rb := Int.emod_two_eq (b / 2 ^ k)
      rcases ra with ra | ra <;> rcases rb with rb | rb <;> rw [ra, rb] at h2 ⊢ <;> simp at h2
    have k0 := hk 0 (by decide)
    have k1 := hk 1 (by decide)
    have k2 := hk 2 (by decide)
    have k3 := hk 3 (by decide)
    have k4 := hk 4 (by decide)
    have k5 := hk 5 (by decide)
    have k6 := hk 6 (by decide)
    have k7 := hk 7 (by decide)
    simp only [Int.reducePow, Int.pow_zero, Int.pow_one, Int.ediv_one] at k0 k1 k2 k3 k4 k5 k6 k7
    exact absurd (by omega) h
section
variable {p : M.Rg} {n i mt : Int} {d : M.Dm}
theorem M.take_sr (hh : d.held = false) (hc : d.p.cls = 2) (ha : d.p.atob = true) (v : Int) : M.dTake d v = M.dFinish (M.dFound { d with a := (d.a + d.p.astep) % 65536, hold := v, ran := true } v) := by
  simp [M.dTake, M.dMove, hh, hc, ha]
theorem M.Sr.step (c : M.Cs p mt) (h : M.Sr p n i d) {v : Int} (v0 : 0 ≤ v) (v1 : v ≤ 255) (m0 : 0 ≤ mt) (m1 : mt ≤ 255) (hv : v ≠ mt) (hi : i + 1 < n) : M.Sr p n (i + 1) (M.dTake d v) := by
  have e := M.take_sr h.held (by rw [h.p]; exact c.cls) (by rw [h.p]; exact c.atob) v
  have hl := h.left
  have ha := h.a
  have hs : d.p.astep = 1 := by rw [h.p]; exact c.astep
  have hal : M.alike v d.p.mat d.p.mask = false := by rw [h.p, c.mat, c.mask]; exact M.alike_ne v0 v1 m0 m1 hv
  have ef : M.dFound { d with a := (d.a + d.p.astep) % 65536, hold := v, ran := true } v = { d with a := (d.a + d.p.astep) % 65536, hold := v, ran := true } := by
    unfold M.dFound
    rw [if_neg (by show ¬ (d.p.cls ≠ 1 ∧ M.alike v d.p.mat d.p.mask = true); rw [hal]; simp)]
  have e2 : M.dFinish { d with a := (d.a + d.p.astep) % 65536, hold := v, ran := true } = { d with a := (d.a + d.p.astep) % 65536, hold := v, ran := true, left := d.left - 1 } := by
    unfold M.dFinish
    rw [if_pos (by show 1 < d.left; omega)]
  rw [e, ef, e2]
  refine ⟨h.p, ?_, ?_, h.held, h.done, h.matched⟩
  · show (d.a + d.p.astep) % 65536 = _
    rw [ha, hs]; omega
  · show d.left - 1 = _
    omega
theorem M.Sr.end_ (c : M.Cs p mt) (h : M.Sr p n i d) {v : Int} (v0 : 0 ≤ v) (v1 : v ≤ 255) (m0 : 0 ≤ mt) (m1 : mt ≤ 255) (hv : v ≠ mt) (hi : i + 1 = n) : (M.dTake d v).done = true ∧ (M.dTake d v).matched = false ∧ (M.dTake d v).left = 0 := by
  have e := M.take_sr h.held (by rw [h.p]; exact c.cls) (by rw [h.p]; exact c.atob) v
  have hl := h.left
  have hau : d.p.auto = false := by rw [h.p]; exact c.auto
  have hal : M.alike v d.p.mat d.p.mask = false := by rw [h.p, c.mat, c.mask]; exact M.alike_ne v0 v1 m0 m1 hv
  have ef : M.dFound { d with a := (d.a + d.p.astep) % 65536, hold := v, ran := true } v = { d with a := (d.a + d.p.astep) % 65536, hold := v, ran := true } := by
    unfold M.dFound
    rw [if_neg (by show ¬ (d.p.cls ≠ 1 ∧ M.alike v d.p.mat d.p.mask = true); rw [hal]; simp)]
  have e2 : M.dFinish { d with a := (d.a + d.p.astep) % 65536, hold := v, ran := true } = { M.dSignal { d with a := (d.a + d.p.astep) % 65536, hold := v, ran := true, left := d.left - 1 } 1 with done := true } := by
    unfold M.dFinish
    rw [if_neg (by show ¬ 1 < d.left; omega), if_neg (by show ¬ (d.p.auto && !d.done) = true; rw [hau]; simp)]
  rw [e, ef, e2]
  exact ⟨rfl, h.matched, by show d.left - 1 = 0; omega⟩
theorem M.Sr.hit (c : M.Cs p mt) (h : M.Sr p n i d) (hi : i < n) : (M.dTake d mt).done = true ∧ (M.dTake d mt).matched = true ∧ (M.dTake d mt).left = n - i - 1 := by
  have e := M.take_sr h.held (by rw [h.p]; exact c.cls) (by rw [h.p]; exact c.atob) mt
  have hl := h.left
  have hau : d.p.auto = false := by rw [h.p]; exact c.auto
  have hcl : d.p.cls ≠ 1 := by rw [h.p, c.cls]; decide
  have hal : M.alike mt d.p.mat d.p.mask = true := by rw [h.p, c.mat, c.mask]; exact M.alike_self mt
  have hst : d.p.stop = true := by rw [h.p]; exact c.stop
  have ef : M.dFound { d with a := (d.a + d.p.astep) % 65536, hold := mt, ran := true } mt = M.dSignal { d with a := (d.a + d.p.astep) % 65536, hold := mt, ran := true, matched := true, done := d.done || d.p.stop } 0 := by
    unfold M.dFound
    rw [if_pos ⟨hcl, hal⟩]
  rw [e, ef]
  by_cases g : 1 < d.left
  · have e2 : M.dFinish (M.dSignal { d with a := (d.a + d.p.astep) % 65536, hold := mt, ran := true, matched := true, done := d.done || d.p.stop } 0) = { M.dSignal { d with a := (d.a + d.p.astep) % 65536, hold := mt, ran := true, matched := true, done := d.done || d.p.stop } 0 with left := d.left - 1 } := by
      unfold M.dFinish
      rw [if_pos (by show 1 < d.left; exact g)]
      rfl
    rw [e2]
    exact ⟨by show (d.done || d.p.stop) = true; rw [hst, Bool.or_true], rfl, by show d.left - 1 = _; omega⟩
  · unfold M.dFinish
    rw [if_neg (by show ¬ 1 < d.left; exact g), if_neg (by show ¬ (d.p.auto && !(d.done || d.p.stop)) = true; rw [hau]; simp)]
    exact ⟨rfl, rfl, by show d.left - 1 = _; omega⟩
theorem M.Sr.next (c : M.Cs p mt) (h : M.Sr p n i d) : M.dNextC d = #[.int .i64 2, .int .u16 ((4096 + i) % 65536), .int .u8 0, .int .i64 3] := by
  simp [M.dNextC, M.dNextK, M.dNextIo, M.dNextA, M.dNextD, M.dNextT, M.dNextT0, M.dIsA, h.held, h.p, c.atob, c.aio, c.atime, h.a]
end
def M.srL (x mt : Int) : List Int := [126, 0, 16, x, 0, 20, 16, 156, 0, mt, 207, 135]
theorem M.sr_told (x mt : Int) (hx : 1 ≤ x ∧ x ≤ 255) : M.Cs (M.dTold (M.srL x mt)).p mt ∧ M.Sr (M.dTold (M.srL x mt)).p x 0 (M.dTold (M.srL x mt)) ∧ (M.dTold (M.srL x mt)).p.want = [] := by
  refine ⟨⟨by kernel_rfl, by kernel_rfl, by kernel_rfl, by kernel_rfl, by kernel_rfl, by kernel_rfl, by kernel_rfl, by kernel_rfl, by kernel_rfl, by kernel_rfl, by kernel_rfl⟩, ⟨rfl, ?_, ?_, by kernel_rfl, by kernel_rfl, by kernel_rfl⟩, by kernel_rfl⟩
  · refine Eq.trans (b := (16 * 256 + (0 / 256 * 256 + 0) % 256 : Int)) (by kernel_rfl) ?_
    omega
  · refine Eq.trans (b := if 0 * 256 + (0 / 256 * 256 + x) % 256 = 0 then (65536 : Int) else 0 * 256 + (0 / 256 * 256 + x) % 256) (by kernel_rfl) ?_
    rw [if_neg (by omega)]
    omega
theorem M.sr_state {L : List Int} {P : M.Dm} {mt : Int} (hb : ∀ x ∈ L, 0 ≤ x ∧ x ≤ 255) (m0 : 0 ≤ mt) (m1 : mt ≤ 255) (c : M.Cs P.p mt) (h : M.Sr P.p (L.length : Int) 0 P) : ∀ j : Nat, j < L.length → (∀ x, x < j → L.getD x 0 ≠ mt) → M.Sr P.p (L.length : Int) (j : Int) (M.dTakes P (L.take j))
  | 0, _, _ => by simpa [M.dTakes] using h
  | j + 1, hj, hne => by
    have ih := M.sr_state hb m0 m1 c h j (by omega) (fun x hx => hne x (by omega))
    have hv := hb _ (getD_mem (show j < L.length by omega))
    rw [M.dTakes_next P (by omega)]
    have := ih.step c hv.1 hv.2 m0 m1 (hne j (by omega)) (by omega)
    have e : ((j + 1 : Nat) : Int) = (j : Int) + 1 := by omega
    rw [e]
    exact this
end Go.Proofs.Ytkkkjdbcckaedaa
