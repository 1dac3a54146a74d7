/- States of the arbiter, slices of bools and slices of these that came in as arguments: what they hold. -/
import Derived.Test.YtmoafjgogbcoeaaArLp
import Derived.Deep.Grids
import Derived.WalkKit
import Derived.ProofKit
import Derived.OpenShut
import Derived.ChangeArms
import Derived.Deep.Modes
namespace Go.Proofs.Ytmoafjgogbcoeaa
open Go.ChangeShapes Go.WideShapes Go.RowKit Go.Deep
set_option linter.unusedVariables false
set_option linter.unusedSimpArgs false
set_option maxRecDepth 100000
/-- One row of bools, as a list. -/
theorem row_ls {w : World} {a : Option Addr} {len cap : Nat} {B : Nat → Bool} (hl : len ≤ cap) (hm : cap ≤ maxLen) (hn : a = none → cap = 0) (hc : ∀ a', a = some a' → ∀ i, i < cap → w.cell? (a'.add i) = some (.bool (B i))) :
    Ls 0 w (.slice a len cap) (bls ((List.range len).map B)) := by
  cases a with
  | none =>
    obtain rfl : cap = 0 := hn rfl
    obtain rfl : len = 0 := by omega
    exact Ls.nil _ _ _ _ (Nat.zero_le _)
  | some x =>
    by_cases h0 : len = 0
    · subst h0
      exact Ls.nil _ _ _ _ hm
    · have hc := hc x rfl
      have h00 := hc 0 (by omega)
      have hx := spot_of_cell (by simpa [Addr.add] using h00)
      generalize hb : x.block = b at hx
      generalize ho : x.off = o at hx
      subst hx
      clear hb ho
      refine Ls.mk' (by simp [bls]) hl hm (Nat.zero_le _) (World.block_lt_of_cell? w _ h00) (fun i v hv => ?_)
      have hi : i < len := by
        have := (List.getElem?_eq_some_iff.1 hv).1
        simpa [bls] using this
      have e := hc i (by omega)
      rw [Addr.add_lit] at e
      rw [e, ← hv]
      simp [bls, hi]
section
variable {H : Type} {enc : TypeId × Value → H} {w : World} {base : Nat} {held : Bool}
theorem bl_open {r : Reach} {b0 : Nat} {v : Value} {d : DataW H} {p : List MemPlace} (hv : Value.okWide Try.prog w r b0 24 v) (h : DataW.Trod enc Try.prog w base (fun _ => true) held 24 v d p) :
    ∃ (A : Option Addr) (n c : Nat) (L : List Bool), v = .slice A n c ∧ L.length = n ∧ Ls 0 w (.slice A n c) (bls L) := by
  obtain ⟨A, n, c, rfl⟩ := okWide_slice Try.underlying24 hv
  obtain ⟨fuel, hf⟩ := h
  rcases open_bools Try.underlying24 Try.underlying4 (by kernel_rfl) hf with ⟨hcs, _⟩ | ⟨x, l, k, B, hcs, _, hl, hm, _, hcell⟩
  · simp [Value.cells] at hcs
    obtain ⟨rfl, rfl, rfl⟩ := hcs
    exact ⟨none, 0, 0, [], rfl, rfl, Ls.nil _ _ _ _ (Nat.zero_le _)⟩
  · simp [Value.cells] at hcs
    obtain ⟨rfl, rfl, rfl⟩ := hcs
    exact ⟨some x, _, _, (List.range n).map B, rfl, by simp, row_ls hl hm (fun h => by cases h) (fun a' e i hi => by cases e; exact hcell i hi)⟩
theorem bb_open {r : Reach} {b0 : Nat} {v : Value} {d : DataW H} {p : List MemPlace} (hv : Value.okWide Try.prog w r b0 36 v) (h : DataW.Trod enc Try.prog w base (fun _ => true) held 36 v d p) :
    ∃ (A : Option Addr) (n c : Nat) (LL : List (List Bool)), v = .slice A n c ∧ N2 w A n c LL := by
  obtain ⟨A, n, c, rfl⟩ := okWide_slice Try.underlying36 hv
  obtain ⟨fuel, hf⟩ := h
  rcases open_bool_rows Try.underlying36 Try.underlying24 Try.underlying4 (by kernel_rfl) (by kernel_rfl) hf with ⟨hcs, _⟩ | ⟨x, l, k, A', L, C, B, hcs, _, hl, hm, _, hrow⟩
  · simp [Value.cells] at hcs
    obtain ⟨rfl, rfl, rfl⟩ := hcs
    exact ⟨none, 0, 0, [], rfl, ⟨rfl, Nat.zero_le _, [], Ls.nil _ _ _ _ (Nat.zero_le _), rfl, fun i hi => absurd hi (Nat.not_lt_zero _)⟩⟩
  · simp [Value.cells] at hcs
    obtain ⟨rfl, rfl, rfl⟩ := hcs
    have hd : ∀ i, i < n → ((List.range n).map fun r => (List.range (L r)).map (B r)).getD i [] = (List.range (L i)).map (B i) := fun i hi => by simp [List.getD_eq_getElem?_getD, hi]
    refine ⟨some x, _, _, (List.range n).map fun r => (List.range (L r)).map (B r), rfl, ⟨by simp, Nat.le_trans hl hm, (List.range n).map fun r => .slice (A' r) (L r) (C r), ?_, by simp, fun i hi => ?_⟩⟩
    · by_cases h0 : n = 0
      · subst h0
        exact Ls.nil _ _ _ _ hm
      · have h00 := (hrow 0 (by omega)).1
        have hx := spot_of_cell (by simpa [Addr.add] using h00)
        generalize hb : x.block = b at hx
        generalize ho : x.off = o at hx
        subst hx
        clear hb ho
        refine Ls.mk' (by simp) hl hm (Nat.zero_le _) (World.block_lt_of_cell? w _ h00) (fun i v hv => ?_)
        have hi : i < n := by
          have := (List.getElem?_eq_some_iff.1 hv).1
          simpa using this
        have e := (hrow i (by omega)).1
        rw [Addr.add_lit] at e
        rw [e, ← hv]
        simp [hi]
    · obtain ⟨_, h1, h2, h3, h4⟩ := hrow i (by omega)
      rw [hd i hi]
      refine ⟨A' i, C i, by simp [hi], ?_⟩
      rw [show ((List.range (L i)).map (B i)).length = L i by simp]
      exact row_ls h1 h2 h3 (fun a' e => (h4 a' e).2)
theorem i64_in {n : Int} (h : (Lit.int .i64 n).wf = true) : -9223372036854775808 ≤ n ∧ n ≤ 9223372036854775807 := by
  simp [Lit.wf, IntKind.min, IntKind.max, IntKind.bits, IntKind.signed] at h
  omega
theorem ast_open {spare : Nat → Bool} {r : Reach} {b0 : Nat} {v : Value} {d : DataW H} {p : List MemPlace} (hv : Value.okWide Try.prog w r b0 23 v) (h : DataW.Trod enc Try.prog w base spare held 23 v d p) :
    ∃ m o : Int, (-9223372036854775808 ≤ m ∧ m ≤ 9223372036854775807) ∧ (-9223372036854775808 ≤ o ∧ o ≤ 9223372036854775807) ∧ v = stV m o ∧ p = [] := by
  obtain ⟨cs, rfl, hsz⟩ := okWide_struct Try.underlying23 hv
  obtain ⟨fuel, hf⟩ := h
  obtain ⟨xs, m, _, hx, hl, hlen, hg⟩ := DataW.trod_struct Try.underlying23 hf
  have hc2 : Try.prog.cellsOf 23 = 2 := by kernel_rfl
  have k3 : Try.prog.cellsOf 3 = 1 := by kernel_rfl
  rw [hc2] at hl
  obtain ⟨c0, c1, rfl⟩ : ∃ c0 c1, cs = #[c0, c1] := by
    have hl' : cs.toList.length = 2 := by simpa [Value.cells] using hl
    match hcs : cs.toList, hl' with
    | [c0, c1], _ => exact ⟨c0, c1, Array.ext' hcs⟩
  match xs, hlen with
  | [y0, y1], _ =>
    have f0 : DataW.trod enc Try.prog w base spare held m 3 (([c0, c1].drop 0).take (Try.prog.cellsOf 3)) = [y0, y1][0]? := hg 0 _ rfl
    have f1 : DataW.trod enc Try.prog w base spare held m 3 (([c0, c1].drop 1).take (Try.prog.cellsOf 3)) = [y0, y1][1]? := hg 1 _ rfl
    simp only [k3, List.drop_succ_cons, List.drop_zero, List.take_succ_cons, List.take_zero, List.getElem?_cons_zero, List.getElem?_cons_succ] at f0 f1
    obtain ⟨n0, e0, z0, w0⟩ := DataW.trod_int Try.underlying3 f0
    obtain ⟨n1, e1, z1, w1⟩ := DataW.trod_int Try.underlying3 f1
    simp only [List.cons.injEq, and_true] at e0 e1
    subst e0 e1
    refine ⟨n0, n1, i64_in w0, i64_in w1, rfl, ?_⟩
    simp only [Prod.mk.injEq] at hx
    rw [hx.2]
    simp [z0, z1]
end
end Go.Proofs.Ytmoafjgogbcoeaa
