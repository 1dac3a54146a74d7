/- A slice of bytes, or of numbers, that came in as an argument, as a list. -/
import Derived.Test.YtmoafjgogbcoeaaSlOps
namespace Go.Proofs.Ytmoafjgogbcoeaa
open Go.RowKit
set_option linter.unusedVariables false
/-- A slice of numbers of a kind, as a row opens it. -/
def RowIntL (k : IntKind) (w : World) (a : Option Addr) (len cap : Nat) (zs : List Int) : Prop :=
  (a = none ∧ len = 0 ∧ cap = 0 ∧ zs = []) ∨
  ∃ x, a = some x ∧ len ≤ cap ∧ cap ≤ maxLen ∧ zs.length = cap ∧ (∀ i, i < zs.length → w.cell? (x.add i) = some (.int k (zs.getD i 0))) ∧ ∀ n ∈ zs, (Lit.int k n).wf = true
abbrev RowU8L := RowIntL .u8
theorem spot_of_cell {w : World} {x : Addr} {v : Value} (h : w.cell? x = some v) : x = ⟨x.block, x.off, none⟩ := by
  obtain ⟨b, o, s⟩ := x
  cases s with
  | none => rfl
  | some s =>
    unfold World.cell? at h
    split at h
    · simp at h
    · cases h
theorem RowIntL.ls {k : IntKind} {w : World} {a : Option Addr} {len cap : Nat} {zs : List Int} (h : RowIntL k w a len cap zs) : ∃ L : List Int, L.length = len ∧ len ≤ maxLen ∧ Ls 0 w (.slice a len cap) (ints k L) ∧ ∀ n ∈ L, (Lit.int k n).wf = true := by
  rcases h with ⟨rfl, rfl, rfl, rfl⟩ | ⟨x, rfl, hl, hm, hz, hc, hw⟩
  · exact ⟨[], rfl, Nat.zero_le _, Ls.nil _ _ _ _ (Nat.zero_le _), fun n hn => by cases hn⟩
  · by_cases h0 : len = 0
    · subst h0
      exact ⟨[], rfl, Nat.zero_le _, Ls.nil _ _ _ _ hm, fun n hn => by cases hn⟩
    · have hlen : (zs.take len).length = len := by simp; omega
      have h00 := hc 0 (by omega)
      have hx := spot_of_cell (by simpa [Addr.add] using h00)
      generalize hb : x.block = b at hx
      generalize ho : x.off = o at hx
      subst hx
      clear hb ho
      refine ⟨zs.take len, hlen, Nat.le_trans hl hm, ?_, fun n hn => hw n (List.mem_of_mem_take hn)⟩
      refine Ls.mk' (by rw [ints_length, hlen]) hl hm (Nat.zero_le _) (World.block_lt_of_cell? w _ h00) (fun i v hv => ?_)
      have hi : i < len := by
        have := (List.getElem?_eq_some_iff.1 hv).1
        rw [ints_length, hlen] at this
        exact this
      have e := hc i (by omega)
      rw [Addr.add_lit] at e
      rw [e, ← hv]
      have hi2 : i < zs.length := by omega
      simp [ints, hi, hi2, List.getD_eq_getElem?_getD]
theorem u8_wf {n : Int} (h : (Lit.int .u8 n).wf = true) : 0 ≤ n ∧ n ≤ 255 := by
  simp [Lit.wf, IntKind.min, IntKind.max, IntKind.bits, IntKind.signed] at h
  omega
theorem i64_wf {n : Int} (h : (Lit.int .i64 n).wf = true) : -9223372036854775808 ≤ n ∧ n ≤ 9223372036854775807 := by
  simp [Lit.wf, IntKind.min, IntKind.max, IntKind.bits, IntKind.signed] at h
  omega
theorem getD_mem {L : List Int} {i : Nat} (h : i < L.length) : L.getD i 0 ∈ L := by
  rw [List.getD_eq_getElem?_getD, List.getElem?_eq_getElem h]
  exact List.getElem_mem h
/-- One cell of a slice that came in, as a range. -/
theorem St.one {w W : World} {es : List Ent} {b q i : Nat} {v : Value} (h : St w.heap.size 0 0 w es W) (hc : w.cell? ⟨b, q + i, none⟩ = some v) : St w.heap.size 0 0 w (⟨b, q + i, false, #[v]⟩ :: es) W :=
  h.given (fun j u hu => by
    match j with
    | 0 => simp at hu; subst hu; exact hc
    | j + 1 => simp at hu) (World.block_lt_of_cell? w _ hc)
end Go.Proofs.Ytmoafjgogbcoeaa
