/- Serial channels whose cells are of their types stay so. -/
import Derived.Test.YtlpoldnidojgmaaSioRead
import Derived.Test.YtlpoldnidojgmaaSioRecv
namespace Go.Proofs.Ytlpoldnidojgmaa
open Go.RowKit
set_option linter.unusedVariables false
theorem M.l0 : -9223372036854775808 ≤ (0 : Int) ∧ (0 : Int) ≤ 9223372036854775807 := by decide
theorem M.l1 : -9223372036854775808 ≤ (1 : Int) ∧ (1 : Int) ≤ 9223372036854775807 := by decide
theorem M.l2 : -9223372036854775808 ≤ (2 : Int) ∧ (2 : Int) ≤ 9223372036854775807 := by decide
theorem M.l3 : -9223372036854775808 ≤ (3 : Int) ∧ (3 : Int) ≤ 9223372036854775807 := by decide
theorem M.lb : 0 ≤ (0 : Int) ∧ (0 : Int) ≤ 255 := by decide
theorem M.wset_ok {x : M.Cn} (h : x.ok) {b : Int} (h0 : 0 ≤ b) (h1 : b ≤ 255) (j : Nat) : (x.wset b j).ok := by
  unfold M.Cn.wset
  split
  · exact ⟨⟨h0, h1⟩, h.w1, h.w2, h.w3, h.w4, h.w5, h.w6, h.w7, h.pt, h.f0, h.f1, h.f2, h.n, h.tx⟩
  · exact ⟨h.w0, ⟨h0, h1⟩, h.w2, h.w3, h.w4, h.w5, h.w6, h.w7, h.pt, h.f0, h.f1, h.f2, h.n, h.tx⟩
  · exact ⟨h.w0, h.w1, ⟨h0, h1⟩, h.w3, h.w4, h.w5, h.w6, h.w7, h.pt, h.f0, h.f1, h.f2, h.n, h.tx⟩
  · exact ⟨h.w0, h.w1, h.w2, ⟨h0, h1⟩, h.w4, h.w5, h.w6, h.w7, h.pt, h.f0, h.f1, h.f2, h.n, h.tx⟩
  · exact ⟨h.w0, h.w1, h.w2, h.w3, ⟨h0, h1⟩, h.w5, h.w6, h.w7, h.pt, h.f0, h.f1, h.f2, h.n, h.tx⟩
  · exact ⟨h.w0, h.w1, h.w2, h.w3, h.w4, ⟨h0, h1⟩, h.w6, h.w7, h.pt, h.f0, h.f1, h.f2, h.n, h.tx⟩
  · exact ⟨h.w0, h.w1, h.w2, h.w3, h.w4, h.w5, ⟨h0, h1⟩, h.w7, h.pt, h.f0, h.f1, h.f2, h.n, h.tx⟩
  · exact ⟨h.w0, h.w1, h.w2, h.w3, h.w4, h.w5, h.w6, ⟨h0, h1⟩, h.pt, h.f0, h.f1, h.f2, h.n, h.tx⟩
theorem M.cn0_ok : M.cn0.ok := ⟨by decide, by decide, by decide, by decide, by decide, by decide, by decide, by decide, by decide, by decide, by decide, by decide, by decide, by decide⟩
theorem M.si0_ok : M.si0.ok := ⟨M.cn0_ok, M.cn0_ok⟩
theorem M.sCmd_ok {x : M.Cn} (h : x.ok) {b : Int} (h0 : 0 ≤ b) (h1 : b ≤ 255) : (M.sCmd x b).ok := by
  have hp : -9223372036854775808 ≤ b % 8 ∧ b % 8 ≤ 9223372036854775807 := by omega
  unfold M.sCmd
  split
  · exact M.cn0_ok
  · split
    · exact ⟨h.w0, h.w1, h.w2, h.w3, h.w4, h.w5, h.w6, h.w7, hp, h.f0, h.f1, h.f2, h.n, h.tx⟩
    · split
      · exact ⟨h.w0, h.w1, h.w2, h.w3, h.w4, h.w5, h.w6, h.w7, hp, h.f0, h.f1, h.f2, h.n, h.tx⟩
      · exact ⟨h.w0, h.w1, h.w2, h.w3, h.w4, h.w5, h.w6, h.w7, hp, h.f0, h.f1, h.f2, h.n, h.tx⟩
theorem M.sCtl_ok {x : M.Cn} (h : x.ok) {b : Int} (h0 : 0 ≤ b) (h1 : b ≤ 255) : (M.sCtl x b).ok := by
  unfold M.sCtl
  split
  · have g := M.wset_ok h h0 h1 x.pt.toNat
    exact ⟨g.w0, g.w1, g.w2, g.w3, g.w4, g.w5, g.w6, g.w7, M.l0, g.f0, g.f1, g.f2, g.n, g.tx⟩
  · exact M.sCmd_ok h h0 h1
theorem M.sTx_ok {x : M.Cn} (h : x.ok) {b : Int} (h0 : 0 ≤ b) (h1 : b ≤ 255) : (M.sTx x b).ok := ⟨h.w0, h.w1, h.w2, h.w3, h.w4, h.w5, h.w6, h.w7, h.pt, h.f0, h.f1, h.f2, h.n, ⟨h0, h1⟩⟩
theorem M.sWrite_ok {s : M.Si} (hs : s.ok) (reg : Int) {b : Int} (h0 : 0 ≤ b) (h1 : b ≤ 255) : (M.sWrite s reg b).ok := by
  unfold M.sWrite
  split
  · refine M.set_ok hs ?_ _
    have h := M.right_ok (M.si_at_ok hs (reg / 2).toNat)
    split
    · exact M.sCtl_ok h h0 h1
    · exact M.sTx_ok h h0 h1
  · exact hs
theorem M.sTake_ok {x : M.Cn} (h : x.ok) (hn : 0 ≤ x.n) : (M.sTake x).ok := by
  unfold M.sTake
  split
  · exact h
  · have := h.n
    exact ⟨h.w0, h.w1, h.w2, h.w3, h.w4, h.w5, h.w6, h.w7, h.pt, h.f1, h.f2, M.lb, ⟨by dsimp only; omega, by dsimp only; omega⟩, h.tx⟩
theorem M.sReadP_ok {s : M.Si} (hs : s.ok) (reg : Int) : (M.sReadP s reg).ok := by
  unfold M.sReadP
  split
  · refine M.set_ok hs ?_ _
    have h := M.right_ok (M.si_at_ok hs (reg / 2).toNat)
    split
    · exact ⟨h.w0, h.w1, h.w2, h.w3, h.w4, h.w5, h.w6, h.w7, M.l0, h.f0, h.f1, h.f2, h.n, h.tx⟩
    · exact M.sTake_ok h (M.fix_range _ 3 (by omega)).1
  · exact hs
theorem M.sGot_ok {x : M.Cn} (h : x.ok) {b : Int} (h0 : 0 ≤ b) (h1 : b ≤ 255) : (M.sGot x b).ok := by
  unfold M.sGot
  split
  · exact ⟨h.w0, h.w1, h.w2, h.w3, h.w4, h.w5, h.w6, h.w7, h.pt, ⟨h0, h1⟩, h.f1, h.f2, M.l1, h.tx⟩
  · split
    · exact ⟨h.w0, h.w1, h.w2, h.w3, h.w4, h.w5, h.w6, h.w7, h.pt, h.f0, ⟨h0, h1⟩, h.f2, M.l2, h.tx⟩
    · split
      · exact ⟨h.w0, h.w1, h.w2, h.w3, h.w4, h.w5, h.w6, h.w7, h.pt, h.f0, h.f1, ⟨h0, h1⟩, M.l3, h.tx⟩
      · exact ⟨h.w0, h.w1, h.w2, h.w3, h.w4, h.w5, h.w6, h.w7, h.pt, h.f0, h.f1, ⟨h0, h1⟩, h.n, h.tx⟩
theorem M.sRecv_ok {s : M.Si} (hs : s.ok) (k : Int) {b : Int} (h0 : 0 ≤ b) (h1 : b ≤ 255) : (M.sRecv s k b).ok := by
  unfold M.sRecv
  split
  · exact M.set_ok hs (M.sGot_ok (M.right_ok (M.si_at_ok hs k.toNat)) h0 h1) _
  · exact hs
theorem M.sSendP_ok {s : M.Si} (hs : s.ok) (k : Int) : (M.sSendP s k).ok := by
  unfold M.sSendP
  split
  · refine M.set_ok hs ?_ _
    have h := M.right_ok (M.si_at_ok hs k.toNat)
    exact ⟨h.w0, h.w1, h.w2, h.w3, h.w4, h.w5, h.w6, h.w7, h.pt, h.f0, h.f1, h.f2, h.n, h.tx⟩
  · exact hs
theorem M.sAckP_ok {s : M.Si} (hs : s.ok) : (M.sAckP s).ok := by
  unfold M.sAckP
  split
  · have h := hs.1
    exact ⟨⟨h.w0, h.w1, h.w2, h.w3, h.w4, h.w5, h.w6, h.w7, h.pt, h.f0, h.f1, h.f2, h.n, h.tx⟩, hs.2⟩
  · split
    · have h := hs.2
      exact ⟨hs.1, ⟨h.w0, h.w1, h.w2, h.w3, h.w4, h.w5, h.w6, h.w7, h.pt, h.f0, h.f1, h.f2, h.n, h.tx⟩⟩
    · exact hs
end Go.Proofs.Ytlpoldnidojgmaa
