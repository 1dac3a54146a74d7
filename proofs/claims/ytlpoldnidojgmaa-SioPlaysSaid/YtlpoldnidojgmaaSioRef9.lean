/- The reference's Send (charabancref25): whatever the channel. -/
import Derived.Test.YtlpoldnidojgmaaSioRef4
namespace Go.Proofs.Ytlpoldnidojgmaa
open Go.RowKit
theorem rsend_any (s : M.Si) (hs : s.ok) (k : Int) (w : World) : Calls Try.prog 17 #[.agg s.a, .int .i64 k] w fun e w' => e = .returned (.tuple #[.agg (M.sSendP s k).a, .int .u8 (M.sSendV s k), .bool (M.sends s k)]) ∧ Below w.heap.size w w' := by
  by_cases hk : k = 0 ∨ k = 1
  · obtain ⟨n, rfl⟩ : ∃ n : Nat, k = n := ⟨k.toNat, by omega⟩
    have hn : n < 2 := by omega
    have h := rsend_in s n hn _ rfl (M.right_ok (M.si_at_ok hs n)) _ rfl _ rfl _ rfl _ rfl w
    unfold M.sSendP M.sSendV M.sends
    rw [Int.toNat_natCast, decide_eq_true hk, Bool.true_and]
    exact h
  · have hd : M.sends s k = false := by
      unfold M.sends
      rw [decide_eq_false hk]
      rfl
    unfold M.sSendP M.sSendV
    rw [hd]
    simpa using rsend_out s k (by omega) w
end Go.Proofs.Ytlpoldnidojgmaa
