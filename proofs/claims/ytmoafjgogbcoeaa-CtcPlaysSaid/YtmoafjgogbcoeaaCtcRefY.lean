/- charabancref23.Write by its contract, whatever the channel and the byte. -/
import Derived.Test.YtmoafjgogbcoeaaCtcRefV
import Derived.Test.YtmoafjgogbcoeaaCtcRefX
namespace Go.Proofs.Ytmoafjgogbcoeaa
open Go.RowKit
theorem rwrite_any (c : M.Ct) (hc : c.ok) (k b : Int) (h0 : 0 ≤ b) (h1 : b ≤ 255) (w : World) : Calls Try.prog 33 #[.agg c.a, .int .i64 k, .int .u8 b] w fun e w' => e = .returned (.agg (M.write c k b).a) ∧ Below w.heap.size w w' := by
  unfold M.write
  by_cases hk : k < 0 ∨ 3 < k
  · rw [if_pos hk]
    exact rwrite_out c k b hk h0 h1 w
  · rw [if_neg hk]
    obtain ⟨n, rfl⟩ : ∃ n : Nat, k = n := ⟨k.toNat, by omega⟩
    have hn : n < 4 := by omega
    rw [Int.toNat_natCast]
    cases h : (c.at n).wants with
    | true => simpa using rwrite_wants c hc n hn b h0 h1 h w
    | false =>
      cases hb : M.is b 0 with
      | true => simpa using rwrite_word c hc n hn b h0 h1 h hb w
      | false =>
        by_cases hz : n = 0
        · subst hz
          have := rwrite_vec c hc b h0 h1 h hb w
          rw [show (({ c with vec := b / 8 * 8 } : M.Ct).set (c.at 0) 0) = { c with vec := b / 8 * 8 } from rfl] at this
          simpa using this
        · have := rwrite_none c hc n hn hz b h0 h1 h hb w
          rw [ct_same] at this
          simpa [hz] using this
end Go.Proofs.Ytmoafjgogbcoeaa
