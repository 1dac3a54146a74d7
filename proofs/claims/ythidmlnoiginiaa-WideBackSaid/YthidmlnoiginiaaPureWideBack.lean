/- The statement WideBack over plain numbers: what is added and taken away, or moved on and back, is as it was; a sum keeps S, Z and P. -/
import Derived.Test.YthidmlnoiginiaaPureWide
import Derived.Test.YthidmlnoiginiaaPWx3
namespace Go.Proofs.Ythidmlnoiginiaa.Pure
open Go.RowKit Go.Proofs.Ythidmlnoiginiaa.PW Go.Proofs.YthidmlnoiginiaaW.PrintWords Go.Proofs.YthidmlnoiginiaaW.PrintLast Go.Proofs.YthidmlnoiginiaaW.PrintMore
theorem n_tab : ∀ s z y h x p n c : Bool, (Go.bits .and .u8 (M.mk s z y h x p n c) 2 == 0) = !n := by decide +kernel
theorem kept_szp (f : Int) (y h x n c : Bool) : Go.bits .and .u8 (Go.bits .xor .u8 (M.mk (M.is f 7) (M.is f 6) y h x (M.is f 2) n c) f) 196 = 0 := by
  have r := M.bits_range .and (Go.bits .xor .u8 (M.mk (M.is f 7) (M.is f 6) y h x (M.is f 2) n c) f) 196
  obtain ⟨m7, m6, m5, m4, m3, m2, m1, m0⟩ := M.mk_bits (M.is f 7) (M.is f 6) y h x (M.is f 2) n c
  refine M.byte_ext r.1 r.2 (by decide) (by decide) fun k hk => ?_
  rw [M.bit_and _ _ k hk, M.bit_xor _ _ k hk]
  rcases M.lt8 hk with rfl | rfl | rfl | rfl | rfl | rfl | rfl | rfl
  · rw [show M.bit 196 0 = false from rfl, Bool.and_false]; rfl
  · rw [show M.bit 196 1 = false from rfl, Bool.and_false]; rfl
  · rw [m2, M.is2, Bool.xor_self]; rfl
  · rw [show M.bit 196 3 = false from rfl, Bool.and_false]; rfl
  · rw [show M.bit 196 4 = false from rfl, Bool.and_false]; rfl
  · rw [show M.bit 196 5 = false from rfl, Bool.and_false]; rfl
  · rw [m6, M.is6, Bool.xor_self]; rfl
  · rw [m7, M.is7, Bool.xor_self]; rfl
theorem WideBack : charabanclaw04_WideBack.Pure := by
  intro a b f wa wb wf
  have ba := bounds_u16 wa
  have bb := bounds_u16 wb
  have bf := bounds_u8 wf
  have hc := M.b2i_range (M.bit f 0)
  unfold charabanclaw04_WideBack.f
  rw [w_awake, w_add a b f ba bb bf, w_adc a b f ba bb bf]
  simp only [Option.bind_some, if_true]
  rw [w_sbc _ b f (by omega) bb bf, w64 b (by omega) (by omega), w64 (-b) (by omega) (by omega), w_move _ (-b) (by omega) (by omega), w_move a b ba.1 ba.2]
  simp only [Option.bind_some]
  rw [w_move _ (-b) (by omega) (by omega)]
  simp only [Option.bind_some]
  unfold M.rwaddF
  rw [if_pos (kept_szp _ _ _ _ _ _), if_pos (by omega), if_pos (by omega), if_pos (by omega), n_tab]
  rfl
end Go.Proofs.Ythidmlnoiginiaa.Pure
