/- The program's flags of blocks (block.Move, Find, Take, Give), over plain numbers: each answers what the plain words say. -/
import Derived.Test.YtkphidaoodedjaaPKx2
import Derived.Test.YtkphidaoodedjaaMathBlock
import Derived.OpenShut
import Derived.Laws.Bits128
namespace Go.Proofs.Ytkphidaoodedjaa.Pure
open Go.RowKit Go.Proofs.Ytkphidaoodedjaa.PK Go.Proofs.YtkphidaoodedjaaW.PrintWords Go.Proofs.YtkphidaoodedjaaW.PrintLast Go.Proofs.YtkphidaoodedjaaW.PrintMore
set_option linter.unusedVariables false

theorem result_is (r : Int) (h0 : 0 ≤ r) (h1 : r ≤ 255) : flags_Result.f r = some (M.resF r) := by
  rw [← M.resF_is r h0 h1]
  unfold flags_Result.f
  split <;> rfl
theorem when_is (b : Bool) (x : Int) : sum_when.f b x = some (x * M.b2i b % 256) := by cases b <;> rfl
theorem all5 (k : Nat) (x1 x2 x3 x4 x5 : Int) : sum_all.f (k + 6) [x1, x2, x3, x4, x5] = some (Go.bits .or .u8 (Go.bits .or .u8 (Go.bits .or .u8 (Go.bits .or .u8 (Go.bits .or .u8 0 x1) x2) x3) x4) x5) := by
  simp [sum_all.f, sum_all.l0, rd, wrap64]
theorem b2i_range (c : Bool) : 0 ≤ M.b2i c ∧ M.b2i c ≤ 1 := by cases c <;> decide
theorem sub_is (k : Nat) (a b : Int) (c : Bool) (h0 : 0 ≤ a) (h1 : a ≤ 255) (h2 : 0 ≤ b) (h3 : b ≤ 255) : sum_Sub.f (k + 6) a b c = some (M.subR a b c, M.subF a b c) := by
  have hc := b2i_range c
  have h16 : sum_one_uint16.f c = some (M.b2i c) := by cases c <;> rfl
  have hw : (IntKind.u16.wrap ((IntKind.u16.wrap ((IntKind.u16.wrap a) - (IntKind.u16.wrap b))) - M.b2i c)) = (a - b - M.b2i c) % 65536 := by
    simp only [IntKind.wrap_u16]
    omega
  have hr : (a - b - M.b2i c) % 65536 % 256 = M.subR a b c := by unfold M.subR; omega
  have hd : decide ((a - b - M.b2i c) % 65536 > 255) = decide (a - b - M.b2i c < 0) := by
    rw [Bool.eq_iff_iff]; simp; omega
  unfold sum_Sub.f
  rw [h16]
  simp only [Option.bind_some, hw, hr, hd]
  rw [result_is _ (M.subR_range a b c).1 (M.subR_range a b c).2]
  simp only [Option.bind_some, when_is]
  rw [all5]
  simp only [Option.bind_some]
  rw [M.subF_or a b c h0 h1 h2 h3]
theorem all1 (k : Nat) (g : Int) (c : Bool) (m : Int) : block_all.f (k + 2) g [⟨c, m⟩] = some (M.orIf c g m) := by
  cases c <;> simp [block_all.f, block_all.l0, rd_T42, wrap64, M.orIf]
theorem all3 (k : Nat) (g : Int) (c d e : Bool) (m n o : Int) : block_all.f (k + 4) g [⟨c, m⟩, ⟨d, n⟩, ⟨e, o⟩] = some (M.orIf e (M.orIf d (M.orIf c g m) n) o) := by
  cases c <;> cases d <;> cases e <;> simp [block_all.f, block_all.l0, rd_T42, wrap64, M.orIf]
theorem move_is (k : Nat) (a b bc f : Int) (h0 : 0 ≤ a) (h1 : a ≤ 255) (h2 : 0 ≤ b) (h3 : b ≤ 255) (h6 : 0 ≤ f) (h7 : f ≤ 255) : block_Move.f (k + 2) a b bc f = some (M.rmoveF a b bc f) := by
  unfold block_Move.f block_lines.f
  simp only [Option.bind_some]
  rw [M.lines_is _ (by omega) (by omega), (M.mask f h6 h7).1, all1]
  simp only [Option.bind_some]
  rw [M.move_tab]
  rfl
theorem find_is (k : Nat) (a b bc f : Int) (h0 : 0 ≤ a) (h1 : a ≤ 255) (h2 : 0 ≤ b) (h3 : b ≤ 255) (h6 : 0 ≤ f) (h7 : f ≤ 255) : block_Find.f (k + 6) a b bc f = some (M.rfindF a b bc f) := by
  have rg := M.subF_range a b false
  have rn := M.rfindN_range a b
  unfold block_Find.f block_lines.f
  rw [sub_is k a b false h0 h1 h2 h3]
  simp only [Option.bind_some]
  rw [(M.mask (M.subF a b false) rg.1 rg.2).2.2.2.2.2.1, M.rfindN_is, M.lines_is _ rn.1 rn.2, (M.mask (M.subF a b false) rg.1 rg.2).2.1, (M.mask f h6 h7).2.2.2.2.1, all1 (k + 4)]
  simp only [Option.bind_some]
  rw [M.find_tab, M.subF_1]
  rfl
theorem counted_is (k : Nat) (b left n : Int) (h0 : 0 ≤ b) (h1 : b ≤ 255) (h2 : 0 ≤ left) (h3 : left ≤ 255) (h4 : 0 ≤ n) (h5 : n ≤ 1000) : block_counted.f (k + 4) b left n = some (M.rcountF b left n) := by
  have e7 : Go.bits .and .i64 n 7 % 256 = n % 8 := by
    have : Go.bits .and .i64 n 7 = n % 8 := by
      unfold Go.bits
      have h : (BitVec.ofInt 64 n &&& BitVec.ofInt 64 7).toNat = (n % 8).toNat := by
        rw [BitVec.toNat_and, BitVec.toNat_ofInt, BitVec.toNat_ofInt, show ((7 : Int) % (2 ^ 64 : Nat)).toNat = 7 by decide, nat_mask3]
        omega
      show IntKind.i64.wrap (((BitVec.ofInt 64 n &&& BitVec.ofInt 64 7).toNat : Nat) : Int) = _
      rw [h, IntKind.wrap_i64]
      omega
    rw [this]; omega
  have rx := M.bits_range .xor (n % 8) left
  unfold block_counted.f bits_Even.f
  rw [result_is left h2 h3, e7, if_pos rx]
  simp only [Option.bind_some]
  rw [(M.mask b h0 h1).2.2.2.2.2.2, all3]
  simp only [Option.bind_some]
  unfold M.resF M.rcountF
  rw [M.count_tab, M.xfold_is (n % 8) left (by omega) (by omega) h2 h3]
theorem awake07 : charabanclaw07_awake.f 6 = some true := by decide +kernel
theorem hi_byte (w : Int) (h0 : 0 ≤ w) (h1 : w ≤ 65535) : IntKind.u16.wrap (Int.tdiv w 256) % 256 = w / 256 := by
  rw [Int.tdiv_eq_ediv_of_nonneg h0]
  simp only [IntKind.wrap_u16]
  omega
end Go.Proofs.Ytkphidaoodedjaa.Pure
