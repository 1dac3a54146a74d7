/- Plain numbers: sums of words out of those of their bytes. No Go, no memory. -/
import Derived.Test.YthidmlnoiginiaaMath3
namespace Go.Proofs.Ythidmlnoiginiaa.M
set_option linter.unusedVariables false
/-! ### sums of words -/
def waddR (a b : Int) (c : Bool) : Int := 256 * addR (a / 256) (b / 256) (bits .and .u8 (addF (a % 256) (b % 256) c) 1 != 0) + addR (a % 256) (b % 256) c
def waddF (a b : Int) (c : Bool) : Int := if waddR a b c != 0 then bits .andNot .u8 (addF (a / 256) (b / 256) (bits .and .u8 (addF (a % 256) (b % 256) c) 1 != 0)) 64 else addF (a / 256) (b / 256) (bits .and .u8 (addF (a % 256) (b % 256) c) 1 != 0)
def wsubR (a b : Int) (c : Bool) : Int := 256 * subR (a / 256) (b / 256) (bits .and .u8 (subF (a % 256) (b % 256) c) 1 != 0) + subR (a % 256) (b % 256) c
def wsubF (a b : Int) (c : Bool) : Int := if wsubR a b c != 0 then bits .andNot .u8 (subF (a / 256) (b / 256) (bits .and .u8 (subF (a % 256) (b % 256) c) 1 != 0)) 64 else subF (a / 256) (b / 256) (bits .and .u8 (subF (a % 256) (b % 256) c) 1 != 0)
/-- The reference's flags of a sum of words. -/
def rwaddF (a b f : Int) : Int := mk (is f 7) (is f 6) (is ((a + b) % 65536 / 256) 5) (decide (4095 < a % 4096 + b % 4096)) (is ((a + b) % 65536 / 256) 3) (is f 2) false (decide (65535 < a + b))
end Go.Proofs.Ythidmlnoiginiaa.M
