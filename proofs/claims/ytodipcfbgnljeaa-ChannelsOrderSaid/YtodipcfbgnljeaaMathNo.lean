/- This file proves plain laws about the gap of two windows: what it is out of their variances and their product, and what a scaled or turned window does to it. No program is in sight. -/
import Derived.Test.YtodipcfbgnljeaaMathRat
namespace Go.Proofs.Ytodipcfbgnljeaa.Base

/-- The gap of two windows, out of their variances and their product. -/
def gapn (v w c : Int) : Int × Int × Int := if v = 0 ∧ w = 0 then mkr 0 1 else if v = 0 ∨ w = 0 then mkr 1 1 else if c < 0 then mkr (v * w + c * c) (v * w) else mkr (v * w - c * c) (v * w)
def gapv (x y : List Int) : Int × Int × Int := gapn (cov x x) (cov y y) (cov x y)
/-! ### scaled windows -/
/-! ### windows that do not move -/
end Go.Proofs.Ytodipcfbgnljeaa.Base
