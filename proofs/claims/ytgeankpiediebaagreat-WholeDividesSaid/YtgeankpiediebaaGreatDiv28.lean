/-
  WholeDivides, run by some of its ways.
-/
import Derived.Test.YtgeankpiediebaaGreatDivB
noncomputable section
namespace Go.Proofs.YtgeankpiediebaaGreat
open Go.Fx
set_option maxRecDepth 100000
theorem dv5_6hr : dvL5 6 .h .r = dvM5 6 .h .r := by kernel_rfl
theorem dv5_5hr : dvL5 5 .h .r = dvM5 5 .h .r := by kernel_rfl
theorem dv5_0hr : dvL5 0 .h .r = dvM5 0 .h .r := by kernel_rfl
theorem dv2_7hr : dvL2 7 .h .r = dvM2 7 .h .r := by kernel_rfl
theorem dv2_0hr : dvL2 0 .h .r = dvM2 0 .h .r := by kernel_rfl
end Go.Proofs.YtgeankpiediebaaGreat
end
