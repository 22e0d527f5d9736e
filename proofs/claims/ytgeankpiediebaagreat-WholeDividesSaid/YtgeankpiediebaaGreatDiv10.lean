/-
  WholeDivides, run by some of its ways.
-/
import Derived.Test.YtgeankpiediebaaGreatDivB
noncomputable section
namespace Go.Proofs.YtgeankpiediebaaGreat
open Go.Fx
set_option maxRecDepth 100000
theorem dv5_8hr : dvL5 8 .h .r = dvM5 8 .h .r := by kernel_rfl
theorem dv5_3hr : dvL5 3 .h .r = dvM5 3 .h .r := by kernel_rfl
theorem dv5_1hr : dvL5 1 .h .r = dvM5 1 .h .r := by kernel_rfl
theorem dv2_5hr : dvL2 5 .h .r = dvM2 5 .h .r := by kernel_rfl
theorem dv2_2hr : dvL2 2 .h .r = dvM2 2 .h .r := by kernel_rfl
end Go.Proofs.YtgeankpiediebaaGreat
end
