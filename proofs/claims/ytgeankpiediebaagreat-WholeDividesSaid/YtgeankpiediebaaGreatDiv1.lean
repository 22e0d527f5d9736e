/-
  WholeDivides, run by some of its ways.
-/
import Derived.Test.YtgeankpiediebaaGreatDivB
noncomputable section
namespace Go.Proofs.YtgeankpiediebaaGreat
open Go.Fx
set_option maxRecDepth 100000
theorem dv5_9hr : dvL5 9 .h .r = dvM5 9 .h .r := by kernel_rfl
theorem dv5_2hr : dvL5 2 .h .r = dvM5 2 .h .r := by kernel_rfl
theorem dv2_9hr : dvL2 9 .h .r = dvM2 9 .h .r := by kernel_rfl
theorem dv2_4hr : dvL2 4 .h .r = dvM2 4 .h .r := by kernel_rfl
theorem dv2_3hr : dvL2 3 .h .r = dvM2 3 .h .r := by kernel_rfl
end Go.Proofs.YtgeankpiediebaaGreat
end
