/-
  WholeDivides, run by some of its ways.
-/
import Derived.Test.YtgeankpiediebaaGreatDivB
noncomputable section
namespace Go.Proofs.YtgeankpiediebaaGreat
open Go.Fx
set_option maxRecDepth 100000
theorem dv5_7nh : dvL5 7 .n .h = dvM5 7 .n .h := by kernel_rfl
theorem dv5_4nh : dvL5 4 .n .h = dvM5 4 .n .h := by kernel_rfl
theorem dv2_8nh : dvL2 8 .n .h = dvM2 8 .n .h := by kernel_rfl
theorem dv2_6nh : dvL2 6 .n .h = dvM2 6 .n .h := by kernel_rfl
theorem dv2_1nh : dvL2 1 .n .h = dvM2 1 .n .h := by kernel_rfl
end Go.Proofs.YtgeankpiediebaaGreat
end
