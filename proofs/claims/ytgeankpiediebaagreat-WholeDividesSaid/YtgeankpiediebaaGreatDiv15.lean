/-
  WholeDivides, run by some of its ways.
-/
import Derived.Test.YtgeankpiediebaaGreatDivB
noncomputable section
namespace Go.Proofs.YtgeankpiediebaaGreat
open Go.Fx
set_option maxRecDepth 100000
theorem dv5_8nh : dvL5 8 .n .h = dvM5 8 .n .h := by kernel_rfl
theorem dv5_3nh : dvL5 3 .n .h = dvM5 3 .n .h := by kernel_rfl
theorem dv5_1nh : dvL5 1 .n .h = dvM5 1 .n .h := by kernel_rfl
theorem dv2_5nh : dvL2 5 .n .h = dvM2 5 .n .h := by kernel_rfl
theorem dv2_2nh : dvL2 2 .n .h = dvM2 2 .n .h := by kernel_rfl
end Go.Proofs.YtgeankpiediebaaGreat
end
