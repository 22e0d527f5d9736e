/-
  WholeDivides, run by some of its ways.
-/
import Derived.Test.YtgeankpiediebaaGreatDivB
noncomputable section
namespace Go.Proofs.YtgeankpiediebaaGreat
open Go.Fx
set_option maxRecDepth 100000
theorem dv5_9nh : dvL5 9 .n .h = dvM5 9 .n .h := by kernel_rfl
theorem dv5_2nh : dvL5 2 .n .h = dvM5 2 .n .h := by kernel_rfl
theorem dv2_9nh : dvL2 9 .n .h = dvM2 9 .n .h := by kernel_rfl
theorem dv2_4nh : dvL2 4 .n .h = dvM2 4 .n .h := by kernel_rfl
theorem dv2_3nh : dvL2 3 .n .h = dvM2 3 .n .h := by kernel_rfl
end Go.Proofs.YtgeankpiediebaaGreat
end
