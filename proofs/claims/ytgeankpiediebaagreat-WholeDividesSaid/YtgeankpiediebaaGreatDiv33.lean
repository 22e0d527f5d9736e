/-
  WholeDivides, run by some of its ways.
-/
import Derived.Test.YtgeankpiediebaaGreatDivB
noncomputable section
namespace Go.Proofs.YtgeankpiediebaaGreat
open Go.Fx
set_option maxRecDepth 100000
theorem dv5_6nh : dvL5 6 .n .h = dvM5 6 .n .h := by kernel_rfl
theorem dv5_5nh : dvL5 5 .n .h = dvM5 5 .n .h := by kernel_rfl
theorem dv5_0nh : dvL5 0 .n .h = dvM5 0 .n .h := by kernel_rfl
theorem dv2_7nh : dvL2 7 .n .h = dvM2 7 .n .h := by kernel_rfl
theorem dv2_0nh : dvL2 0 .n .h = dvM2 0 .n .h := by kernel_rfl
end Go.Proofs.YtgeankpiediebaaGreat
end
