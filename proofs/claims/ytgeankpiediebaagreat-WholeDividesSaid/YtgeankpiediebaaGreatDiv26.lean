/-
  WholeDivides, run by some of its ways.
-/
import Derived.Test.YtgeankpiediebaaGreatDivB
noncomputable section
namespace Go.Proofs.YtgeankpiediebaaGreat
open Go.Fx
set_option maxRecDepth 100000
theorem dv5_7nn : dvL5 7 .n .n = dvM5 7 .n .n := by kernel_rfl
theorem dv5_4nn : dvL5 4 .n .n = dvM5 4 .n .n := by kernel_rfl
theorem dv2_8nn : dvL2 8 .n .n = dvM2 8 .n .n := by kernel_rfl
theorem dv2_6nn : dvL2 6 .n .n = dvM2 6 .n .n := by kernel_rfl
theorem dv2_1nn : dvL2 1 .n .n = dvM2 1 .n .n := by kernel_rfl
end Go.Proofs.YtgeankpiediebaaGreat
end
