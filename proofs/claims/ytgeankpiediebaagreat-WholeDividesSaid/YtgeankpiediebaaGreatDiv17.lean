/-
  WholeDivides, run by some of its ways.
-/
import Derived.Test.YtgeankpiediebaaGreatDivB
noncomputable section
namespace Go.Proofs.YtgeankpiediebaaGreat
open Go.Fx
set_option maxRecDepth 100000
theorem dv5_8nn : dvL5 8 .n .n = dvM5 8 .n .n := by kernel_rfl
theorem dv5_3nn : dvL5 3 .n .n = dvM5 3 .n .n := by kernel_rfl
theorem dv5_1nn : dvL5 1 .n .n = dvM5 1 .n .n := by kernel_rfl
theorem dv2_5nn : dvL2 5 .n .n = dvM2 5 .n .n := by kernel_rfl
theorem dv2_2nn : dvL2 2 .n .n = dvM2 2 .n .n := by kernel_rfl
end Go.Proofs.YtgeankpiediebaaGreat
end
