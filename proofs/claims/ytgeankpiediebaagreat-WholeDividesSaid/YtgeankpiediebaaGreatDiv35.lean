/-
  WholeDivides, run by some of its ways.
-/
import Derived.Test.YtgeankpiediebaaGreatDivB
noncomputable section
namespace Go.Proofs.YtgeankpiediebaaGreat
open Go.Fx
set_option maxRecDepth 100000
theorem dv5_6nn : dvL5 6 .n .n = dvM5 6 .n .n := by kernel_rfl
theorem dv5_5nn : dvL5 5 .n .n = dvM5 5 .n .n := by kernel_rfl
theorem dv5_0nn : dvL5 0 .n .n = dvM5 0 .n .n := by kernel_rfl
theorem dv2_7nn : dvL2 7 .n .n = dvM2 7 .n .n := by kernel_rfl
theorem dv2_0nn : dvL2 0 .n .n = dvM2 0 .n .n := by kernel_rfl
end Go.Proofs.YtgeankpiediebaaGreat
end
