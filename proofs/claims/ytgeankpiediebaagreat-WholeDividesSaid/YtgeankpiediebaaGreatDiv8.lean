/-
  WholeDivides, run by some of its ways.
-/
import Derived.Test.YtgeankpiediebaaGreatDivB
noncomputable section
namespace Go.Proofs.YtgeankpiediebaaGreat
open Go.Fx
set_option maxRecDepth 100000
theorem dv5_9nn : dvL5 9 .n .n = dvM5 9 .n .n := by kernel_rfl
theorem dv5_2nn : dvL5 2 .n .n = dvM5 2 .n .n := by kernel_rfl
theorem dv2_9nn : dvL2 9 .n .n = dvM2 9 .n .n := by kernel_rfl
theorem dv2_4nn : dvL2 4 .n .n = dvM2 4 .n .n := by kernel_rfl
theorem dv2_3nn : dvL2 3 .n .n = dvM2 3 .n .n := by kernel_rfl
end Go.Proofs.YtgeankpiediebaaGreat
end
