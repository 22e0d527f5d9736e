/-
  WholeDivides, run by some of its ways.
-/
import Derived.Test.YtgeankpiediebaaGreatDivB
noncomputable section
namespace Go.Proofs.YtgeankpiediebaaGreat
open Go.Fx
set_option maxRecDepth 100000
theorem dv5_9hn : dvL5 9 .h .n = dvM5 9 .h .n := by kernel_rfl
theorem dv5_2hn : dvL5 2 .h .n = dvM5 2 .h .n := by kernel_rfl
theorem dv2_9hn : dvL2 9 .h .n = dvM2 9 .h .n := by kernel_rfl
theorem dv2_4hn : dvL2 4 .h .n = dvM2 4 .h .n := by kernel_rfl
theorem dv2_3hn : dvL2 3 .h .n = dvM2 3 .h .n := by kernel_rfl
end Go.Proofs.YtgeankpiediebaaGreat
end
