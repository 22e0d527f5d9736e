/-
  WholeDivides, run by some of its ways.
-/
import Derived.Test.YtgeankpiediebaaGreatDivB
noncomputable section
namespace Go.Proofs.YtgeankpiediebaaGreat
open Go.Fx
set_option maxRecDepth 100000
theorem dv5_8hn : dvL5 8 .h .n = dvM5 8 .h .n := by kernel_rfl
theorem dv5_3hn : dvL5 3 .h .n = dvM5 3 .h .n := by kernel_rfl
theorem dv5_1hn : dvL5 1 .h .n = dvM5 1 .h .n := by kernel_rfl
theorem dv2_5hn : dvL2 5 .h .n = dvM2 5 .h .n := by kernel_rfl
theorem dv2_2hn : dvL2 2 .h .n = dvM2 2 .h .n := by kernel_rfl
end Go.Proofs.YtgeankpiediebaaGreat
end
