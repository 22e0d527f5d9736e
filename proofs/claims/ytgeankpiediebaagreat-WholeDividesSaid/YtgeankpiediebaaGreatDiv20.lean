/-
  WholeDivides, run by some of its ways.
-/
import Derived.Test.YtgeankpiediebaaGreatDivB
noncomputable section
namespace Go.Proofs.YtgeankpiediebaaGreat
open Go.Fx
set_option maxRecDepth 100000
theorem dv5_7hn : dvL5 7 .h .n = dvM5 7 .h .n := by kernel_rfl
theorem dv5_4hn : dvL5 4 .h .n = dvM5 4 .h .n := by kernel_rfl
theorem dv2_8hn : dvL2 8 .h .n = dvM2 8 .h .n := by kernel_rfl
theorem dv2_6hn : dvL2 6 .h .n = dvM2 6 .h .n := by kernel_rfl
theorem dv2_1hn : dvL2 1 .h .n = dvM2 1 .h .n := by kernel_rfl
end Go.Proofs.YtgeankpiediebaaGreat
end
