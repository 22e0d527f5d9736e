/-
  WholeDivides, run by some of its ways.
-/
import Derived.Test.YtgeankpiediebaaGreatDivB
noncomputable section
namespace Go.Proofs.YtgeankpiediebaaGreat
open Go.Fx
set_option maxRecDepth 100000
theorem dv5_6hn : dvL5 6 .h .n = dvM5 6 .h .n := by kernel_rfl
theorem dv5_5hn : dvL5 5 .h .n = dvM5 5 .h .n := by kernel_rfl
theorem dv5_0hn : dvL5 0 .h .n = dvM5 0 .h .n := by kernel_rfl
theorem dv2_7hn : dvL2 7 .h .n = dvM2 7 .h .n := by kernel_rfl
theorem dv2_0hn : dvL2 0 .h .n = dvM2 0 .h .n := by kernel_rfl
end Go.Proofs.YtgeankpiediebaaGreat
end
