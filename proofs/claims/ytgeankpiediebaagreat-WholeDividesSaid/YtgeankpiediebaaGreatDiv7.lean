/-
  WholeDivides, run by some of its ways.
-/
import Derived.Test.YtgeankpiediebaaGreatDivB
noncomputable section
namespace Go.Proofs.YtgeankpiediebaaGreat
open Go.Fx
set_option maxRecDepth 100000
theorem dv5_9nr : dvL5 9 .n .r = dvM5 9 .n .r := by kernel_rfl
theorem dv5_2nr : dvL5 2 .n .r = dvM5 2 .n .r := by kernel_rfl
theorem dv2_9nr : dvL2 9 .n .r = dvM2 9 .n .r := by kernel_rfl
theorem dv2_4nr : dvL2 4 .n .r = dvM2 4 .n .r := by kernel_rfl
theorem dv2_3nr : dvL2 3 .n .r = dvM2 3 .n .r := by kernel_rfl
end Go.Proofs.YtgeankpiediebaaGreat
end
