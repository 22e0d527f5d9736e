/-
  WholeDivides, run by some of its ways.
-/
import Derived.Test.YtgeankpiediebaaGreatDivB
noncomputable section
namespace Go.Proofs.YtgeankpiediebaaGreat
open Go.Fx
set_option maxRecDepth 100000
theorem dv5_8nr : dvL5 8 .n .r = dvM5 8 .n .r := by kernel_rfl
theorem dv5_3nr : dvL5 3 .n .r = dvM5 3 .n .r := by kernel_rfl
theorem dv5_1nr : dvL5 1 .n .r = dvM5 1 .n .r := by kernel_rfl
theorem dv2_5nr : dvL2 5 .n .r = dvM2 5 .n .r := by kernel_rfl
theorem dv2_2nr : dvL2 2 .n .r = dvM2 2 .n .r := by kernel_rfl
end Go.Proofs.YtgeankpiediebaaGreat
end
