/-
  WholeDivides, run by some of its ways.
-/
import Derived.Test.YtgeankpiediebaaGreatDivB
noncomputable section
namespace Go.Proofs.YtgeankpiediebaaGreat
open Go.Fx
set_option maxRecDepth 100000
theorem dv5_7nr : dvL5 7 .n .r = dvM5 7 .n .r := by kernel_rfl
theorem dv5_4nr : dvL5 4 .n .r = dvM5 4 .n .r := by kernel_rfl
theorem dv2_8nr : dvL2 8 .n .r = dvM2 8 .n .r := by kernel_rfl
theorem dv2_6nr : dvL2 6 .n .r = dvM2 6 .n .r := by kernel_rfl
theorem dv2_1nr : dvL2 1 .n .r = dvM2 1 .n .r := by kernel_rfl
end Go.Proofs.YtgeankpiediebaaGreat
end
