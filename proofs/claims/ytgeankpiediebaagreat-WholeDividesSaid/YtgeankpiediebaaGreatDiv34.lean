/-
  WholeDivides, run by some of its ways.
-/
import Derived.Test.YtgeankpiediebaaGreatDivB
noncomputable section
namespace Go.Proofs.YtgeankpiediebaaGreat
open Go.Fx
set_option maxRecDepth 100000
theorem dv5_6nr : dvL5 6 .n .r = dvM5 6 .n .r := by kernel_rfl
theorem dv5_5nr : dvL5 5 .n .r = dvM5 5 .n .r := by kernel_rfl
theorem dv5_0nr : dvL5 0 .n .r = dvM5 0 .n .r := by kernel_rfl
theorem dv2_7nr : dvL2 7 .n .r = dvM2 7 .n .r := by kernel_rfl
theorem dv2_0nr : dvL2 0 .n .r = dvM2 0 .n .r := by kernel_rfl
end Go.Proofs.YtgeankpiediebaaGreat
end
