/-
  WholeDivides, run by some of its ways.
-/
import Derived.Test.YtgeankpiediebaaGreatDivB
noncomputable section
namespace Go.Proofs.YtgeankpiediebaaGreat
open Go.Fx
set_option maxRecDepth 100000
theorem dv5_9rn : dvL5 9 .r .n = dvM5 9 .r .n := by kernel_rfl
theorem dv5_2rn : dvL5 2 .r .n = dvM5 2 .r .n := by kernel_rfl
theorem dv2_9rn : dvL2 9 .r .n = dvM2 9 .r .n := by kernel_rfl
theorem dv2_4rn : dvL2 4 .r .n = dvM2 4 .r .n := by kernel_rfl
theorem dv2_3rn : dvL2 3 .r .n = dvM2 3 .r .n := by kernel_rfl
end Go.Proofs.YtgeankpiediebaaGreat
end
