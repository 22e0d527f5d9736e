/-
  WholeDivides, run by some of its ways.
-/
import Derived.Test.YtgeankpiediebaaGreatDivB
noncomputable section
namespace Go.Proofs.YtgeankpiediebaaGreat
open Go.Fx
set_option maxRecDepth 100000
theorem dv5_8rn : dvL5 8 .r .n = dvM5 8 .r .n := by kernel_rfl
theorem dv5_3rn : dvL5 3 .r .n = dvM5 3 .r .n := by kernel_rfl
theorem dv5_1rn : dvL5 1 .r .n = dvM5 1 .r .n := by kernel_rfl
theorem dv2_5rn : dvL2 5 .r .n = dvM2 5 .r .n := by kernel_rfl
theorem dv2_2rn : dvL2 2 .r .n = dvM2 2 .r .n := by kernel_rfl
end Go.Proofs.YtgeankpiediebaaGreat
end
