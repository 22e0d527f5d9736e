/-
  WholeDivides, run by some of its ways.
-/
import Derived.Test.YtgeankpiediebaaGreatDivB
noncomputable section
namespace Go.Proofs.YtgeankpiediebaaGreat
open Go.Fx
set_option maxRecDepth 100000
theorem dv5_7rn : dvL5 7 .r .n = dvM5 7 .r .n := by kernel_rfl
theorem dv5_4rn : dvL5 4 .r .n = dvM5 4 .r .n := by kernel_rfl
theorem dv2_8rn : dvL2 8 .r .n = dvM2 8 .r .n := by kernel_rfl
theorem dv2_6rn : dvL2 6 .r .n = dvM2 6 .r .n := by kernel_rfl
theorem dv2_1rn : dvL2 1 .r .n = dvM2 1 .r .n := by kernel_rfl
end Go.Proofs.YtgeankpiediebaaGreat
end
