/-
  WholeDivides, run by some of its ways.
-/
import Derived.Test.YtgeankpiediebaaGreatDivB
noncomputable section
namespace Go.Proofs.YtgeankpiediebaaGreat
open Go.Fx
set_option maxRecDepth 100000
theorem dv5_6rn : dvL5 6 .r .n = dvM5 6 .r .n := by kernel_rfl
theorem dv5_5rn : dvL5 5 .r .n = dvM5 5 .r .n := by kernel_rfl
theorem dv5_0rn : dvL5 0 .r .n = dvM5 0 .r .n := by kernel_rfl
theorem dv2_7rn : dvL2 7 .r .n = dvM2 7 .r .n := by kernel_rfl
theorem dv2_0rn : dvL2 0 .r .n = dvM2 0 .r .n := by kernel_rfl
end Go.Proofs.YtgeankpiediebaaGreat
end
