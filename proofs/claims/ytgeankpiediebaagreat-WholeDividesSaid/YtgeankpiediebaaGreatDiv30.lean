/-
  WholeDivides, run by some of its ways.
-/
import Derived.Test.YtgeankpiediebaaGreatDivB
noncomputable section
namespace Go.Proofs.YtgeankpiediebaaGreat
open Go.Fx
set_option maxRecDepth 100000
theorem dv5_6rh : dvL5 6 .r .h = dvM5 6 .r .h := by kernel_rfl
theorem dv5_5rh : dvL5 5 .r .h = dvM5 5 .r .h := by kernel_rfl
theorem dv5_0rh : dvL5 0 .r .h = dvM5 0 .r .h := by kernel_rfl
theorem dv2_7rh : dvL2 7 .r .h = dvM2 7 .r .h := by kernel_rfl
theorem dv2_0rh : dvL2 0 .r .h = dvM2 0 .r .h := by kernel_rfl
end Go.Proofs.YtgeankpiediebaaGreat
end
