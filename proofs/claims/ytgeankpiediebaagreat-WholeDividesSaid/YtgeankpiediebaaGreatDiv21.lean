/-
  WholeDivides, run by some of its ways.
-/
import Derived.Test.YtgeankpiediebaaGreatDivB
noncomputable section
namespace Go.Proofs.YtgeankpiediebaaGreat
open Go.Fx
set_option maxRecDepth 100000
theorem dv5_7rh : dvL5 7 .r .h = dvM5 7 .r .h := by kernel_rfl
theorem dv5_4rh : dvL5 4 .r .h = dvM5 4 .r .h := by kernel_rfl
theorem dv2_8rh : dvL2 8 .r .h = dvM2 8 .r .h := by kernel_rfl
theorem dv2_6rh : dvL2 6 .r .h = dvM2 6 .r .h := by kernel_rfl
theorem dv2_1rh : dvL2 1 .r .h = dvM2 1 .r .h := by kernel_rfl
end Go.Proofs.YtgeankpiediebaaGreat
end
