/-
  WholeDivides, run by some of its ways.
-/
import Derived.Test.YtgeankpiediebaaGreatDivB
noncomputable section
namespace Go.Proofs.YtgeankpiediebaaGreat
open Go.Fx
set_option maxRecDepth 100000
theorem dv5_8rh : dvL5 8 .r .h = dvM5 8 .r .h := by kernel_rfl
theorem dv5_3rh : dvL5 3 .r .h = dvM5 3 .r .h := by kernel_rfl
theorem dv5_1rh : dvL5 1 .r .h = dvM5 1 .r .h := by kernel_rfl
theorem dv2_5rh : dvL2 5 .r .h = dvM2 5 .r .h := by kernel_rfl
theorem dv2_2rh : dvL2 2 .r .h = dvM2 2 .r .h := by kernel_rfl
end Go.Proofs.YtgeankpiediebaaGreat
end
