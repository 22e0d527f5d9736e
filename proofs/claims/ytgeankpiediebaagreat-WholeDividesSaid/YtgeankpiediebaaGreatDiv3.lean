/-
  WholeDivides, run by some of its ways.
-/
import Derived.Test.YtgeankpiediebaaGreatDivB
noncomputable section
namespace Go.Proofs.YtgeankpiediebaaGreat
open Go.Fx
set_option maxRecDepth 100000
theorem dv5_9rh : dvL5 9 .r .h = dvM5 9 .r .h := by kernel_rfl
theorem dv5_2rh : dvL5 2 .r .h = dvM5 2 .r .h := by kernel_rfl
theorem dv2_9rh : dvL2 9 .r .h = dvM2 9 .r .h := by kernel_rfl
theorem dv2_4rh : dvL2 4 .r .h = dvM2 4 .r .h := by kernel_rfl
theorem dv2_3rh : dvL2 3 .r .h = dvM2 3 .r .h := by kernel_rfl
end Go.Proofs.YtgeankpiediebaaGreat
end
