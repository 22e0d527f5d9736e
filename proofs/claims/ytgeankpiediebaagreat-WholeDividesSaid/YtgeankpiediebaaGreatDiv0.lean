/-
  WholeDivides, run by some of its ways.
-/
import Derived.Test.YtgeankpiediebaaGreatDivB
noncomputable section
namespace Go.Proofs.YtgeankpiediebaaGreat
open Go.Fx
set_option maxRecDepth 100000
theorem dv5_9hh : dvL5 9 .h .h = dvM5 9 .h .h := by kernel_rfl
theorem dv5_2hh : dvL5 2 .h .h = dvM5 2 .h .h := by kernel_rfl
theorem dv2_9hh : dvL2 9 .h .h = dvM2 9 .h .h := by kernel_rfl
theorem dv2_4hh : dvL2 4 .h .h = dvM2 4 .h .h := by kernel_rfl
theorem dv2_3hh : dvL2 3 .h .h = dvM2 3 .h .h := by kernel_rfl
end Go.Proofs.YtgeankpiediebaaGreat
end
