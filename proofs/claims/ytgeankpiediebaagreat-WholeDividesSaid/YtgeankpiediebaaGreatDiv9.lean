/-
  WholeDivides, run by some of its ways.
-/
import Derived.Test.YtgeankpiediebaaGreatDivB
noncomputable section
namespace Go.Proofs.YtgeankpiediebaaGreat
open Go.Fx
set_option maxRecDepth 100000
theorem dv5_8hh : dvL5 8 .h .h = dvM5 8 .h .h := by kernel_rfl
theorem dv5_3hh : dvL5 3 .h .h = dvM5 3 .h .h := by kernel_rfl
theorem dv5_1hh : dvL5 1 .h .h = dvM5 1 .h .h := by kernel_rfl
theorem dv2_5hh : dvL2 5 .h .h = dvM2 5 .h .h := by kernel_rfl
theorem dv2_2hh : dvL2 2 .h .h = dvM2 2 .h .h := by kernel_rfl
end Go.Proofs.YtgeankpiediebaaGreat
end
