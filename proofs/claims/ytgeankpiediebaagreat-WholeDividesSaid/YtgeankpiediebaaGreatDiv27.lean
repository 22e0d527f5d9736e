/-
  WholeDivides, run by some of its ways.
-/
import Derived.Test.YtgeankpiediebaaGreatDivB
noncomputable section
namespace Go.Proofs.YtgeankpiediebaaGreat
open Go.Fx
set_option maxRecDepth 100000
theorem dv5_6hh : dvL5 6 .h .h = dvM5 6 .h .h := by kernel_rfl
theorem dv5_5hh : dvL5 5 .h .h = dvM5 5 .h .h := by kernel_rfl
theorem dv5_0hh : dvL5 0 .h .h = dvM5 0 .h .h := by kernel_rfl
theorem dv2_7hh : dvL2 7 .h .h = dvM2 7 .h .h := by kernel_rfl
theorem dv2_0hh : dvL2 0 .h .h = dvM2 0 .h .h := by kernel_rfl
end Go.Proofs.YtgeankpiediebaaGreat
end
