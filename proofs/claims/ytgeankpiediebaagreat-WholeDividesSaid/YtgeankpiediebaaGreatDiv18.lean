/-
  WholeDivides, run by some of its ways.
-/
import Derived.Test.YtgeankpiediebaaGreatDivB
noncomputable section
namespace Go.Proofs.YtgeankpiediebaaGreat
open Go.Fx
set_option maxRecDepth 100000
theorem dv5_7hh : dvL5 7 .h .h = dvM5 7 .h .h := by kernel_rfl
theorem dv5_4hh : dvL5 4 .h .h = dvM5 4 .h .h := by kernel_rfl
theorem dv2_8hh : dvL2 8 .h .h = dvM2 8 .h .h := by kernel_rfl
theorem dv2_6hh : dvL2 6 .h .h = dvM2 6 .h .h := by kernel_rfl
theorem dv2_1hh : dvL2 1 .h .h = dvM2 1 .h .h := by kernel_rfl
end Go.Proofs.YtgeankpiediebaaGreat
end
