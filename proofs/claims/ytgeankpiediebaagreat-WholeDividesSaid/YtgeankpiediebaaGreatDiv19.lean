/-
  WholeDivides, run by some of its ways.
-/
import Derived.Test.YtgeankpiediebaaGreatDivB
noncomputable section
namespace Go.Proofs.YtgeankpiediebaaGreat
open Go.Fx
set_option maxRecDepth 100000
theorem dv5_7hr : dvL5 7 .h .r = dvM5 7 .h .r := by kernel_rfl
theorem dv5_4hr : dvL5 4 .h .r = dvM5 4 .h .r := by kernel_rfl
theorem dv2_8hr : dvL2 8 .h .r = dvM2 8 .h .r := by kernel_rfl
theorem dv2_6hr : dvL2 6 .h .r = dvM2 6 .h .r := by kernel_rfl
theorem dv2_1hr : dvL2 1 .h .r = dvM2 1 .h .r := by kernel_rfl
end Go.Proofs.YtgeankpiediebaaGreat
end
