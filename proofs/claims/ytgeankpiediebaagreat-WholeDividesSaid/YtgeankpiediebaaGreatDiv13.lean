/-
  WholeDivides, run by some of its ways.
-/
import Derived.Test.YtgeankpiediebaaGreatDivB
noncomputable section
namespace Go.Proofs.YtgeankpiediebaaGreat
open Go.Fx
set_option maxRecDepth 100000
theorem dv5_8rr : dvL5 8 .r .r = dvM5 8 .r .r := by kernel_rfl
theorem dv5_3rr : dvL5 3 .r .r = dvM5 3 .r .r := by kernel_rfl
theorem dv5_1rr : dvL5 1 .r .r = dvM5 1 .r .r := by kernel_rfl
theorem dv2_5rr : dvL2 5 .r .r = dvM2 5 .r .r := by kernel_rfl
theorem dv2_2rr : dvL2 2 .r .r = dvM2 2 .r .r := by kernel_rfl
end Go.Proofs.YtgeankpiediebaaGreat
end
