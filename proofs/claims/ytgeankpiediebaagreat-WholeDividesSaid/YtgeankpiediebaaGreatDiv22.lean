/-
  WholeDivides, run by some of its ways.
-/
import Derived.Test.YtgeankpiediebaaGreatDivB
noncomputable section
namespace Go.Proofs.YtgeankpiediebaaGreat
open Go.Fx
set_option maxRecDepth 100000
theorem dv5_7rr : dvL5 7 .r .r = dvM5 7 .r .r := by kernel_rfl
theorem dv5_4rr : dvL5 4 .r .r = dvM5 4 .r .r := by kernel_rfl
theorem dv2_8rr : dvL2 8 .r .r = dvM2 8 .r .r := by kernel_rfl
theorem dv2_6rr : dvL2 6 .r .r = dvM2 6 .r .r := by kernel_rfl
theorem dv2_1rr : dvL2 1 .r .r = dvM2 1 .r .r := by kernel_rfl
end Go.Proofs.YtgeankpiediebaaGreat
end
