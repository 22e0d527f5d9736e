/-
  WholeDivides, run by some of its ways.
-/
import Derived.Test.YtgeankpiediebaaGreatDivB
noncomputable section
namespace Go.Proofs.YtgeankpiediebaaGreat
open Go.Fx
set_option maxRecDepth 100000
theorem dv5_9rr : dvL5 9 .r .r = dvM5 9 .r .r := by kernel_rfl
theorem dv5_2rr : dvL5 2 .r .r = dvM5 2 .r .r := by kernel_rfl
theorem dv2_9rr : dvL2 9 .r .r = dvM2 9 .r .r := by kernel_rfl
theorem dv2_4rr : dvL2 4 .r .r = dvM2 4 .r .r := by kernel_rfl
theorem dv2_3rr : dvL2 3 .r .r = dvM2 3 .r .r := by kernel_rfl
end Go.Proofs.YtgeankpiediebaaGreat
end
