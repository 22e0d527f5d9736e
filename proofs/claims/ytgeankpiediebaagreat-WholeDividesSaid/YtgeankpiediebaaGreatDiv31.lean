/-
  WholeDivides, run by some of its ways.
-/
import Derived.Test.YtgeankpiediebaaGreatDivB
noncomputable section
namespace Go.Proofs.YtgeankpiediebaaGreat
open Go.Fx
set_option maxRecDepth 100000
theorem dv5_6rr : dvL5 6 .r .r = dvM5 6 .r .r := by kernel_rfl
theorem dv5_5rr : dvL5 5 .r .r = dvM5 5 .r .r := by kernel_rfl
theorem dv5_0rr : dvL5 0 .r .r = dvM5 0 .r .r := by kernel_rfl
theorem dv2_7rr : dvL2 7 .r .r = dvM2 7 .r .r := by kernel_rfl
theorem dv2_0rr : dvL2 0 .r .r = dvM2 0 .r .r := by kernel_rfl
end Go.Proofs.YtgeankpiediebaaGreat
end
