/-
  WholePages: some of its steps.
-/
import Derived.Test.YtgeankpiediebaaGreatPgB
noncomputable section
namespace Go.Proofs.YtgeankpiediebaaGreat
open Go.Fx
set_option maxRecDepth 100000
theorem pg_3_2 : pgIs 3 2 = true := by kernel_rfl
theorem pg_6_7 : pgIs 6 7 = true := by kernel_rfl
theorem pg_8_17 : pgIs 8 17 = true := by kernel_rfl
theorem pg_7_3 : pgIs 7 3 = true := by kernel_rfl
theorem pg_8_6 : pgIs 8 6 = true := by kernel_rfl
end Go.Proofs.YtgeankpiediebaaGreat
end
