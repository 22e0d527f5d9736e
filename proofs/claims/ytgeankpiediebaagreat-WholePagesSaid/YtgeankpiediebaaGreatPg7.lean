/-
  WholePages: some of its steps.
-/
import Derived.Test.YtgeankpiediebaaGreatPgB
noncomputable section
namespace Go.Proofs.YtgeankpiediebaaGreat
open Go.Fx
set_option maxRecDepth 100000
theorem pg_8_2 : pgIs 8 2 = true := by kernel_rfl
theorem pg_7_7 : pgIs 7 7 = true := by kernel_rfl
theorem pg_2_1 : pgIs 2 1 = true := by kernel_rfl
theorem pg_6_3 : pgIs 6 3 = true := by kernel_rfl
theorem pg_6_12 : pgIs 6 12 = true := by kernel_rfl
end Go.Proofs.YtgeankpiediebaaGreat
end
