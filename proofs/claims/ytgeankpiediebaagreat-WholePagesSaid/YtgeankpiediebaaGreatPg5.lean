/-
  WholePages: some of its steps.
-/
import Derived.Test.YtgeankpiediebaaGreatPgB
noncomputable section
namespace Go.Proofs.YtgeankpiediebaaGreat
open Go.Fx
set_option maxRecDepth 100000
theorem pg_6_2 : pgIs 6 2 = true := by kernel_rfl
theorem pg_6_13 : pgIs 6 13 = true := by kernel_rfl
theorem pg_1_3 : pgIs 1 3 = true := by kernel_rfl
theorem pg_6_0 : pgIs 6 0 = true := by kernel_rfl
theorem pg_6_8 : pgIs 6 8 = true := by kernel_rfl
end Go.Proofs.YtgeankpiediebaaGreat
end
