/-
  WholePages: some of its steps.
-/
import Derived.Test.YtgeankpiediebaaGreatPgB
noncomputable section
namespace Go.Proofs.YtgeankpiediebaaGreat
open Go.Fx
set_option maxRecDepth 100000
theorem pg_7_2 : pgIs 7 2 = true := by kernel_rfl
theorem pg_7_5 : pgIs 7 5 = true := by kernel_rfl
theorem pg_2_0 : pgIs 2 0 = true := by kernel_rfl
theorem pg_6_1 : pgIs 6 1 = true := by kernel_rfl
theorem pg_6_10 : pgIs 6 10 = true := by kernel_rfl
end Go.Proofs.YtgeankpiediebaaGreat
end
