/-
  WholePages: some of its steps.
-/
import Derived.Test.YtgeankpiediebaaGreatPgB
noncomputable section
namespace Go.Proofs.YtgeankpiediebaaGreat
open Go.Fx
set_option maxRecDepth 100000
theorem pg_2_6 : pgIs 2 6 = true := by kernel_rfl
theorem pg_3_7 : pgIs 3 7 = true := by kernel_rfl
theorem pg_7_11 : pgIs 7 11 = true := by kernel_rfl
theorem pg_3_0 : pgIs 3 0 = true := by kernel_rfl
theorem pg_8_1 : pgIs 8 1 = true := by kernel_rfl
theorem pg_8_10 : pgIs 8 10 = true := by kernel_rfl
end Go.Proofs.YtgeankpiediebaaGreat
end
