/-
  WholePages: some of its steps.
-/
import Derived.Test.YtgeankpiediebaaGreatPgB
noncomputable section
namespace Go.Proofs.YtgeankpiediebaaGreat
open Go.Fx
set_option maxRecDepth 100000
theorem pg_1_2 : pgIs 1 2 = true := by kernel_rfl
theorem pg_5_11 : pgIs 5 11 = true := by kernel_rfl
theorem pg_8_13 : pgIs 8 13 = true := by kernel_rfl
theorem pg_7_0 : pgIs 7 0 = true := by kernel_rfl
theorem pg_7_14 : pgIs 7 14 = true := by kernel_rfl
end Go.Proofs.YtgeankpiediebaaGreat
end
