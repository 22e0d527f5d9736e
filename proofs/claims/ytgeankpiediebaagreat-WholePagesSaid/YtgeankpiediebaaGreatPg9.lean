/-
  WholePages: some of its steps.
-/
import Derived.Test.YtgeankpiediebaaGreatPgB
noncomputable section
namespace Go.Proofs.YtgeankpiediebaaGreat
open Go.Fx
set_option maxRecDepth 100000
theorem pg_3_8 : pgIs 3 8 = true := by kernel_rfl
theorem pg_4_5 : pgIs 4 5 = true := by kernel_rfl
theorem pg_7_13 : pgIs 7 13 = true := by kernel_rfl
theorem pg_3_1 : pgIs 3 1 = true := by kernel_rfl
theorem pg_8_3 : pgIs 8 3 = true := by kernel_rfl
theorem pg_8_12 : pgIs 8 12 = true := by kernel_rfl
end Go.Proofs.YtgeankpiediebaaGreat
end
