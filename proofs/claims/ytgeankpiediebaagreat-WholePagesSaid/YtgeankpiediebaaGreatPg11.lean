/-
  WholePages: some of its steps.
-/
import Derived.Test.YtgeankpiediebaaGreatPgB
noncomputable section
namespace Go.Proofs.YtgeankpiediebaaGreat
open Go.Fx
set_option maxRecDepth 100000
theorem pg_5_12 : pgIs 5 12 = true := by kernel_rfl
theorem pg_4_9 : pgIs 4 9 = true := by kernel_rfl
theorem pg_8_5 : pgIs 8 5 = true := by kernel_rfl
theorem pg_4_0 : pgIs 4 0 = true := by kernel_rfl
theorem pg_3_4 : pgIs 3 4 = true := by kernel_rfl
theorem pg_5_4 : pgIs 5 4 = true := by kernel_rfl
theorem pg_7_6 : pgIs 7 6 = true := by kernel_rfl
end Go.Proofs.YtgeankpiediebaaGreat
end
