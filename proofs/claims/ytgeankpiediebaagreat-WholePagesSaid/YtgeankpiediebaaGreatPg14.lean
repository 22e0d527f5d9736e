/-
  WholePages: some of its steps.
-/
import Derived.Test.YtgeankpiediebaaGreatPgB
noncomputable section
namespace Go.Proofs.YtgeankpiediebaaGreat
open Go.Fx
set_option maxRecDepth 100000
theorem pg_8_18 : pgIs 8 18 = true := by kernel_rfl
theorem pg_5_9 : pgIs 5 9 = true := by kernel_rfl
theorem pg_8_11 : pgIs 8 11 = true := by kernel_rfl
theorem pg_5_0 : pgIs 5 0 = true := by kernel_rfl
theorem pg_4_6 : pgIs 4 6 = true := by kernel_rfl
theorem pg_5_10 : pgIs 5 10 = true := by kernel_rfl
theorem pg_7_12 : pgIs 7 12 = true := by kernel_rfl
end Go.Proofs.YtgeankpiediebaaGreat
end
