/-
  WholePages: some of its steps.
-/
import Derived.Test.YtgeankpiediebaaGreatPgB
noncomputable section
namespace Go.Proofs.YtgeankpiediebaaGreat
open Go.Fx
set_option maxRecDepth 100000
theorem pg_6_14 : pgIs 6 14 = true := by kernel_rfl
theorem pg_5_5 : pgIs 5 5 = true := by kernel_rfl
theorem pg_8_7 : pgIs 8 7 = true := by kernel_rfl
theorem pg_4_1 : pgIs 4 1 = true := by kernel_rfl
theorem pg_3_6 : pgIs 3 6 = true := by kernel_rfl
theorem pg_5_6 : pgIs 5 6 = true := by kernel_rfl
theorem pg_7_8 : pgIs 7 8 = true := by kernel_rfl
end Go.Proofs.YtgeankpiediebaaGreat
end
