/-
  WholePages: some of its steps.
-/
import Derived.Test.YtgeankpiediebaaGreatPgB
noncomputable section
namespace Go.Proofs.YtgeankpiediebaaGreat
open Go.Fx
set_option maxRecDepth 100000
theorem pg_4_10 : pgIs 4 10 = true := by kernel_rfl
theorem pg_4_7 : pgIs 4 7 = true := by kernel_rfl
theorem pg_7_15 : pgIs 7 15 = true := by kernel_rfl
theorem pg_3_3 : pgIs 3 3 = true := by kernel_rfl
theorem pg_2_4 : pgIs 2 4 = true := by kernel_rfl
theorem pg_4_8 : pgIs 4 8 = true := by kernel_rfl
theorem pg_7_4 : pgIs 7 4 = true := by kernel_rfl
end Go.Proofs.YtgeankpiediebaaGreat
end
