/-
  WholePages: some of its steps.
-/
import Derived.Test.YtgeankpiediebaaGreatPgB
noncomputable section
namespace Go.Proofs.YtgeankpiediebaaGreat
open Go.Fx
set_option maxRecDepth 100000
theorem pg_5_2 : pgIs 5 2 = true := by kernel_rfl
theorem pg_6_11 : pgIs 6 11 = true := by kernel_rfl
theorem pg_1_1 : pgIs 1 1 = true := by kernel_rfl
theorem pg_5_3 : pgIs 5 3 = true := by kernel_rfl
theorem pg_6_6 : pgIs 6 6 = true := by kernel_rfl
theorem pg_8_16 : pgIs 8 16 = true := by kernel_rfl
end Go.Proofs.YtgeankpiediebaaGreat
end
