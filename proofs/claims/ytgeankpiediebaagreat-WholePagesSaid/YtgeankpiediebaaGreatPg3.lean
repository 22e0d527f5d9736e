/-
  WholePages: some of its steps.
-/
import Derived.Test.YtgeankpiediebaaGreatPgB
noncomputable section
namespace Go.Proofs.YtgeankpiediebaaGreat
open Go.Fx
set_option maxRecDepth 100000
theorem pg_4_2 : pgIs 4 2 = true := by kernel_rfl
theorem pg_6_9 : pgIs 6 9 = true := by kernel_rfl
theorem pg_1_0 : pgIs 1 0 = true := by kernel_rfl
theorem pg_5_1 : pgIs 5 1 = true := by kernel_rfl
theorem pg_6_4 : pgIs 6 4 = true := by kernel_rfl
theorem pg_8_14 : pgIs 8 14 = true := by kernel_rfl
end Go.Proofs.YtgeankpiediebaaGreat
end
