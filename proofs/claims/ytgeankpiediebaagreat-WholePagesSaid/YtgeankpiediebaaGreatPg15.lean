/-
  WholePages: some of its steps.
-/
import Derived.Test.YtgeankpiediebaaGreatPgB
noncomputable section
namespace Go.Proofs.YtgeankpiediebaaGreat
open Go.Fx
set_option maxRecDepth 100000
theorem pg_2_5 : pgIs 2 5 = true := by kernel_rfl
theorem pg_3_5 : pgIs 3 5 = true := by kernel_rfl
theorem pg_7_9 : pgIs 7 9 = true := by kernel_rfl
theorem pg_2_3 : pgIs 2 3 = true := by kernel_rfl
theorem pg_8_0 : pgIs 8 0 = true := by kernel_rfl
theorem pg_8_8 : pgIs 8 8 = true := by kernel_rfl
end Go.Proofs.YtgeankpiediebaaGreat
end
