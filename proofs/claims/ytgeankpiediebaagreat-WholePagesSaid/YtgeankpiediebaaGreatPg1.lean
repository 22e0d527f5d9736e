/-
  WholePages: some of its steps.
-/
import Derived.Test.YtgeankpiediebaaGreatPgB
noncomputable section
namespace Go.Proofs.YtgeankpiediebaaGreat
open Go.Fx
set_option maxRecDepth 100000
theorem pg_2_2 : pgIs 2 2 = true := by kernel_rfl
theorem pg_6_5 : pgIs 6 5 = true := by kernel_rfl
theorem pg_8_15 : pgIs 8 15 = true := by kernel_rfl
theorem pg_7_1 : pgIs 7 1 = true := by kernel_rfl
theorem pg_8_4 : pgIs 8 4 = true := by kernel_rfl
end Go.Proofs.YtgeankpiediebaaGreat
end
