/-
  WholePages: some of its steps.
-/
import Derived.Test.YtgeankpiediebaaGreatPgB
noncomputable section
namespace Go.Proofs.YtgeankpiediebaaGreat
open Go.Fx
set_option maxRecDepth 100000
theorem pg_7_16 : pgIs 7 16 = true := by kernel_rfl
theorem pg_5_7 : pgIs 5 7 = true := by kernel_rfl
theorem pg_8_9 : pgIs 8 9 = true := by kernel_rfl
theorem pg_4_3 : pgIs 4 3 = true := by kernel_rfl
theorem pg_4_4 : pgIs 4 4 = true := by kernel_rfl
theorem pg_5_8 : pgIs 5 8 = true := by kernel_rfl
theorem pg_7_10 : pgIs 7 10 = true := by kernel_rfl
end Go.Proofs.YtgeankpiediebaaGreat
end
