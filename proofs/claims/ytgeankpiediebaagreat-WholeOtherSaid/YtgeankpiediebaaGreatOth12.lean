/-
  WholeOther, run by some of its ways: how many instructions are ahead, which isn't one.
-/
import Derived.Test.YtgeankpiediebaaGreatOthB
noncomputable section
namespace Go.Proofs.YtgeankpiediebaaGreat
open Go.Fx
set_option maxRecDepth 100000
theorem oth12_3 : metOf (run (XP [(othK, [12]), (othQ, [3])]) 90 8 othArgs 0) [] [] [] [] = some (othMet 12 3) := by kernel_rfl
theorem oth15_0 : metOf (run (XP [(othK, [15]), (othQ, [0])]) 90 8 othArgs 0) [] [] [] [] = some (othMet 15 0) := by kernel_rfl
theorem oth19_1 : metOf (run (XP [(othK, [19]), (othQ, [1])]) 90 8 othArgs 0) [] [] [] [] = some (othMet 19 1) := by kernel_rfl
end Go.Proofs.YtgeankpiediebaaGreat
end
