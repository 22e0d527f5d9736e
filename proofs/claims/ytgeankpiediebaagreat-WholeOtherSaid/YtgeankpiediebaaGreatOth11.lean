/-
  WholeOther, run by some of its ways: how many instructions are ahead, which isn't one.
-/
import Derived.Test.YtgeankpiediebaaGreatOthB
noncomputable section
namespace Go.Proofs.YtgeankpiediebaaGreat
open Go.Fx
set_option maxRecDepth 100000
theorem oth12_4 : metOf (run (XP [(othK, [12]), (othQ, [4])]) 90 8 othArgs 0) [] [] [] [] = some (othMet 12 4) := by kernel_rfl
theorem oth15_1 : metOf (run (XP [(othK, [15]), (othQ, [1])]) 90 8 othArgs 0) [] [] [] [] = some (othMet 15 1) := by kernel_rfl
theorem oth19_2 : metOf (run (XP [(othK, [19]), (othQ, [2])]) 90 8 othArgs 0) [] [] [] [] = some (othMet 19 2) := by kernel_rfl
end Go.Proofs.YtgeankpiediebaaGreat
end
