/-
  WholeOther, run by some of its ways: how many instructions are ahead, which isn't one.
-/
import Derived.Test.YtgeankpiediebaaGreatOthB
noncomputable section
namespace Go.Proofs.YtgeankpiediebaaGreat
open Go.Fx
set_option maxRecDepth 100000
theorem oth12_5 : metOf (run (XP [(othK, [12]), (othQ, [5])]) 90 8 othArgs 0) [] [] [] [] = some (othMet 12 5) := by kernel_rfl
theorem oth15_2 : metOf (run (XP [(othK, [15]), (othQ, [2])]) 90 8 othArgs 0) [] [] [] [] = some (othMet 15 2) := by kernel_rfl
theorem oth19_3 : metOf (run (XP [(othK, [19]), (othQ, [3])]) 90 8 othArgs 0) [] [] [] [] = some (othMet 19 3) := by kernel_rfl
end Go.Proofs.YtgeankpiediebaaGreat
end
