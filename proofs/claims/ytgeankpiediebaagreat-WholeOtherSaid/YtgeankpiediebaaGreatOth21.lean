/-
  WholeOther, run by some of its ways: how many instructions are ahead, which isn't one.
-/
import Derived.Test.YtgeankpiediebaaGreatOthB
noncomputable section
namespace Go.Proofs.YtgeankpiediebaaGreat
open Go.Fx
set_option maxRecDepth 100000
theorem oth12_0 : metOf (run (XP [(othK, [12]), (othQ, [0])]) 90 8 othArgs 0) [] [] [] [] = some (othMet 12 0) := by kernel_rfl
theorem oth16_3 : metOf (run (XP [(othK, [16]), (othQ, [3])]) 90 8 othArgs 0) [] [] [] [] = some (othMet 16 3) := by kernel_rfl
theorem oth18_1 : metOf (run (XP [(othK, [18]), (othQ, [1])]) 90 8 othArgs 0) [] [] [] [] = some (othMet 18 1) := by kernel_rfl
end Go.Proofs.YtgeankpiediebaaGreat
end
