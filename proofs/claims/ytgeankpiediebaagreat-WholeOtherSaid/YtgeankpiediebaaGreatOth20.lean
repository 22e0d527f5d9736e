/-
  WholeOther, run by some of its ways: how many instructions are ahead, which isn't one.
-/
import Derived.Test.YtgeankpiediebaaGreatOthB
noncomputable section
namespace Go.Proofs.YtgeankpiediebaaGreat
open Go.Fx
set_option maxRecDepth 100000
theorem oth12_1 : metOf (run (XP [(othK, [12]), (othQ, [1])]) 90 8 othArgs 0) [] [] [] [] = some (othMet 12 1) := by kernel_rfl
theorem oth16_4 : metOf (run (XP [(othK, [16]), (othQ, [4])]) 90 8 othArgs 0) [] [] [] [] = some (othMet 16 4) := by kernel_rfl
theorem oth18_2 : metOf (run (XP [(othK, [18]), (othQ, [2])]) 90 8 othArgs 0) [] [] [] [] = some (othMet 18 2) := by kernel_rfl
end Go.Proofs.YtgeankpiediebaaGreat
end
