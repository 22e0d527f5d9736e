/-
  WholeOther, run by some of its ways: how many instructions are ahead, which isn't one.
-/
import Derived.Test.YtgeankpiediebaaGreatOthB
noncomputable section
namespace Go.Proofs.YtgeankpiediebaaGreat
open Go.Fx
set_option maxRecDepth 100000
theorem oth1_012345 : [metOf (run (XP [(othK, [1]), (othQ, [0])]) 90 8 othArgs 0) [] [] [] [], metOf (run (XP [(othK, [1]), (othQ, [1])]) 90 8 othArgs 0) [] [] [] [], metOf (run (XP [(othK, [1]), (othQ, [2])]) 90 8 othArgs 0) [] [] [] [], metOf (run (XP [(othK, [1]), (othQ, [3])]) 90 8 othArgs 0) [] [] [] [], metOf (run (XP [(othK, [1]), (othQ, [4])]) 90 8 othArgs 0) [] [] [] [], metOf (run (XP [(othK, [1]), (othQ, [5])]) 90 8 othArgs 0) [] [] [] []] = [some (othMet 1 0), some (othMet 1 1), some (othMet 1 2), some (othMet 1 3), some (othMet 1 4), some (othMet 1 5)] := by kernel_rfl
theorem oth2_012345 : [metOf (run (XP [(othK, [2]), (othQ, [0])]) 90 8 othArgs 0) [] [] [] [], metOf (run (XP [(othK, [2]), (othQ, [1])]) 90 8 othArgs 0) [] [] [] [], metOf (run (XP [(othK, [2]), (othQ, [2])]) 90 8 othArgs 0) [] [] [] [], metOf (run (XP [(othK, [2]), (othQ, [3])]) 90 8 othArgs 0) [] [] [] [], metOf (run (XP [(othK, [2]), (othQ, [4])]) 90 8 othArgs 0) [] [] [] [], metOf (run (XP [(othK, [2]), (othQ, [5])]) 90 8 othArgs 0) [] [] [] []] = [some (othMet 2 0), some (othMet 2 1), some (othMet 2 2), some (othMet 2 3), some (othMet 2 4), some (othMet 2 5)] := by kernel_rfl
theorem oth18_4 : metOf (run (XP [(othK, [18]), (othQ, [4])]) 90 8 othArgs 0) [] [] [] [] = some (othMet 18 4) := by kernel_rfl
end Go.Proofs.YtgeankpiediebaaGreat
end
