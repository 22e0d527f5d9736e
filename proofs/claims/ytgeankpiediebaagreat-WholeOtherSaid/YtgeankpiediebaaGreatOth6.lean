/-
  WholeOther, run by some of its ways: how many instructions are ahead, which isn't one.
-/
import Derived.Test.YtgeankpiediebaaGreatOthB
noncomputable section
namespace Go.Proofs.YtgeankpiediebaaGreat
open Go.Fx
set_option maxRecDepth 100000
theorem oth0_012345 : [metOf (run (XP [(othK, [0]), (othQ, [0])]) 90 8 othArgs 0) [] [] [] [], metOf (run (XP [(othK, [0]), (othQ, [1])]) 90 8 othArgs 0) [] [] [] [], metOf (run (XP [(othK, [0]), (othQ, [2])]) 90 8 othArgs 0) [] [] [] [], metOf (run (XP [(othK, [0]), (othQ, [3])]) 90 8 othArgs 0) [] [] [] [], metOf (run (XP [(othK, [0]), (othQ, [4])]) 90 8 othArgs 0) [] [] [] [], metOf (run (XP [(othK, [0]), (othQ, [5])]) 90 8 othArgs 0) [] [] [] []] = [some (othMet 0 0), some (othMet 0 1), some (othMet 0 2), some (othMet 0 3), some (othMet 0 4), some (othMet 0 5)] := by kernel_rfl
theorem oth6_345 : [metOf (run (XP [(othK, [6]), (othQ, [3])]) 90 8 othArgs 0) [] [] [] [], metOf (run (XP [(othK, [6]), (othQ, [4])]) 90 8 othArgs 0) [] [] [] [], metOf (run (XP [(othK, [6]), (othQ, [5])]) 90 8 othArgs 0) [] [] [] []] = [some (othMet 6 3), some (othMet 6 4), some (othMet 6 5)] := by kernel_rfl
theorem oth7_23 : [metOf (run (XP [(othK, [7]), (othQ, [2])]) 90 8 othArgs 0) [] [] [] [], metOf (run (XP [(othK, [7]), (othQ, [3])]) 90 8 othArgs 0) [] [] [] []] = [some (othMet 7 2), some (othMet 7 3)] := by kernel_rfl
end Go.Proofs.YtgeankpiediebaaGreat
end
