/-
  WholeOther, run by some of its ways: how many instructions are ahead, which isn't one.
-/
import Derived.Test.YtgeankpiediebaaGreatOthB
noncomputable section
namespace Go.Proofs.YtgeankpiediebaaGreat
open Go.Fx
set_option maxRecDepth 100000
theorem oth4_345 : [metOf (run (XP [(othK, [4]), (othQ, [3])]) 90 8 othArgs 0) [] [] [] [], metOf (run (XP [(othK, [4]), (othQ, [4])]) 90 8 othArgs 0) [] [] [] [], metOf (run (XP [(othK, [4]), (othQ, [5])]) 90 8 othArgs 0) [] [] [] []] = [some (othMet 4 3), some (othMet 4 4), some (othMet 4 5)] := by kernel_rfl
theorem oth5_345 : [metOf (run (XP [(othK, [5]), (othQ, [3])]) 90 8 othArgs 0) [] [] [] [], metOf (run (XP [(othK, [5]), (othQ, [4])]) 90 8 othArgs 0) [] [] [] [], metOf (run (XP [(othK, [5]), (othQ, [5])]) 90 8 othArgs 0) [] [] [] []] = [some (othMet 5 3), some (othMet 5 4), some (othMet 5 5)] := by kernel_rfl
theorem oth17_1 : metOf (run (XP [(othK, [17]), (othQ, [1])]) 90 8 othArgs 0) [] [] [] [] = some (othMet 17 1) := by kernel_rfl
end Go.Proofs.YtgeankpiediebaaGreat
end
