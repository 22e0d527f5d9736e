/-
  WholeOther, run by some of its ways: how many instructions are ahead, which isn't one.
-/
import Derived.Test.YtgeankpiediebaaGreatOthB
noncomputable section
namespace Go.Proofs.YtgeankpiediebaaGreat
open Go.Fx
set_option maxRecDepth 100000
theorem oth3_345 : [metOf (run (XP [(othK, [3]), (othQ, [3])]) 90 8 othArgs 0) [] [] [] [], metOf (run (XP [(othK, [3]), (othQ, [4])]) 90 8 othArgs 0) [] [] [] [], metOf (run (XP [(othK, [3]), (othQ, [5])]) 90 8 othArgs 0) [] [] [] []] = [some (othMet 3 3), some (othMet 3 4), some (othMet 3 5)] := by kernel_rfl
theorem oth16_2 : metOf (run (XP [(othK, [16]), (othQ, [2])]) 90 8 othArgs 0) [] [] [] [] = some (othMet 16 2) := by kernel_rfl
theorem oth18_0 : metOf (run (XP [(othK, [18]), (othQ, [0])]) 90 8 othArgs 0) [] [] [] [] = some (othMet 18 0) := by kernel_rfl
end Go.Proofs.YtgeankpiediebaaGreat
end
