/-
  WholeOther, run by some of its ways: how many instructions are ahead, which isn't one.
-/
import Derived.Test.YtgeankpiediebaaGreatOthB
noncomputable section
namespace Go.Proofs.YtgeankpiediebaaGreat
open Go.Fx
set_option maxRecDepth 100000
theorem oth8_01 : [metOf (run (XP [(othK, [8]), (othQ, [0])]) 90 8 othArgs 0) [] [] [] [], metOf (run (XP [(othK, [8]), (othQ, [1])]) 90 8 othArgs 0) [] [] [] []] = [some (othMet 8 0), some (othMet 8 1)] := by kernel_rfl
theorem oth13_3 : metOf (run (XP [(othK, [13]), (othQ, [3])]) 90 8 othArgs 0) [] [] [] [] = some (othMet 13 3) := by kernel_rfl
theorem oth17_2 : metOf (run (XP [(othK, [17]), (othQ, [2])]) 90 8 othArgs 0) [] [] [] [] = some (othMet 17 2) := by kernel_rfl
end Go.Proofs.YtgeankpiediebaaGreat
end
