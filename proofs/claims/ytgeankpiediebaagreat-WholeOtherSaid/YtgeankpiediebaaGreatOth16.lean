/-
  WholeOther, run by some of its ways: how many instructions are ahead, which isn't one.
-/
import Derived.Test.YtgeankpiediebaaGreatOthB
noncomputable section
namespace Go.Proofs.YtgeankpiediebaaGreat
open Go.Fx
set_option maxRecDepth 100000
theorem oth9_01 : [metOf (run (XP [(othK, [9]), (othQ, [0])]) 90 8 othArgs 0) [] [] [] [], metOf (run (XP [(othK, [9]), (othQ, [1])]) 90 8 othArgs 0) [] [] [] []] = [some (othMet 9 0), some (othMet 9 1)] := by kernel_rfl
theorem oth13_2 : metOf (run (XP [(othK, [13]), (othQ, [2])]) 90 8 othArgs 0) [] [] [] [] = some (othMet 13 2) := by kernel_rfl
theorem oth15_5 : metOf (run (XP [(othK, [15]), (othQ, [5])]) 90 8 othArgs 0) [] [] [] [] = some (othMet 15 5) := by kernel_rfl
end Go.Proofs.YtgeankpiediebaaGreat
end
