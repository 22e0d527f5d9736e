/-
  WholeOther, run by some of its ways: how many instructions are ahead, which isn't one.
-/
import Derived.Test.YtgeankpiediebaaGreatOthB
noncomputable section
namespace Go.Proofs.YtgeankpiediebaaGreat
open Go.Fx
set_option maxRecDepth 100000
theorem oth3_012 : [metOf (run (XP [(othK, [3]), (othQ, [0])]) 90 8 othArgs 0) [] [] [] [], metOf (run (XP [(othK, [3]), (othQ, [1])]) 90 8 othArgs 0) [] [] [] [], metOf (run (XP [(othK, [3]), (othQ, [2])]) 90 8 othArgs 0) [] [] [] []] = [some (othMet 3 0), some (othMet 3 1), some (othMet 3 2)] := by kernel_rfl
theorem oth17_0 : metOf (run (XP [(othK, [17]), (othQ, [0])]) 90 8 othArgs 0) [] [] [] [] = some (othMet 17 0) := by kernel_rfl
theorem oth17_5 : metOf (run (XP [(othK, [17]), (othQ, [5])]) 90 8 othArgs 0) [] [] [] [] = some (othMet 17 5) := by kernel_rfl
end Go.Proofs.YtgeankpiediebaaGreat
end
