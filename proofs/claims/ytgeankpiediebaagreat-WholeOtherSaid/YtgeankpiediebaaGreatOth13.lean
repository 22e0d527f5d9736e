/-
  WholeOther, run by some of its ways: how many instructions are ahead, which isn't one.
-/
import Derived.Test.YtgeankpiediebaaGreatOthB
noncomputable section
namespace Go.Proofs.YtgeankpiediebaaGreat
open Go.Fx
set_option maxRecDepth 100000
theorem oth4_012 : [metOf (run (XP [(othK, [4]), (othQ, [0])]) 90 8 othArgs 0) [] [] [] [], metOf (run (XP [(othK, [4]), (othQ, [1])]) 90 8 othArgs 0) [] [] [] [], metOf (run (XP [(othK, [4]), (othQ, [2])]) 90 8 othArgs 0) [] [] [] []] = [some (othMet 4 0), some (othMet 4 1), some (othMet 4 2)] := by kernel_rfl
theorem oth7_45 : [metOf (run (XP [(othK, [7]), (othQ, [4])]) 90 8 othArgs 0) [] [] [] [], metOf (run (XP [(othK, [7]), (othQ, [5])]) 90 8 othArgs 0) [] [] [] []] = [some (othMet 7 4), some (othMet 7 5)] := by kernel_rfl
theorem oth19_0 : metOf (run (XP [(othK, [19]), (othQ, [0])]) 90 8 othArgs 0) [] [] [] [] = some (othMet 19 0) := by kernel_rfl
end Go.Proofs.YtgeankpiediebaaGreat
end
