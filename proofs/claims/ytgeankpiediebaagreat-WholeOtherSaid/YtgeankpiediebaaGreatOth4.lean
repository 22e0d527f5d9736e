/-
  WholeOther, run by some of its ways: how many instructions are ahead, which isn't one.
-/
import Derived.Test.YtgeankpiediebaaGreatOthB
noncomputable section
namespace Go.Proofs.YtgeankpiediebaaGreat
open Go.Fx
set_option maxRecDepth 100000
theorem oth10_23 : [metOf (run (XP [(othK, [10]), (othQ, [2])]) 90 8 othArgs 0) [] [] [] [], metOf (run (XP [(othK, [10]), (othQ, [3])]) 90 8 othArgs 0) [] [] [] []] = [some (othMet 10 2), some (othMet 10 3)] := by kernel_rfl
theorem oth14_4 : metOf (run (XP [(othK, [14]), (othQ, [4])]) 90 8 othArgs 0) [] [] [] [] = some (othMet 14 4) := by kernel_rfl
end Go.Proofs.YtgeankpiediebaaGreat
end
