/-
  WholeOther, run by some of its ways: how many instructions are ahead, which isn't one.
-/
import Derived.Test.YtgeankpiediebaaGreatOthB
noncomputable section
namespace Go.Proofs.YtgeankpiediebaaGreat
open Go.Fx
set_option maxRecDepth 100000
theorem oth10_01 : [metOf (run (XP [(othK, [10]), (othQ, [0])]) 90 8 othArgs 0) [] [] [] [], metOf (run (XP [(othK, [10]), (othQ, [1])]) 90 8 othArgs 0) [] [] [] []] = [some (othMet 10 0), some (othMet 10 1)] := by kernel_rfl
theorem oth14_3 : metOf (run (XP [(othK, [14]), (othQ, [3])]) 90 8 othArgs 0) [] [] [] [] = some (othMet 14 3) := by kernel_rfl
end Go.Proofs.YtgeankpiediebaaGreat
end
