/-
  WholeOther, run by some of its ways: how many instructions are ahead, which isn't one.
-/
import Derived.Test.YtgeankpiediebaaGreatOthB
noncomputable section
namespace Go.Proofs.YtgeankpiediebaaGreat
open Go.Fx
set_option maxRecDepth 100000
theorem oth11_23 : [metOf (run (XP [(othK, [11]), (othQ, [2])]) 90 8 othArgs 0) [] [] [] [], metOf (run (XP [(othK, [11]), (othQ, [3])]) 90 8 othArgs 0) [] [] [] []] = [some (othMet 11 2), some (othMet 11 3)] := by kernel_rfl
theorem oth14_1 : metOf (run (XP [(othK, [14]), (othQ, [1])]) 90 8 othArgs 0) [] [] [] [] = some (othMet 14 1) := by kernel_rfl
end Go.Proofs.YtgeankpiediebaaGreat
end
