/-
  WholeOther, run by some of its ways: how many instructions are ahead, which isn't one.
-/
import Derived.Test.YtgeankpiediebaaGreatOthB
noncomputable section
namespace Go.Proofs.YtgeankpiediebaaGreat
open Go.Fx
set_option maxRecDepth 100000
theorem oth9_23 : [metOf (run (XP [(othK, [9]), (othQ, [2])]) 90 8 othArgs 0) [] [] [] [], metOf (run (XP [(othK, [9]), (othQ, [3])]) 90 8 othArgs 0) [] [] [] []] = [some (othMet 9 2), some (othMet 9 3)] := by kernel_rfl
theorem oth16_0 : metOf (run (XP [(othK, [16]), (othQ, [0])]) 90 8 othArgs 0) [] [] [] [] = some (othMet 16 0) := by kernel_rfl
end Go.Proofs.YtgeankpiediebaaGreat
end
