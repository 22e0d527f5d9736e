/-
  WholeOther, run by some of its ways: how many instructions are ahead, which isn't one.
-/
import Derived.Test.YtgeankpiediebaaGreatOthB
noncomputable section
namespace Go.Proofs.YtgeankpiediebaaGreat
open Go.Fx
set_option maxRecDepth 100000
theorem oth9_45 : [metOf (run (XP [(othK, [9]), (othQ, [4])]) 90 8 othArgs 0) [] [] [] [], metOf (run (XP [(othK, [9]), (othQ, [5])]) 90 8 othArgs 0) [] [] [] []] = [some (othMet 9 4), some (othMet 9 5)] := by kernel_rfl
theorem oth16_1 : metOf (run (XP [(othK, [16]), (othQ, [1])]) 90 8 othArgs 0) [] [] [] [] = some (othMet 16 1) := by kernel_rfl
end Go.Proofs.YtgeankpiediebaaGreat
end
