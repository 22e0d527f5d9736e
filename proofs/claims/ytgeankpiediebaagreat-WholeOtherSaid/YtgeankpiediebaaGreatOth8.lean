/-
  WholeOther, run by some of its ways: how many instructions are ahead, which isn't one.
-/
import Derived.Test.YtgeankpiediebaaGreatOthB
noncomputable section
namespace Go.Proofs.YtgeankpiediebaaGreat
open Go.Fx
set_option maxRecDepth 100000
theorem oth13_1 : metOf (run (XP [(othK, [13]), (othQ, [1])]) 90 8 othArgs 0) [] [] [] [] = some (othMet 13 1) := by kernel_rfl
theorem oth15_4 : metOf (run (XP [(othK, [15]), (othQ, [4])]) 90 8 othArgs 0) [] [] [] [] = some (othMet 15 4) := by kernel_rfl
theorem oth19_5 : metOf (run (XP [(othK, [19]), (othQ, [5])]) 90 8 othArgs 0) [] [] [] [] = some (othMet 19 5) := by kernel_rfl
end Go.Proofs.YtgeankpiediebaaGreat
end
