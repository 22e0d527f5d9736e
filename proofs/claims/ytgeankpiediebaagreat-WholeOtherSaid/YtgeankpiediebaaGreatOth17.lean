/-
  WholeOther, run by some of its ways: how many instructions are ahead, which isn't one.
-/
import Derived.Test.YtgeankpiediebaaGreatOthB
noncomputable section
namespace Go.Proofs.YtgeankpiediebaaGreat
open Go.Fx
set_option maxRecDepth 100000
theorem oth5_012 : [metOf (run (XP [(othK, [5]), (othQ, [0])]) 90 8 othArgs 0) [] [] [] [], metOf (run (XP [(othK, [5]), (othQ, [1])]) 90 8 othArgs 0) [] [] [] [], metOf (run (XP [(othK, [5]), (othQ, [2])]) 90 8 othArgs 0) [] [] [] []] = [some (othMet 5 0), some (othMet 5 1), some (othMet 5 2)] := by kernel_rfl
theorem oth18_5 : metOf (run (XP [(othK, [18]), (othQ, [5])]) 90 8 othArgs 0) [] [] [] [] = some (othMet 18 5) := by kernel_rfl
end Go.Proofs.YtgeankpiediebaaGreat
end
