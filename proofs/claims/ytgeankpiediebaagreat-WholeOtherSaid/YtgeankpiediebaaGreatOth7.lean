/-
  WholeOther, run by some of its ways: how many instructions are ahead, which isn't one.
-/
import Derived.Test.YtgeankpiediebaaGreatOthB
noncomputable section
namespace Go.Proofs.YtgeankpiediebaaGreat
open Go.Fx
set_option maxRecDepth 100000
theorem oth6_012 : [metOf (run (XP [(othK, [6]), (othQ, [0])]) 90 8 othArgs 0) [] [] [] [], metOf (run (XP [(othK, [6]), (othQ, [1])]) 90 8 othArgs 0) [] [] [] [], metOf (run (XP [(othK, [6]), (othQ, [2])]) 90 8 othArgs 0) [] [] [] []] = [some (othMet 6 0), some (othMet 6 1), some (othMet 6 2)] := by kernel_rfl
theorem oth7_01 : [metOf (run (XP [(othK, [7]), (othQ, [0])]) 90 8 othArgs 0) [] [] [] [], metOf (run (XP [(othK, [7]), (othQ, [1])]) 90 8 othArgs 0) [] [] [] []] = [some (othMet 7 0), some (othMet 7 1)] := by kernel_rfl
end Go.Proofs.YtgeankpiediebaaGreat
end
