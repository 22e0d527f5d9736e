/-
  WholeOther, run by some of its ways: how many instructions are ahead, which isn't one.
-/
import Derived.Test.YtgeankpiediebaaGreatOthB
noncomputable section
namespace Go.Proofs.YtgeankpiediebaaGreat
open Go.Fx
set_option maxRecDepth 100000
theorem oth8_45 : [metOf (run (XP [(othK, [8]), (othQ, [4])]) 90 8 othArgs 0) [] [] [] [], metOf (run (XP [(othK, [8]), (othQ, [5])]) 90 8 othArgs 0) [] [] [] []] = [some (othMet 8 4), some (othMet 8 5)] := by kernel_rfl
theorem oth13_5 : metOf (run (XP [(othK, [13]), (othQ, [5])]) 90 8 othArgs 0) [] [] [] [] = some (othMet 13 5) := by kernel_rfl
theorem oth17_4 : metOf (run (XP [(othK, [17]), (othQ, [4])]) 90 8 othArgs 0) [] [] [] [] = some (othMet 17 4) := by kernel_rfl
end Go.Proofs.YtgeankpiediebaaGreat
end
