/-
  WholePages: its run of 1 turns, its steps being known.
-/
import Derived.Test.YtgeankpiediebaaGreatPgB
noncomputable section
namespace Go.Proofs.YtgeankpiediebaaGreat
open Go.Fx
set_option maxRecDepth 100000
def pgMs1 : List Memo := [pgMemo 1 0, pgMemo 1 1, pgMemo 1 2, pgMemo 1 3]
theorem pgl_1 : pgRun pgMs1 0 = some (pgMet 0) := by kernel_rfl
end Go.Proofs.YtgeankpiediebaaGreat
end
