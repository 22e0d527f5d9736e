/-
  WholePages: its run of 2 turns, its steps being known.
-/
import Derived.Test.YtgeankpiediebaaGreatPgB
noncomputable section
namespace Go.Proofs.YtgeankpiediebaaGreat
open Go.Fx
set_option maxRecDepth 100000
def pgMs2 : List Memo := [pgMemo 2 0, pgMemo 2 1, pgMemo 2 2, pgMemo 2 3, pgMemo 2 4, pgMemo 2 5, pgMemo 2 6]
theorem pgl_2 : pgRun pgMs2 1 = some (pgMet 1) := by kernel_rfl
end Go.Proofs.YtgeankpiediebaaGreat
end
