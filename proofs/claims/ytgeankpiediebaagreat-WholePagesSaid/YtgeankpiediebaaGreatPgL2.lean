/-
  WholePages: its run of 3 turns, its steps being known.
-/
import Derived.Test.YtgeankpiediebaaGreatPgB
noncomputable section
namespace Go.Proofs.YtgeankpiediebaaGreat
open Go.Fx
set_option maxRecDepth 100000
def pgMs3 : List Memo := [pgMemo 3 0, pgMemo 3 1, pgMemo 3 2, pgMemo 3 3, pgMemo 3 4, pgMemo 3 5, pgMemo 3 6, pgMemo 3 7, pgMemo 3 8]
theorem pgl_3 : pgRun pgMs3 2 = some (pgMet 2) := by kernel_rfl
end Go.Proofs.YtgeankpiediebaaGreat
end
