/-
  WholePages: its run of 5 turns, its steps being known.
-/
import Derived.Test.YtgeankpiediebaaGreatPgB
noncomputable section
namespace Go.Proofs.YtgeankpiediebaaGreat
open Go.Fx
set_option maxRecDepth 100000
def pgMs5 : List Memo := [pgMemo 5 0, pgMemo 5 1, pgMemo 5 2, pgMemo 5 3, pgMemo 5 4, pgMemo 5 5, pgMemo 5 6, pgMemo 5 7, pgMemo 5 8, pgMemo 5 9, pgMemo 5 10, pgMemo 5 11, pgMemo 5 12]
theorem pgl_5 : pgRun pgMs5 4 = some (pgMet 4) := by kernel_rfl
end Go.Proofs.YtgeankpiediebaaGreat
end
