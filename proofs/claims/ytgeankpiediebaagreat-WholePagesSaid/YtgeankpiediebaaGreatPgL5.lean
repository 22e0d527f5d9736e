/-
  WholePages: its run of 6 turns, its steps being known.
-/
import Derived.Test.YtgeankpiediebaaGreatPgB
noncomputable section
namespace Go.Proofs.YtgeankpiediebaaGreat
open Go.Fx
set_option maxRecDepth 100000
def pgMs6 : List Memo := [pgMemo 6 0, pgMemo 6 1, pgMemo 6 2, pgMemo 6 3, pgMemo 6 4, pgMemo 6 5, pgMemo 6 6, pgMemo 6 7, pgMemo 6 8, pgMemo 6 9, pgMemo 6 10, pgMemo 6 11, pgMemo 6 12, pgMemo 6 13, pgMemo 6 14]
theorem pgl_6 : pgRun pgMs6 5 = some (pgMet 5) := by kernel_rfl
end Go.Proofs.YtgeankpiediebaaGreat
end
