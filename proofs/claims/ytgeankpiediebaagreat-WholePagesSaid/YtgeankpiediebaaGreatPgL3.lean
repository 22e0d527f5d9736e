/-
  WholePages: its run of 4 turns, its steps being known.
-/
import Derived.Test.YtgeankpiediebaaGreatPgB
noncomputable section
namespace Go.Proofs.YtgeankpiediebaaGreat
open Go.Fx
set_option maxRecDepth 100000
def pgMs4 : List Memo := [pgMemo 4 0, pgMemo 4 1, pgMemo 4 2, pgMemo 4 3, pgMemo 4 4, pgMemo 4 5, pgMemo 4 6, pgMemo 4 7, pgMemo 4 8, pgMemo 4 9, pgMemo 4 10]
theorem pgl_4 : pgRun pgMs4 3 = some (pgMet 3) := by kernel_rfl
end Go.Proofs.YtgeankpiediebaaGreat
end
