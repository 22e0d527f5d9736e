/-
  WholePages: its run of 7 turns, its steps being known.
-/
import Derived.Test.YtgeankpiediebaaGreatPgB
noncomputable section
namespace Go.Proofs.YtgeankpiediebaaGreat
open Go.Fx
set_option maxRecDepth 100000
def pgMs7 : List Memo := [pgMemo 7 0, pgMemo 7 1, pgMemo 7 2, pgMemo 7 3, pgMemo 7 4, pgMemo 7 5, pgMemo 7 6, pgMemo 7 7, pgMemo 7 8, pgMemo 7 9, pgMemo 7 10, pgMemo 7 11, pgMemo 7 12, pgMemo 7 13, pgMemo 7 14, pgMemo 7 15, pgMemo 7 16]
theorem pgl_7 : pgRun pgMs7 6 = some (pgMet 6) := by kernel_rfl
end Go.Proofs.YtgeankpiediebaaGreat
end
