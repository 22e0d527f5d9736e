/-
  WholePages: its run of 8 turns, its steps being known.
-/
import Derived.Test.YtgeankpiediebaaGreatPgB
noncomputable section
namespace Go.Proofs.YtgeankpiediebaaGreat
open Go.Fx
set_option maxRecDepth 100000
def pgMs8 : List Memo := [pgMemo 8 0, pgMemo 8 1, pgMemo 8 2, pgMemo 8 3, pgMemo 8 4, pgMemo 8 5, pgMemo 8 6, pgMemo 8 7, pgMemo 8 8, pgMemo 8 9, pgMemo 8 10, pgMemo 8 11, pgMemo 8 12, pgMemo 8 13, pgMemo 8 14, pgMemo 8 15, pgMemo 8 16, pgMemo 8 17, pgMemo 8 18]
theorem pgl_8 : pgRun pgMs8 7 = some (pgMet 7) := by kernel_rfl
end Go.Proofs.YtgeankpiediebaaGreat
end
