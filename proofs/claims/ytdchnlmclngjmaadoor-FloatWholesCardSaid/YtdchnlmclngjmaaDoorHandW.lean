/- The summary of whole numbers' bits, out of its walk. -/
import Derived.Test.YtdchnlmclngjmaaDoorHand
import Derived.Test.YtdchnlmclngjmaaDoorFlW
namespace Go.Proofs.YtdchnlmclngjmaaDoor
open Go.Sx
theorem wholeU_bd (s u : Int) : 0 ≤ wholeU s u ∧ wholeU s u < 18446744073709551616 := by
  unfold wholeU
  show 0 ≤ IntKind.u64.wrap _ ∧ IntKind.u64.wrap _ < _
  rw [IntKind.wrap_u64]; omega
theorem wholeF_bd (n : Int) : 0 ≤ wholeF n ∧ wholeF n < 18446744073709551616 := by
  unfold wholeF
  split
  · decide
  split
  · exact wholeU_bd _ _
  · exact wholeU_bd _ _
theorem whole_ok : SumT Tryd.prog phi 25 wholeS := handSum (fun xs w => Tryd.call25 xs w) (by
  intro a0 h0
  have b := has_i64.1 h0
  exact ⟨fun w => (fl_whole a0 b.1 b.2 w).mono fun e w' h => ⟨h.1, below_eq h.2⟩, has_u64.2 (wholeF_bd _), trivial⟩)
end Go.Proofs.YtdchnlmclngjmaaDoor
