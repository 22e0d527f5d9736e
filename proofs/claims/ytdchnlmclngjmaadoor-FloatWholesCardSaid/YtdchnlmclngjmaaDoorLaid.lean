/-
  What the row's listed tables give the walks: the table for trailing noughts; the door's own heap meets the condition.
-/
import Derived.Test.YtdchnlmclngjmaaDoorPin
import Derived.Test.YtdchnlmclngjmaaDoorRows
import Derived.ProofKit
import Derived.LaidMore
import Derived.OpenShut
import Derived.Stop.Joined
import Derived.Lib.LaidTab
namespace Go.Proofs.YtdchnlmclngjmaaDoor
open Go.Sx
open Go.ChangeShapes Go.WideShapes Go.ChangeAt Go.RowKit

theorem door_met (os : Os) (args : Array Value) : laidMetH Tryd.prog Rows.floatTellsRow.laid ((World.doorLaid Tryd.prog 400 os).forCall (fun _ _ => 0) ⟨#[], args, []⟩).memory :=
  laidMetH_of_parts3 (fuel := 8) (laidMet_of_run' 8 (by kernel_rfl) (by kernel_rfl)) (by kernel_rfl) (by kernel_rfl)

theorem tTab : (Tryd.prog.globals[3]?).map (·.type) = some 61 := by kernel_rfl
theorem tab_of {W : World} (h : laidMetH Tryd.prog Rows.floatTellsRow.laid W) : PinI W := by
  rw [MakeChecks.laidMetH_plain _ _ _ (by kernel_rfl)] at h
  obtain ⟨ps, ⟨g0, t0, cs0, f0, p0, q0, hg0, ht0, hv0, hd0, ⟨g1, t1, cs1, f1, p1, q1, hg1, ht1, hv1, hd1, ⟨g2, t2, cs2, f2, p2, q2, hg2, ht2, hv2, hd2, _, _⟩, _⟩, _⟩, _⟩ := h
  obtain rfl := Option.some.inj (pinG.symm.trans hg1)
  obtain rfl := Option.some.inj (tTab.symm.trans ht1)
  have e : (Rows.laid_math_bits_deBruijn64tab : DataW Unit) = Lib.tabData .u8 pinTab := by kernel_rfl
  rw [e] at hd1
  unfold PinI Lib.TabIs
  rw [hv1, ← Lib.cells_of_tab Tryd.underlying61 Tryd.underlying5 (by kernel_rfl) (by kernel_rfl) hd1]
end Go.Proofs.YtdchnlmclngjmaaDoor
