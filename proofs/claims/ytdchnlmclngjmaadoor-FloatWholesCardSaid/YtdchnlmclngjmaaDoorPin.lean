/-
  The package-level table that this seat's calls read: for trailing noughts.
-/
import Derived.Test.YtdchnlmclngjmaaDoorSxT
import Derived.Test.YtdchnlmclngjmaaDoorRows
import Derived.Lib.LaidTab
import Derived.KernelRfl
namespace Go.Proofs.YtdchnlmclngjmaaDoor
open Go.Sx
/-- the library's table for trailing noughts -/
def pinTab : List Int := [0, 1, 56, 2, 57, 49, 28, 3, 61, 58, 42, 50, 38, 29, 17, 4, 62, 47, 59, 36, 45, 43, 51, 22, 53, 39, 33, 30, 24, 18, 12, 5, 63, 55, 48, 27, 60, 41, 37, 16, 46, 35, 44, 21, 52, 32, 23, 11, 54, 26, 40, 15, 34, 20, 31, 10, 25, 14, 19, 9, 13, 8, 7, 6]
theorem pinG : Tryd.prog.globalNamed "math/bits.deBruijn64tab" = some 3 := by kernel_rfl
def PinI (w : World) : Prop := Lib.TabIs Tryd.prog w "math/bits.deBruijn64tab" .u8 pinTab
def pinW : World := { (default : World) with heap := #[.cells #[] 0 (0, 0), .cells #[] 0 (0, 0), .cells #[] 0 (0, 0), .cells (pinTab.map fun z => Value.int .u8 z).toArray 0 (0, 0)] }
theorem pin_ok : PinI pinW := by
  unfold PinI Lib.TabIs World.var?
  rw [pinG]
  rfl
theorem pin_keep (w w' : World) (h : ∀ b, b < 4 → w'.heap[b]? = w.heap[b]?) (i : PinI w) : PinI w' := by
  unfold PinI Lib.TabIs World.var? at *
  rw [pinG] at *
  simp only [Option.bind_some] at *
  rw [h 3 (by decide)]
  exact i
instance : Pins := { n := 4, I := PinI, wit := pinW, room := Nat.le_refl _, wit_ok := pin_ok, keep := pin_keep }
theorem pin_room {w : World} (i : PinI w) : Pins.n ≤ w.heap.size := by
  unfold PinI Lib.TabIs World.var? at i
  rw [pinG] at i
  simp only [Option.bind_some] at i
  show 4 ≤ w.heap.size
  rcases Nat.lt_or_ge 3 w.heap.size with h | h
  · exact h
  · have e : w.heap[3]? = none := Array.getElem?_eq_none h
    rw [e] at i
    cases i
end Go.Proofs.YtdchnlmclngjmaaDoor
