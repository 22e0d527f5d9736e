/-
  The package-level table that this seat's calls read: the powers of ten.
-/
import Derived.Test.YtahhfjmgdalfpaaDoorSxT
import Derived.Test.YtahhfjmgdalfpaaDoorRows
import Derived.Lib.LaidTab
import Derived.Lib.ItoaNum
import Derived.KernelRfl
namespace Go.Proofs.YtahhfjmgdalfpaaDoor
open Go.Sx
theorem pinG : Tryd.prog.globalNamed "internal/strconv.uint64pow10" = some 0 := by kernel_rfl
def PinI (w : World) : Prop := Lib.TabIs Tryd.prog w "internal/strconv.uint64pow10" .u64 Lib.pow10Tab
def pinW : World := { (default : World) with heap := #[.cells (Lib.pow10Tab.map fun z => Value.int .u64 z).toArray 0 (0, 0)] }
theorem pin_ok : PinI pinW := by
  unfold PinI Lib.TabIs World.var?
  rw [pinG]
  rfl
theorem pin_keep (w w' : World) (h : ∀ b, b < 1 → w'.heap[b]? = w.heap[b]?) (i : PinI w) : PinI w' := by
  unfold PinI Lib.TabIs World.var? at *
  rw [pinG] at *
  simp only [Option.bind_some] at *
  rw [h 0 (by decide)]
  exact i
instance : Pins := { n := 1, I := PinI, wit := pinW, room := Nat.le_refl _, wit_ok := pin_ok, keep := pin_keep }
theorem pin_room {w : World} (i : PinI w) : Pins.n ≤ w.heap.size := by
  unfold PinI Lib.TabIs World.var? at i
  rw [pinG] at i
  simp only [Option.bind_some] at i
  show 1 ≤ w.heap.size
  rcases Nat.lt_or_ge 0 w.heap.size with h | h
  · exact h
  · have e : w.heap[0]? = none := Array.getElem?_eq_none h
    rw [e] at i
    cases i
end Go.Proofs.YtahhfjmgdalfpaaDoor
