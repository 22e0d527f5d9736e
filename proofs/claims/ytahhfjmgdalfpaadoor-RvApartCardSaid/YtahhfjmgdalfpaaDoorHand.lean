/- Summaries of functions of layer 1 (program and document), out of their walks. -/
import Derived.Test.YtahhfjmgdalfpaaDoorBase
import Derived.Test.YtahhfjmgdalfpaaDoorBitsWalks
import Derived.Test.YtahhfjmgdalfpaaDoorRef1Loops
import Derived.Test.YtahhfjmgdalfpaaDoorDigits
import Derived.Test.YtahhfjmgdalfpaaDoorShelf
namespace Go.Proofs.YtahhfjmgdalfpaaDoor
open Go.Sx
set_option linter.unusedVariables false

theorem btField_ok : SumT Tryd.prog phi 35 btFieldS := handSum (fun xs w => Tryd.call35 xs w) (by
  intro a0 h0 a1 h1 a2 h2
  exact ⟨fun w => (bits_Field a0 a1 a2 (has_u32.1 h0).1 (has_u32.1 h0).2 w).mono fun e w' h => ⟨h.1, below_eq h.2⟩, has_u32.2 (fld_bd a0 a1 a2), trivial⟩)

theorem btSigned_ok : SumT Tryd.prog phi 46 btSignedS := handSum (fun xs w => Tryd.call46 xs w) (by
  intro a0 h0 a1 h1
  exact ⟨fun w => (bits_Signed a0 a1 (has_u32.1 h0).1 (has_u32.1 h0).2 w).mono fun e w' h => ⟨h.1, below_eq h.2⟩, has_i32.2 ⟨(sgn_bd a0 a1).1, by have := (sgn_bd a0 a1).2; show sgn a0 a1 < _; omega⟩, trivial⟩)

theorem rfField_ok : SumT Tryd.prog phi 40 rfFieldS := handSum (fun xs w => Tryd.call40 xs w) (by
  intro a0 h0 a1 h1 a2 h2
  exact ⟨fun w => (ref1_Field a0 a1 a2 (has_u32.1 h0).1 (has_u32.1 h0).2 w).mono fun e w' h => ⟨h.1, below_eq h.2⟩, has_u32.2 (fld_bd a0 a1 a2), trivial⟩)

theorem rfSigned_ok : SumT Tryd.prog phi 36 rfSignedS := handSum (fun xs w => Tryd.call36 xs w) (by
  intro a0 h0 a1 h1
  exact ⟨fun w => (ref1_Signed a0 a1 (has_u32.1 h0).1 (has_u32.1 h0).2 w).mono fun e w' h => ⟨h.1, below_eq h.2⟩, has_i32.2 ⟨(sgn_bd a0 a1).1, by have := (sgn_bd a0 a1).2; show sgn a0 a1 < _; omega⟩, trivial⟩)

theorem below_grow (w : World) (k : Nat) (os : Array Obj) : RowKit.Below w.heap.size w (Go.Sort.grow (w.drewN k) os) := by
  refine ⟨rfl, rfl, rfl, ?_, fun b hb => ?_⟩
  · show w.heap.size ≤ (w.heap ++ os).size
    simp
  · show (w.heap ++ os)[b]? = w.heap[b]?
    rw [Array.getElem?_append_left hb]

theorem scItoa_ok : SumT Tryd.prog phi 28 scItoaS := handSumP (fun xs w => Tryd.call28 xs w) (by
  intro a0 h0
  have b := has_i64.1 h0
  exact ⟨fun w p1 p2 => (Tryd.strconv_Itoa a0 b.1 (by omega) w p2).mono fun e w' ⟨he, k, os, hw⟩ => ⟨by rw [he, ← itoaB_of b.1 b.2]; rfl, hw ▸ below_grow w k os⟩, trivial⟩)

theorem rfDigits_ok : SumT Tryd.prog phi 31 rfDigitsS := handSum (fun xs w => Tryd.call31 xs w) (by
  intro a0 h0
  have b := has_i64.1 h0
  exact ⟨fun w => (ref3_digits a0 b.1 (by omega) w).mono fun e w' ⟨he, hw⟩ => ⟨by rw [he, ← itoaB_of b.1 b.2]; rfl, hw⟩, trivial⟩)

end Go.Proofs.YtahhfjmgdalfpaaDoor
