/-
  No cell of these rows narrows 'for every input' (looked for: loops, veiled, ifaces, maps, wideKeys, modest, calm, conditions, laid).
  DERIVED. THE GIVEN ROWS OF THIS SEAT. 10 by the template 'for every input the law returns true; each argument reads behind the call as it read before'; 0 by the template 'total and deterministic' (their statements: YtepllnaopainpaaTotals.lean).
  GIVEN WITH THE SEED: the statements are not yours to turn. If you find one false, say at which input.
  Laid BY PROGRAM, IN A SANDBOX (cutbox-rows.mjs): the forced cells as the released guide's own fill.sh prints them over the translation 84109d0280ed2c2f… (all of the seat's roots in one cut). By AI agents, Wed Nov 11 2026. No macro, syntax, notation, axiom, sorry.
-/
import Derived.Test.YtepllnaopainpaaChecked
import GoSem.Claim
import GoSem.ClaimJoined
import GoSem.ClaimMapViews
import Derived.JoinedTies
import Derived.KernelRfl
namespace Go.Proofs.Ytepllnaopainpaa
/- THE CELL 'sum', in the pinned program and in every row, IS THE sha256 OF THE DUMP (.gsa) THAT YtepllnaopainpaaProg.lean LOADS. Nothing in Lean hashes anything: it is a label: what it is worth is what the hold of that sum in a sandbox is worth. -/
noncomputable def Try.pinned : Pinned := { name := "ytepllnaopainpaa", sum := "84109d0280ed2c2fad92c0beb8766e325ec80d4b2fb0504509f00ebd37e3d33b", checked := Try.checked }
namespace Rows
def none {H : Type} : Left H := { results := [], args := [] }

/-- 'ferrymanlaw8.AluWide': WHATEVER THE INPUT: true; the input reads as it did. -/
def aluWideSpec : ChangeSpec := { name := "aluWide", fn := fun _ => fun
  | [d1, d2, d3, d4, d5] => { results := [.lit (.bool true)], args := [d1, d2, d3, d4, d5] }
  | _ => none }
def aluWideRow : OpenClaim := { program := "ytepllnaopainpaa", sum := "84109d0280ed2c2fad92c0beb8766e325ec80d4b2fb0504509f00ebd37e3d33b", func := "ferryman/ferrymanlaw8.AluWide", spec := "aluWide", apart := false }
def AluWideSaid : Prop := aluWideRow.holds Try.pinned (OpenSpec.ofChange aluWideSpec)

/-- ITS FALSE NEIGHBOUR: 'it returns false'. Refute it at one input. -/
def aluWideWrong : ChangeSpec := { name := "aluWide", fn := fun _ => fun
  | [d1, d2, d3, d4, d5] => { results := [.lit (.bool false)], args := [d1, d2, d3, d4, d5] }
  | _ => none }
def AluWideWrongFalsely : Prop := aluWideRow.holds Try.pinned (OpenSpec.ofChange aluWideWrong)

/-- 'ferrymanlaw8.AluCompares': WHATEVER THE INPUT: true; the input reads as it did. -/
def aluComparesSpec : ChangeSpec := { name := "aluCompares", fn := fun _ => fun
  | [d1, d2, d3] => { results := [.lit (.bool true)], args := [d1, d2, d3] }
  | _ => none }
def aluComparesRow : OpenClaim := { program := "ytepllnaopainpaa", sum := "84109d0280ed2c2fad92c0beb8766e325ec80d4b2fb0504509f00ebd37e3d33b", func := "ferryman/ferrymanlaw8.AluCompares", spec := "aluCompares", apart := false }
def AluComparesSaid : Prop := aluComparesRow.holds Try.pinned (OpenSpec.ofChange aluComparesSpec)

/-- ITS FALSE NEIGHBOUR: 'it returns false'. Refute it at one input. -/
def aluComparesWrong : ChangeSpec := { name := "aluCompares", fn := fun _ => fun
  | [d1, d2, d3] => { results := [.lit (.bool false)], args := [d1, d2, d3] }
  | _ => none }
def AluComparesWrongFalsely : Prop := aluComparesRow.holds Try.pinned (OpenSpec.ofChange aluComparesWrong)

/-- 'ferrymanlaw8.AluLong': WHATEVER THE INPUT: true; the input reads as it did. -/
def aluLongSpec : ChangeSpec := { name := "aluLong", fn := fun _ => fun
  | [d1, d2, d3] => { results := [.lit (.bool true)], args := [d1, d2, d3] }
  | _ => none }
def aluLongRow : OpenClaim := { program := "ytepllnaopainpaa", sum := "84109d0280ed2c2fad92c0beb8766e325ec80d4b2fb0504509f00ebd37e3d33b", func := "ferryman/ferrymanlaw8.AluLong", spec := "aluLong", apart := false }
def AluLongSaid : Prop := aluLongRow.holds Try.pinned (OpenSpec.ofChange aluLongSpec)

/-- ITS FALSE NEIGHBOUR: 'it returns false'. Refute it at one input. -/
def aluLongWrong : ChangeSpec := { name := "aluLong", fn := fun _ => fun
  | [d1, d2, d3] => { results := [.lit (.bool false)], args := [d1, d2, d3] }
  | _ => none }
def AluLongWrongFalsely : Prop := aluLongRow.holds Try.pinned (OpenSpec.ofChange aluLongWrong)

/-- 'ferrymanlaw8.AluTurns': WHATEVER THE INPUT: true; the input reads as it did. -/
def aluTurnsSpec : ChangeSpec := { name := "aluTurns", fn := fun _ => fun
  | [d1, d2, d3] => { results := [.lit (.bool true)], args := [d1, d2, d3] }
  | _ => none }
def aluTurnsRow : OpenClaim := { program := "ytepllnaopainpaa", sum := "84109d0280ed2c2fad92c0beb8766e325ec80d4b2fb0504509f00ebd37e3d33b", func := "ferryman/ferrymanlaw8.AluTurns", spec := "aluTurns", apart := false }
def AluTurnsSaid : Prop := aluTurnsRow.holds Try.pinned (OpenSpec.ofChange aluTurnsSpec)

/-- ITS FALSE NEIGHBOUR: 'it returns false'. Refute it at one input. -/
def aluTurnsWrong : ChangeSpec := { name := "aluTurns", fn := fun _ => fun
  | [d1, d2, d3] => { results := [.lit (.bool false)], args := [d1, d2, d3] }
  | _ => none }
def AluTurnsWrongFalsely : Prop := aluTurnsRow.holds Try.pinned (OpenSpec.ofChange aluTurnsWrong)

/-- 'ferrymanlaw8.AluDivides': WHATEVER THE INPUT: true; the input reads as it did. -/
def aluDividesSpec : ChangeSpec := { name := "aluDivides", fn := fun _ => fun
  | [d1, d2, d3] => { results := [.lit (.bool true)], args := [d1, d2, d3] }
  | _ => none }
def aluDividesRow : OpenClaim := { program := "ytepllnaopainpaa", sum := "84109d0280ed2c2fad92c0beb8766e325ec80d4b2fb0504509f00ebd37e3d33b", func := "ferryman/ferrymanlaw8.AluDivides", spec := "aluDivides", apart := false }
def AluDividesSaid : Prop := aluDividesRow.holds Try.pinned (OpenSpec.ofChange aluDividesSpec)

/-- ITS FALSE NEIGHBOUR: 'it returns false'. Refute it at one input. -/
def aluDividesWrong : ChangeSpec := { name := "aluDivides", fn := fun _ => fun
  | [d1, d2, d3] => { results := [.lit (.bool false)], args := [d1, d2, d3] }
  | _ => none }
def AluDividesWrongFalsely : Prop := aluDividesRow.holds Try.pinned (OpenSpec.ofChange aluDividesWrong)

/-- 'ferrymanlaw8.AluSilent': WHATEVER THE INPUT: true; the input reads as it did. -/
def aluSilentSpec : ChangeSpec := { name := "aluSilent", fn := fun _ => fun
  | [d1, d2, d3, d4] => { results := [.lit (.bool true)], args := [d1, d2, d3, d4] }
  | _ => none }
def aluSilentRow : OpenClaim := { program := "ytepllnaopainpaa", sum := "84109d0280ed2c2fad92c0beb8766e325ec80d4b2fb0504509f00ebd37e3d33b", func := "ferryman/ferrymanlaw8.AluSilent", spec := "aluSilent", apart := false }
def AluSilentSaid : Prop := aluSilentRow.holds Try.pinned (OpenSpec.ofChange aluSilentSpec)

/-- ITS FALSE NEIGHBOUR: 'it returns false'. Refute it at one input. -/
def aluSilentWrong : ChangeSpec := { name := "aluSilent", fn := fun _ => fun
  | [d1, d2, d3, d4] => { results := [.lit (.bool false)], args := [d1, d2, d3, d4] }
  | _ => none }
def AluSilentWrongFalsely : Prop := aluSilentRow.holds Try.pinned (OpenSpec.ofChange aluSilentWrong)

/-- 'ferrymanlaw8.AluSteps': WHATEVER THE INPUT: true; the input reads as it did. -/
def aluStepsSpec : ChangeSpec := { name := "aluSteps", fn := fun _ => fun
  | [d1, d2] => { results := [.lit (.bool true)], args := [d1, d2] }
  | _ => none }
def aluStepsRow : OpenClaim := { program := "ytepllnaopainpaa", sum := "84109d0280ed2c2fad92c0beb8766e325ec80d4b2fb0504509f00ebd37e3d33b", func := "ferryman/ferrymanlaw8.AluSteps", spec := "aluSteps", apart := false }
def AluStepsSaid : Prop := aluStepsRow.holds Try.pinned (OpenSpec.ofChange aluStepsSpec)

/-- ITS FALSE NEIGHBOUR: 'it returns false'. Refute it at one input. -/
def aluStepsWrong : ChangeSpec := { name := "aluSteps", fn := fun _ => fun
  | [d1, d2] => { results := [.lit (.bool false)], args := [d1, d2] }
  | _ => none }
def AluStepsWrongFalsely : Prop := aluStepsRow.holds Try.pinned (OpenSpec.ofChange aluStepsWrong)

/-- 'ferrymanlaw8.AluBits': WHATEVER THE INPUT: true; the input reads as it did. -/
def aluBitsSpec : ChangeSpec := { name := "aluBits", fn := fun _ => fun
  | [d1, d2, d3, d4] => { results := [.lit (.bool true)], args := [d1, d2, d3, d4] }
  | _ => none }
def aluBitsRow : OpenClaim := { program := "ytepllnaopainpaa", sum := "84109d0280ed2c2fad92c0beb8766e325ec80d4b2fb0504509f00ebd37e3d33b", func := "ferryman/ferrymanlaw8.AluBits", spec := "aluBits", apart := false }
def AluBitsSaid : Prop := aluBitsRow.holds Try.pinned (OpenSpec.ofChange aluBitsSpec)

/-- ITS FALSE NEIGHBOUR: 'it returns false'. Refute it at one input. -/
def aluBitsWrong : ChangeSpec := { name := "aluBits", fn := fun _ => fun
  | [d1, d2, d3, d4] => { results := [.lit (.bool false)], args := [d1, d2, d3, d4] }
  | _ => none }
def AluBitsWrongFalsely : Prop := aluBitsRow.holds Try.pinned (OpenSpec.ofChange aluBitsWrong)

/-- 'ferrymanlaw8.AluShifts': WHATEVER THE INPUT: true; the input reads as it did. -/
def aluShiftsSpec : ChangeSpec := { name := "aluShifts", fn := fun _ => fun
  | [d1, d2, d3] => { results := [.lit (.bool true)], args := [d1, d2, d3] }
  | _ => none }
def aluShiftsRow : OpenClaim := { program := "ytepllnaopainpaa", sum := "84109d0280ed2c2fad92c0beb8766e325ec80d4b2fb0504509f00ebd37e3d33b", func := "ferryman/ferrymanlaw8.AluShifts", spec := "aluShifts", apart := false }
def AluShiftsSaid : Prop := aluShiftsRow.holds Try.pinned (OpenSpec.ofChange aluShiftsSpec)

/-- ITS FALSE NEIGHBOUR: 'it returns false'. Refute it at one input. -/
def aluShiftsWrong : ChangeSpec := { name := "aluShifts", fn := fun _ => fun
  | [d1, d2, d3] => { results := [.lit (.bool false)], args := [d1, d2, d3] }
  | _ => none }
def AluShiftsWrongFalsely : Prop := aluShiftsRow.holds Try.pinned (OpenSpec.ofChange aluShiftsWrong)

/-- 'ferrymanlaw8.AluProducts': WHATEVER THE INPUT: true; the input reads as it did. -/
def aluProductsSpec : ChangeSpec := { name := "aluProducts", fn := fun _ => fun
  | [d1, d2, d3] => { results := [.lit (.bool true)], args := [d1, d2, d3] }
  | _ => none }
def aluProductsRow : OpenClaim := { program := "ytepllnaopainpaa", sum := "84109d0280ed2c2fad92c0beb8766e325ec80d4b2fb0504509f00ebd37e3d33b", func := "ferryman/ferrymanlaw8.AluProducts", spec := "aluProducts", apart := false }
def AluProductsSaid : Prop := aluProductsRow.holds Try.pinned (OpenSpec.ofChange aluProductsSpec)

/-- ITS FALSE NEIGHBOUR: 'it returns false'. Refute it at one input. -/
def aluProductsWrong : ChangeSpec := { name := "aluProducts", fn := fun _ => fun
  | [d1, d2, d3] => { results := [.lit (.bool false)], args := [d1, d2, d3] }
  | _ => none }
def AluProductsWrongFalsely : Prop := aluProductsRow.holds Try.pinned (OpenSpec.ofChange aluProductsWrong)

/- THE SECOND FORM. 'bulk': how many values and letters a reading holds, each counted each time it is reached (what is shared counts as often as it is met; a slice's spare places count too). A statement '..UptoSaid' is the law's where the arguments, and the package variables that the reading takes, are together of bulk at most 1048576: NARROWER than '..Said'. Prove '..Said' where nothing that the law and all that it calls make is longer than what came in: it says more and counts as full. Else prove '..UptoSaid'. A law counts once. -/
mutual
def uptoBulk {H : Type} : DataW H → Nat
  | .lit (.string bytes) => bytes.length + 1
  | .lit _ => 1
  | .nil => 1
  | .ptr d => uptoBulk d + 1
  | .slice elems spare => uptoBulkAll elems + uptoBulkAll spare + 1
  | .agg parts => uptoBulkAll parts + 1
  | .iface _ d => uptoBulk d + 1
  | .map entries => uptoBulkEntries entries + 1
  | .held _ => 1
def uptoBulkAll {H : Type} : List (DataW H) → Nat
  | [] => 0
  | d :: r => uptoBulk d + uptoBulkAll r
def uptoBulkEntries {H : Type} : List (Lit × DataW H) → Nat
  | [] => 0
  | x :: r => uptoBulkEntry x + uptoBulkEntries r
def uptoBulkEntry {H : Type} : Lit × DataW H → Nat
  | (.string bytes, d) => bytes.length + uptoBulk d + 1
  | (_, d) => uptoBulk d + 1
 end
def uptoSmall : (H : Type) → List (DataW H) → Bool := fun _ ds => decide (uptoBulkAll ds ≤ 1048576)
def OpenSpec.upto (s : _root_.Go.ChangeSpec) : _root_.Go.OpenSpec := { _root_.Go.OpenSpec.ofChange s with cond := some uptoSmall }

/-- 'ferrymanlaw8.AluWide', WHERE WHAT IT READS IS OF BULK AT MOST 1048576: true; the input reads as it did. -/
def aluWideUptoRow : OpenClaim := { program := "ytepllnaopainpaa", sum := "84109d0280ed2c2fad92c0beb8766e325ec80d4b2fb0504509f00ebd37e3d33b", func := "ferryman/ferrymanlaw8.AluWide", spec := "aluWide", apart := false, narrowed := true }
def AluWideUptoSaid : Prop := aluWideUptoRow.holds Try.pinned (OpenSpec.upto aluWideSpec)

/-- 'ferrymanlaw8.AluCompares', WHERE WHAT IT READS IS OF BULK AT MOST 1048576: true; the input reads as it did. -/
def aluComparesUptoRow : OpenClaim := { program := "ytepllnaopainpaa", sum := "84109d0280ed2c2fad92c0beb8766e325ec80d4b2fb0504509f00ebd37e3d33b", func := "ferryman/ferrymanlaw8.AluCompares", spec := "aluCompares", apart := false, narrowed := true }
def AluComparesUptoSaid : Prop := aluComparesUptoRow.holds Try.pinned (OpenSpec.upto aluComparesSpec)

/-- 'ferrymanlaw8.AluLong', WHERE WHAT IT READS IS OF BULK AT MOST 1048576: true; the input reads as it did. -/
def aluLongUptoRow : OpenClaim := { program := "ytepllnaopainpaa", sum := "84109d0280ed2c2fad92c0beb8766e325ec80d4b2fb0504509f00ebd37e3d33b", func := "ferryman/ferrymanlaw8.AluLong", spec := "aluLong", apart := false, narrowed := true }
def AluLongUptoSaid : Prop := aluLongUptoRow.holds Try.pinned (OpenSpec.upto aluLongSpec)

/-- 'ferrymanlaw8.AluTurns', WHERE WHAT IT READS IS OF BULK AT MOST 1048576: true; the input reads as it did. -/
def aluTurnsUptoRow : OpenClaim := { program := "ytepllnaopainpaa", sum := "84109d0280ed2c2fad92c0beb8766e325ec80d4b2fb0504509f00ebd37e3d33b", func := "ferryman/ferrymanlaw8.AluTurns", spec := "aluTurns", apart := false, narrowed := true }
def AluTurnsUptoSaid : Prop := aluTurnsUptoRow.holds Try.pinned (OpenSpec.upto aluTurnsSpec)

/-- 'ferrymanlaw8.AluDivides', WHERE WHAT IT READS IS OF BULK AT MOST 1048576: true; the input reads as it did. -/
def aluDividesUptoRow : OpenClaim := { program := "ytepllnaopainpaa", sum := "84109d0280ed2c2fad92c0beb8766e325ec80d4b2fb0504509f00ebd37e3d33b", func := "ferryman/ferrymanlaw8.AluDivides", spec := "aluDivides", apart := false, narrowed := true }
def AluDividesUptoSaid : Prop := aluDividesUptoRow.holds Try.pinned (OpenSpec.upto aluDividesSpec)

/-- 'ferrymanlaw8.AluSilent', WHERE WHAT IT READS IS OF BULK AT MOST 1048576: true; the input reads as it did. -/
def aluSilentUptoRow : OpenClaim := { program := "ytepllnaopainpaa", sum := "84109d0280ed2c2fad92c0beb8766e325ec80d4b2fb0504509f00ebd37e3d33b", func := "ferryman/ferrymanlaw8.AluSilent", spec := "aluSilent", apart := false, narrowed := true }
def AluSilentUptoSaid : Prop := aluSilentUptoRow.holds Try.pinned (OpenSpec.upto aluSilentSpec)

/-- 'ferrymanlaw8.AluSteps', WHERE WHAT IT READS IS OF BULK AT MOST 1048576: true; the input reads as it did. -/
def aluStepsUptoRow : OpenClaim := { program := "ytepllnaopainpaa", sum := "84109d0280ed2c2fad92c0beb8766e325ec80d4b2fb0504509f00ebd37e3d33b", func := "ferryman/ferrymanlaw8.AluSteps", spec := "aluSteps", apart := false, narrowed := true }
def AluStepsUptoSaid : Prop := aluStepsUptoRow.holds Try.pinned (OpenSpec.upto aluStepsSpec)

/-- 'ferrymanlaw8.AluBits', WHERE WHAT IT READS IS OF BULK AT MOST 1048576: true; the input reads as it did. -/
def aluBitsUptoRow : OpenClaim := { program := "ytepllnaopainpaa", sum := "84109d0280ed2c2fad92c0beb8766e325ec80d4b2fb0504509f00ebd37e3d33b", func := "ferryman/ferrymanlaw8.AluBits", spec := "aluBits", apart := false, narrowed := true }
def AluBitsUptoSaid : Prop := aluBitsUptoRow.holds Try.pinned (OpenSpec.upto aluBitsSpec)

/-- 'ferrymanlaw8.AluShifts', WHERE WHAT IT READS IS OF BULK AT MOST 1048576: true; the input reads as it did. -/
def aluShiftsUptoRow : OpenClaim := { program := "ytepllnaopainpaa", sum := "84109d0280ed2c2fad92c0beb8766e325ec80d4b2fb0504509f00ebd37e3d33b", func := "ferryman/ferrymanlaw8.AluShifts", spec := "aluShifts", apart := false, narrowed := true }
def AluShiftsUptoSaid : Prop := aluShiftsUptoRow.holds Try.pinned (OpenSpec.upto aluShiftsSpec)

/-- 'ferrymanlaw8.AluProducts', WHERE WHAT IT READS IS OF BULK AT MOST 1048576: true; the input reads as it did. -/
def aluProductsUptoRow : OpenClaim := { program := "ytepllnaopainpaa", sum := "84109d0280ed2c2fad92c0beb8766e325ec80d4b2fb0504509f00ebd37e3d33b", func := "ferryman/ferrymanlaw8.AluProducts", spec := "aluProducts", apart := false, narrowed := true }
def AluProductsUptoSaid : Prop := aluProductsUptoRow.holds Try.pinned (OpenSpec.upto aluProductsSpec)

end Rows
end Go.Proofs.Ytepllnaopainpaa
