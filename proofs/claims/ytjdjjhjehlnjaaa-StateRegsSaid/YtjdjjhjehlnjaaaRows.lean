/-
  No cell of these rows narrows 'for every input' (looked for: loops, veiled, ifaces, maps, wideKeys, modest, calm, conditions, laid).
  DERIVED. THE GIVEN ROWS OF THIS SEAT. 6 by the template 'for every input the law returns true; each argument reads behind the call as it read before'; 0 by the template 'total and deterministic' (their statements: YtjdjjhjehlnjaaaTotals.lean).
  GIVEN WITH THE SEED: the statements are not yours to turn. If you find one false, say at which input.
  Laid BY PROGRAM, IN A SANDBOX (cutbox-rows.mjs): the forced cells as the released guide's own fill.sh prints them over the translation 101203a3b0ab2579… (all of the seat's roots in one cut). By AI agents, Wed Nov 11 2026. No macro, syntax, notation, axiom, sorry.
-/
import Derived.Test.YtjdjjhjehlnjaaaChecked
import GoSem.Claim
import GoSem.ClaimJoined
import GoSem.ClaimMapViews
import Derived.JoinedTies
import Derived.KernelRfl
namespace Go.Proofs.Ytjdjjhjehlnjaaa
/- THE CELL 'sum', in the pinned program and in every row, IS THE sha256 OF THE DUMP (.gsa) THAT YtjdjjhjehlnjaaaProg.lean LOADS. Nothing in Lean hashes anything: it is a label: what it is worth is what the hold of that sum in a sandbox is worth. -/
noncomputable def Try.pinned : Pinned := { name := "ytjdjjhjehlnjaaa", sum := "101203a3b0ab257987c01c02684da133abe9df9fe1cde0c45c29c5317c63e3ef", checked := Try.checked }
namespace Rows
def none {H : Type} : Left H := { results := [], args := [] }

/-- 'ferrymanlaw7.StatePuts': WHATEVER THE INPUT: true; the input reads as it did. -/
def statePutsSpec : ChangeSpec := { name := "statePuts", fn := fun _ => fun
  | [d1, d2, d3] => { results := [.lit (.bool true)], args := [d1, d2, d3] }
  | _ => none }
def statePutsRow : OpenClaim := { program := "ytjdjjhjehlnjaaa", sum := "101203a3b0ab257987c01c02684da133abe9df9fe1cde0c45c29c5317c63e3ef", func := "ferryman/ferrymanlaw7.StatePuts", spec := "statePuts", unfollowed := true, recurses := true, apart := false }
def StatePutsSaid : Prop := statePutsRow.holds Try.pinned (OpenSpec.ofChange statePutsSpec)

/-- ITS FALSE NEIGHBOUR: 'it returns false'. Refute it at one input. -/
def statePutsWrong : ChangeSpec := { name := "statePuts", fn := fun _ => fun
  | [d1, d2, d3] => { results := [.lit (.bool false)], args := [d1, d2, d3] }
  | _ => none }
def StatePutsWrongFalsely : Prop := statePutsRow.holds Try.pinned (OpenSpec.ofChange statePutsWrong)

/-- 'ferrymanlaw7.StateConds': WHATEVER THE INPUT: true; the input reads as it did. -/
def stateCondsSpec : ChangeSpec := { name := "stateConds", fn := fun _ => fun
  | [d1, d2, d3] => { results := [.lit (.bool true)], args := [d1, d2, d3] }
  | _ => none }
def stateCondsRow : OpenClaim := { program := "ytjdjjhjehlnjaaa", sum := "101203a3b0ab257987c01c02684da133abe9df9fe1cde0c45c29c5317c63e3ef", func := "ferryman/ferrymanlaw7.StateConds", spec := "stateConds", unfollowed := true, recurses := true, apart := false }
def StateCondsSaid : Prop := stateCondsRow.holds Try.pinned (OpenSpec.ofChange stateCondsSpec)

/-- ITS FALSE NEIGHBOUR: 'it returns false'. Refute it at one input. -/
def stateCondsWrong : ChangeSpec := { name := "stateConds", fn := fun _ => fun
  | [d1, d2, d3] => { results := [.lit (.bool false)], args := [d1, d2, d3] }
  | _ => none }
def StateCondsWrongFalsely : Prop := stateCondsRow.holds Try.pinned (OpenSpec.ofChange stateCondsWrong)

/-- 'ferrymanlaw7.StateFlags': WHATEVER THE INPUT: true; the input reads as it did. -/
def stateFlagsSpec : ChangeSpec := { name := "stateFlags", fn := fun _ => fun
  | [d1, d2] => { results := [.lit (.bool true)], args := [d1, d2] }
  | _ => none }
def stateFlagsRow : OpenClaim := { program := "ytjdjjhjehlnjaaa", sum := "101203a3b0ab257987c01c02684da133abe9df9fe1cde0c45c29c5317c63e3ef", func := "ferryman/ferrymanlaw7.StateFlags", spec := "stateFlags", unfollowed := true, recurses := true, apart := false }
def StateFlagsSaid : Prop := stateFlagsRow.holds Try.pinned (OpenSpec.ofChange stateFlagsSpec)

/-- ITS FALSE NEIGHBOUR: 'it returns false'. Refute it at one input. -/
def stateFlagsWrong : ChangeSpec := { name := "stateFlags", fn := fun _ => fun
  | [d1, d2] => { results := [.lit (.bool false)], args := [d1, d2] }
  | _ => none }
def StateFlagsWrongFalsely : Prop := stateFlagsRow.holds Try.pinned (OpenSpec.ofChange stateFlagsWrong)

/-- 'ferrymanlaw7.StateRegs': WHATEVER THE INPUT: true; the input reads as it did. -/
def stateRegsSpec : ChangeSpec := { name := "stateRegs", fn := fun _ => fun
  | [d1, d2, d3] => { results := [.lit (.bool true)], args := [d1, d2, d3] }
  | _ => none }
def stateRegsRow : OpenClaim := { program := "ytjdjjhjehlnjaaa", sum := "101203a3b0ab257987c01c02684da133abe9df9fe1cde0c45c29c5317c63e3ef", func := "ferryman/ferrymanlaw7.StateRegs", spec := "stateRegs", unfollowed := true, recurses := true, apart := false }
def StateRegsSaid : Prop := stateRegsRow.holds Try.pinned (OpenSpec.ofChange stateRegsSpec)

/-- ITS FALSE NEIGHBOUR: 'it returns false'. Refute it at one input. -/
def stateRegsWrong : ChangeSpec := { name := "stateRegs", fn := fun _ => fun
  | [d1, d2, d3] => { results := [.lit (.bool false)], args := [d1, d2, d3] }
  | _ => none }
def StateRegsWrongFalsely : Prop := stateRegsRow.holds Try.pinned (OpenSpec.ofChange stateRegsWrong)

/-- 'ferrymanlaw7.StateTells': WHATEVER THE INPUT: true; the input reads as it did. -/
def stateTellsSpec : ChangeSpec := { name := "stateTells", fn := fun _ => fun
  | [d1, d2, d3, d4, d5] => { results := [.lit (.bool true)], args := [d1, d2, d3, d4, d5] }
  | _ => none }
def stateTellsRow : OpenClaim := { program := "ytjdjjhjehlnjaaa", sum := "101203a3b0ab257987c01c02684da133abe9df9fe1cde0c45c29c5317c63e3ef", func := "ferryman/ferrymanlaw7.StateTells", spec := "stateTells", unfollowed := true, recurses := true, apart := false }
def StateTellsSaid : Prop := stateTellsRow.holds Try.pinned (OpenSpec.ofChange stateTellsSpec)

/-- ITS FALSE NEIGHBOUR: 'it returns false'. Refute it at one input. -/
def stateTellsWrong : ChangeSpec := { name := "stateTells", fn := fun _ => fun
  | [d1, d2, d3, d4, d5] => { results := [.lit (.bool false)], args := [d1, d2, d3, d4, d5] }
  | _ => none }
def StateTellsWrongFalsely : Prop := stateTellsRow.holds Try.pinned (OpenSpec.ofChange stateTellsWrong)

/-- 'ferrymanlaw7.StateBytes': WHATEVER THE INPUT: true; the input reads as it did. -/
def stateBytesSpec : ChangeSpec := { name := "stateBytes", fn := fun _ => fun
  | [d1, d2, d3] => { results := [.lit (.bool true)], args := [d1, d2, d3] }
  | _ => none }
def stateBytesRow : OpenClaim := { program := "ytjdjjhjehlnjaaa", sum := "101203a3b0ab257987c01c02684da133abe9df9fe1cde0c45c29c5317c63e3ef", func := "ferryman/ferrymanlaw7.StateBytes", spec := "stateBytes", unfollowed := true, recurses := true, apart := false }
def StateBytesSaid : Prop := stateBytesRow.holds Try.pinned (OpenSpec.ofChange stateBytesSpec)

/-- ITS FALSE NEIGHBOUR: 'it returns false'. Refute it at one input. -/
def stateBytesWrong : ChangeSpec := { name := "stateBytes", fn := fun _ => fun
  | [d1, d2, d3] => { results := [.lit (.bool false)], args := [d1, d2, d3] }
  | _ => none }
def StateBytesWrongFalsely : Prop := stateBytesRow.holds Try.pinned (OpenSpec.ofChange stateBytesWrong)

/- THE SECOND FORM. 'bulk': how many values and letters a reading holds, each counted each time it is reached (what is shared counts as often as it is met; a slice's spare places count too). A statement '..UptoSaid' is the law's where the arguments, and the package variables that the reading takes, are together of bulk at most 1048576: NARROWER than '..Said'. Prove '..Said' where nothing that the law and all that it calls make is longer than what came in: it says more and counts as full. Else prove '..UptoSaid'. A law counts once. -/
mutual
def uptoBulk {H : Type} : DataW H → Nat
  | .lit (.string bytes) => bytes.length + 1
  | .lit _ => 1
  | .nil => 1
  | .ptr d => uptoBulk d + 1
  | .slice elems spare => uptoBulkAll elems + uptoBulkAll spare + 1
  | .agg parts => uptoBulkAll parts + 1
  | .iface _ d => uptoBulk d + 1
  | .map entries => uptoBulkEntries entries + 1
  | .held _ => 1
def uptoBulkAll {H : Type} : List (DataW H) → Nat
  | [] => 0
  | d :: r => uptoBulk d + uptoBulkAll r
def uptoBulkEntries {H : Type} : List (Lit × DataW H) → Nat
  | [] => 0
  | x :: r => uptoBulkEntry x + uptoBulkEntries r
def uptoBulkEntry {H : Type} : Lit × DataW H → Nat
  | (.string bytes, d) => bytes.length + uptoBulk d + 1
  | (_, d) => uptoBulk d + 1
 end
def uptoSmall : (H : Type) → List (DataW H) → Bool := fun _ ds => decide (uptoBulkAll ds ≤ 1048576)
def OpenSpec.upto (s : _root_.Go.ChangeSpec) : _root_.Go.OpenSpec := { _root_.Go.OpenSpec.ofChange s with cond := some uptoSmall }

/-- 'ferrymanlaw7.StatePuts', WHERE WHAT IT READS IS OF BULK AT MOST 1048576: true; the input reads as it did. -/
def statePutsUptoRow : OpenClaim := { program := "ytjdjjhjehlnjaaa", sum := "101203a3b0ab257987c01c02684da133abe9df9fe1cde0c45c29c5317c63e3ef", func := "ferryman/ferrymanlaw7.StatePuts", spec := "statePuts", unfollowed := true, recurses := true, apart := false, narrowed := true }
def StatePutsUptoSaid : Prop := statePutsUptoRow.holds Try.pinned (OpenSpec.upto statePutsSpec)

/-- 'ferrymanlaw7.StateConds', WHERE WHAT IT READS IS OF BULK AT MOST 1048576: true; the input reads as it did. -/
def stateCondsUptoRow : OpenClaim := { program := "ytjdjjhjehlnjaaa", sum := "101203a3b0ab257987c01c02684da133abe9df9fe1cde0c45c29c5317c63e3ef", func := "ferryman/ferrymanlaw7.StateConds", spec := "stateConds", unfollowed := true, recurses := true, apart := false, narrowed := true }
def StateCondsUptoSaid : Prop := stateCondsUptoRow.holds Try.pinned (OpenSpec.upto stateCondsSpec)

/-- 'ferrymanlaw7.StateFlags', WHERE WHAT IT READS IS OF BULK AT MOST 1048576: true; the input reads as it did. -/
def stateFlagsUptoRow : OpenClaim := { program := "ytjdjjhjehlnjaaa", sum := "101203a3b0ab257987c01c02684da133abe9df9fe1cde0c45c29c5317c63e3ef", func := "ferryman/ferrymanlaw7.StateFlags", spec := "stateFlags", unfollowed := true, recurses := true, apart := false, narrowed := true }
def StateFlagsUptoSaid : Prop := stateFlagsUptoRow.holds Try.pinned (OpenSpec.upto stateFlagsSpec)

/-- 'ferrymanlaw7.StateRegs', WHERE WHAT IT READS IS OF BULK AT MOST 1048576: true; the input reads as it did. -/
def stateRegsUptoRow : OpenClaim := { program := "ytjdjjhjehlnjaaa", sum := "101203a3b0ab257987c01c02684da133abe9df9fe1cde0c45c29c5317c63e3ef", func := "ferryman/ferrymanlaw7.StateRegs", spec := "stateRegs", unfollowed := true, recurses := true, apart := false, narrowed := true }
def StateRegsUptoSaid : Prop := stateRegsUptoRow.holds Try.pinned (OpenSpec.upto stateRegsSpec)

/-- 'ferrymanlaw7.StateTells', WHERE WHAT IT READS IS OF BULK AT MOST 1048576: true; the input reads as it did. -/
def stateTellsUptoRow : OpenClaim := { program := "ytjdjjhjehlnjaaa", sum := "101203a3b0ab257987c01c02684da133abe9df9fe1cde0c45c29c5317c63e3ef", func := "ferryman/ferrymanlaw7.StateTells", spec := "stateTells", unfollowed := true, recurses := true, apart := false, narrowed := true }
def StateTellsUptoSaid : Prop := stateTellsUptoRow.holds Try.pinned (OpenSpec.upto stateTellsSpec)

/-- 'ferrymanlaw7.StateBytes', WHERE WHAT IT READS IS OF BULK AT MOST 1048576: true; the input reads as it did. -/
def stateBytesUptoRow : OpenClaim := { program := "ytjdjjhjehlnjaaa", sum := "101203a3b0ab257987c01c02684da133abe9df9fe1cde0c45c29c5317c63e3ef", func := "ferryman/ferrymanlaw7.StateBytes", spec := "stateBytes", unfollowed := true, recurses := true, apart := false, narrowed := true }
def StateBytesUptoSaid : Prop := stateBytesUptoRow.holds Try.pinned (OpenSpec.upto stateBytesSpec)

end Rows
end Go.Proofs.Ytjdjjhjehlnjaaa
