/-
  No cell of these rows narrows 'for every input' (looked for: loops, veiled, ifaces, maps, wideKeys, modest, calm, conditions, laid).
  DERIVED. THE GIVEN ROWS OF THIS SEAT. 7 by the template 'for every input the law returns true; each argument reads behind the call as it read before'; 0 by the template 'total and deterministic' (their statements: YtpclikbjpjoccaaTotals.lean).
  GIVEN WITH THE SEED: the statements are not yours to turn. If you find one false, say at which input.
  Laid BY PROGRAM, IN A SANDBOX (cutbox-rows.mjs): the forced cells as the released guide's own fill.sh prints them over the translation b137513c8af010b2… (all of the seat's roots in one cut). By AI agents, Wed Nov 11 2026. No macro, syntax, notation, axiom, sorry.
-/
import Derived.Test.YtpclikbjpjoccaaChecked
import GoSem.Claim
import GoSem.ClaimJoined
import GoSem.ClaimMapViews
import Derived.JoinedTies
import Derived.KernelRfl
namespace Go.Proofs.Ytpclikbjpjoccaa
/- THE CELL 'sum', in the pinned program and in every row, IS THE sha256 OF THE DUMP (.gsa) THAT YtpclikbjpjoccaaProg.lean LOADS. Nothing in Lean hashes anything: it is a label: what it is worth is what the hold of that sum in a sandbox is worth. -/
noncomputable def Try.pinned : Pinned := { name := "ytpclikbjpjoccaa", sum := "b137513c8af010b2952148be5470969cb54702143f9c97a58bc4e471de59103d", checked := Try.checked }
namespace Rows
def none {H : Type} : Left H := { results := [], args := [] }

/-- 'ferrymanlaw4.HostMemory': WHATEVER THE INPUT: true; the input reads as it did. -/
def hostMemorySpec : ChangeSpec := { name := "hostMemory", fn := fun _ => fun
  | [d] => { results := [.lit (.bool true)], args := [d] }
  | _ => none }
def hostMemoryRow : OpenClaim := { program := "ytpclikbjpjoccaa", sum := "b137513c8af010b2952148be5470969cb54702143f9c97a58bc4e471de59103d", func := "ferryman/ferrymanlaw4.HostMemory", spec := "hostMemory", unfollowed := true, recurses := true, plainKeys := false, apart := false }
def HostMemorySaid : Prop := hostMemoryRow.holds Try.pinned (OpenSpec.ofChange hostMemorySpec)

/-- ITS FALSE NEIGHBOUR: 'it returns false'. Refute it at one input. -/
def hostMemoryWrong : ChangeSpec := { name := "hostMemory", fn := fun _ => fun
  | [d] => { results := [.lit (.bool false)], args := [d] }
  | _ => none }
def HostMemoryWrongFalsely : Prop := hostMemoryRow.holds Try.pinned (OpenSpec.ofChange hostMemoryWrong)

/-- 'ferrymanlaw4.HostDivides': WHATEVER THE INPUT: true; the input reads as it did. -/
def hostDividesSpec : ChangeSpec := { name := "hostDivides", fn := fun _ => fun
  | [d1, d2] => { results := [.lit (.bool true)], args := [d1, d2] }
  | _ => none }
def hostDividesRow : OpenClaim := { program := "ytpclikbjpjoccaa", sum := "b137513c8af010b2952148be5470969cb54702143f9c97a58bc4e471de59103d", func := "ferryman/ferrymanlaw4.HostDivides", spec := "hostDivides", unfollowed := true, recurses := true, plainKeys := false, apart := false }
def HostDividesSaid : Prop := hostDividesRow.holds Try.pinned (OpenSpec.ofChange hostDividesSpec)

/-- ITS FALSE NEIGHBOUR: 'it returns false'. Refute it at one input. -/
def hostDividesWrong : ChangeSpec := { name := "hostDivides", fn := fun _ => fun
  | [d1, d2] => { results := [.lit (.bool false)], args := [d1, d2] }
  | _ => none }
def HostDividesWrongFalsely : Prop := hostDividesRow.holds Try.pinned (OpenSpec.ofChange hostDividesWrong)

/-- 'ferrymanlaw4.HostStops': WHATEVER THE INPUT: true; the input reads as it did. -/
def hostStopsSpec : ChangeSpec := { name := "hostStops", fn := fun _ => fun
  | [d1, d2, d3] => { results := [.lit (.bool true)], args := [d1, d2, d3] }
  | _ => none }
def hostStopsRow : OpenClaim := { program := "ytpclikbjpjoccaa", sum := "b137513c8af010b2952148be5470969cb54702143f9c97a58bc4e471de59103d", func := "ferryman/ferrymanlaw4.HostStops", spec := "hostStops", unfollowed := true, recurses := true, plainKeys := false, apart := false }
def HostStopsSaid : Prop := hostStopsRow.holds Try.pinned (OpenSpec.ofChange hostStopsSpec)

/-- ITS FALSE NEIGHBOUR: 'it returns false'. Refute it at one input. -/
def hostStopsWrong : ChangeSpec := { name := "hostStops", fn := fun _ => fun
  | [d1, d2, d3] => { results := [.lit (.bool false)], args := [d1, d2, d3] }
  | _ => none }
def HostStopsWrongFalsely : Prop := hostStopsRow.holds Try.pinned (OpenSpec.ofChange hostStopsWrong)

/-- 'ferrymanlaw4.HostSteps': WHATEVER THE INPUT: true; the input reads as it did. -/
def hostStepsSpec : ChangeSpec := { name := "hostSteps", fn := fun _ => fun
  | [d1, d2, d3, d4, d5] => { results := [.lit (.bool true)], args := [d1, d2, d3, d4, d5] }
  | _ => none }
def hostStepsRow : OpenClaim := { program := "ytpclikbjpjoccaa", sum := "b137513c8af010b2952148be5470969cb54702143f9c97a58bc4e471de59103d", func := "ferryman/ferrymanlaw4.HostSteps", spec := "hostSteps", unfollowed := true, recurses := true, plainKeys := false, apart := false }
def HostStepsSaid : Prop := hostStepsRow.holds Try.pinned (OpenSpec.ofChange hostStepsSpec)

/-- ITS FALSE NEIGHBOUR: 'it returns false'. Refute it at one input. -/
def hostStepsWrong : ChangeSpec := { name := "hostSteps", fn := fun _ => fun
  | [d1, d2, d3, d4, d5] => { results := [.lit (.bool false)], args := [d1, d2, d3, d4, d5] }
  | _ => none }
def HostStepsWrongFalsely : Prop := hostStepsRow.holds Try.pinned (OpenSpec.ofChange hostStepsWrong)

/-- 'ferrymanlaw4.HostLoops': WHATEVER THE INPUT: true; the input reads as it did. -/
def hostLoopsSpec : ChangeSpec := { name := "hostLoops", fn := fun _ => fun
  | [d1, d2] => { results := [.lit (.bool true)], args := [d1, d2] }
  | _ => none }
def hostLoopsRow : OpenClaim := { program := "ytpclikbjpjoccaa", sum := "b137513c8af010b2952148be5470969cb54702143f9c97a58bc4e471de59103d", func := "ferryman/ferrymanlaw4.HostLoops", spec := "hostLoops", unfollowed := true, recurses := true, plainKeys := false, apart := false }
def HostLoopsSaid : Prop := hostLoopsRow.holds Try.pinned (OpenSpec.ofChange hostLoopsSpec)

/-- ITS FALSE NEIGHBOUR: 'it returns false'. Refute it at one input. -/
def hostLoopsWrong : ChangeSpec := { name := "hostLoops", fn := fun _ => fun
  | [d1, d2] => { results := [.lit (.bool false)], args := [d1, d2] }
  | _ => none }
def HostLoopsWrongFalsely : Prop := hostLoopsRow.holds Try.pinned (OpenSpec.ofChange hostLoopsWrong)

/-- 'ferrymanlaw4.HostZero': WHATEVER THE INPUT: true; the input reads as it did. -/
def hostZeroSpec : ChangeSpec := { name := "hostZero", fn := fun _ => fun
  | [d1, d2, d3, d4] => { results := [.lit (.bool true)], args := [d1, d2, d3, d4] }
  | _ => none }
def hostZeroRow : OpenClaim := { program := "ytpclikbjpjoccaa", sum := "b137513c8af010b2952148be5470969cb54702143f9c97a58bc4e471de59103d", func := "ferryman/ferrymanlaw4.HostZero", spec := "hostZero", unfollowed := true, recurses := true, plainKeys := false, apart := false }
def HostZeroSaid : Prop := hostZeroRow.holds Try.pinned (OpenSpec.ofChange hostZeroSpec)

/-- ITS FALSE NEIGHBOUR: 'it returns false'. Refute it at one input. -/
def hostZeroWrong : ChangeSpec := { name := "hostZero", fn := fun _ => fun
  | [d1, d2, d3, d4] => { results := [.lit (.bool false)], args := [d1, d2, d3, d4] }
  | _ => none }
def HostZeroWrongFalsely : Prop := hostZeroRow.holds Try.pinned (OpenSpec.ofChange hostZeroWrong)

/-- 'ferrymanlaw4.HostRuns': WHATEVER THE INPUT: true; the input reads as it did. -/
def hostRunsSpec : ChangeSpec := { name := "hostRuns", fn := fun _ => fun
  | [d1, d2, d3, d4] => { results := [.lit (.bool true)], args := [d1, d2, d3, d4] }
  | _ => none }
def hostRunsRow : OpenClaim := { program := "ytpclikbjpjoccaa", sum := "b137513c8af010b2952148be5470969cb54702143f9c97a58bc4e471de59103d", func := "ferryman/ferrymanlaw4.HostRuns", spec := "hostRuns", unfollowed := true, recurses := true, plainKeys := false, apart := false }
def HostRunsSaid : Prop := hostRunsRow.holds Try.pinned (OpenSpec.ofChange hostRunsSpec)

/-- ITS FALSE NEIGHBOUR: 'it returns false'. Refute it at one input. -/
def hostRunsWrong : ChangeSpec := { name := "hostRuns", fn := fun _ => fun
  | [d1, d2, d3, d4] => { results := [.lit (.bool false)], args := [d1, d2, d3, d4] }
  | _ => none }
def HostRunsWrongFalsely : Prop := hostRunsRow.holds Try.pinned (OpenSpec.ofChange hostRunsWrong)

/- THE SECOND FORM. 'bulk': how many values and letters a reading holds, each counted each time it is reached (what is shared counts as often as it is met; a slice's spare places count too). A statement '..UptoSaid' is the law's where the arguments, and the package variables that the reading takes, are together of bulk at most 1048576: NARROWER than '..Said'. Prove '..Said' where nothing that the law and all that it calls make is longer than what came in: it says more and counts as full. Else prove '..UptoSaid'. A law counts once. -/
mutual
def uptoBulk {H : Type} : DataW H → Nat
  | .lit (.string bytes) => bytes.length + 1
  | .lit _ => 1
  | .nil => 1
  | .ptr d => uptoBulk d + 1
  | .slice elems spare => uptoBulkAll elems + uptoBulkAll spare + 1
  | .agg parts => uptoBulkAll parts + 1
  | .iface _ d => uptoBulk d + 1
  | .map entries => uptoBulkEntries entries + 1
  | .held _ => 1
def uptoBulkAll {H : Type} : List (DataW H) → Nat
  | [] => 0
  | d :: r => uptoBulk d + uptoBulkAll r
def uptoBulkEntries {H : Type} : List (Lit × DataW H) → Nat
  | [] => 0
  | x :: r => uptoBulkEntry x + uptoBulkEntries r
def uptoBulkEntry {H : Type} : Lit × DataW H → Nat
  | (.string bytes, d) => bytes.length + uptoBulk d + 1
  | (_, d) => uptoBulk d + 1
 end
def uptoSmall : (H : Type) → List (DataW H) → Bool := fun _ ds => decide (uptoBulkAll ds ≤ 1048576)
def OpenSpec.upto (s : _root_.Go.ChangeSpec) : _root_.Go.OpenSpec := { _root_.Go.OpenSpec.ofChange s with cond := some uptoSmall }

/-- 'ferrymanlaw4.HostMemory', WHERE WHAT IT READS IS OF BULK AT MOST 1048576: true; the input reads as it did. -/
def hostMemoryUptoRow : OpenClaim := { program := "ytpclikbjpjoccaa", sum := "b137513c8af010b2952148be5470969cb54702143f9c97a58bc4e471de59103d", func := "ferryman/ferrymanlaw4.HostMemory", spec := "hostMemory", unfollowed := true, recurses := true, plainKeys := false, apart := false, narrowed := true }
def HostMemoryUptoSaid : Prop := hostMemoryUptoRow.holds Try.pinned (OpenSpec.upto hostMemorySpec)

/-- 'ferrymanlaw4.HostDivides', WHERE WHAT IT READS IS OF BULK AT MOST 1048576: true; the input reads as it did. -/
def hostDividesUptoRow : OpenClaim := { program := "ytpclikbjpjoccaa", sum := "b137513c8af010b2952148be5470969cb54702143f9c97a58bc4e471de59103d", func := "ferryman/ferrymanlaw4.HostDivides", spec := "hostDivides", unfollowed := true, recurses := true, plainKeys := false, apart := false, narrowed := true }
def HostDividesUptoSaid : Prop := hostDividesUptoRow.holds Try.pinned (OpenSpec.upto hostDividesSpec)

/-- 'ferrymanlaw4.HostStops', WHERE WHAT IT READS IS OF BULK AT MOST 1048576: true; the input reads as it did. -/
def hostStopsUptoRow : OpenClaim := { program := "ytpclikbjpjoccaa", sum := "b137513c8af010b2952148be5470969cb54702143f9c97a58bc4e471de59103d", func := "ferryman/ferrymanlaw4.HostStops", spec := "hostStops", unfollowed := true, recurses := true, plainKeys := false, apart := false, narrowed := true }
def HostStopsUptoSaid : Prop := hostStopsUptoRow.holds Try.pinned (OpenSpec.upto hostStopsSpec)

/-- 'ferrymanlaw4.HostSteps', WHERE WHAT IT READS IS OF BULK AT MOST 1048576: true; the input reads as it did. -/
def hostStepsUptoRow : OpenClaim := { program := "ytpclikbjpjoccaa", sum := "b137513c8af010b2952148be5470969cb54702143f9c97a58bc4e471de59103d", func := "ferryman/ferrymanlaw4.HostSteps", spec := "hostSteps", unfollowed := true, recurses := true, plainKeys := false, apart := false, narrowed := true }
def HostStepsUptoSaid : Prop := hostStepsUptoRow.holds Try.pinned (OpenSpec.upto hostStepsSpec)

/-- 'ferrymanlaw4.HostLoops', WHERE WHAT IT READS IS OF BULK AT MOST 1048576: true; the input reads as it did. -/
def hostLoopsUptoRow : OpenClaim := { program := "ytpclikbjpjoccaa", sum := "b137513c8af010b2952148be5470969cb54702143f9c97a58bc4e471de59103d", func := "ferryman/ferrymanlaw4.HostLoops", spec := "hostLoops", unfollowed := true, recurses := true, plainKeys := false, apart := false, narrowed := true }
def HostLoopsUptoSaid : Prop := hostLoopsUptoRow.holds Try.pinned (OpenSpec.upto hostLoopsSpec)

/-- 'ferrymanlaw4.HostZero', WHERE WHAT IT READS IS OF BULK AT MOST 1048576: true; the input reads as it did. -/
def hostZeroUptoRow : OpenClaim := { program := "ytpclikbjpjoccaa", sum := "b137513c8af010b2952148be5470969cb54702143f9c97a58bc4e471de59103d", func := "ferryman/ferrymanlaw4.HostZero", spec := "hostZero", unfollowed := true, recurses := true, plainKeys := false, apart := false, narrowed := true }
def HostZeroUptoSaid : Prop := hostZeroUptoRow.holds Try.pinned (OpenSpec.upto hostZeroSpec)

/-- 'ferrymanlaw4.HostRuns', WHERE WHAT IT READS IS OF BULK AT MOST 1048576: true; the input reads as it did. -/
def hostRunsUptoRow : OpenClaim := { program := "ytpclikbjpjoccaa", sum := "b137513c8af010b2952148be5470969cb54702143f9c97a58bc4e471de59103d", func := "ferryman/ferrymanlaw4.HostRuns", spec := "hostRuns", unfollowed := true, recurses := true, plainKeys := false, apart := false, narrowed := true }
def HostRunsUptoSaid : Prop := hostRunsUptoRow.holds Try.pinned (OpenSpec.upto hostRunsSpec)

end Rows
end Go.Proofs.Ytpclikbjpjoccaa
