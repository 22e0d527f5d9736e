/-
  No cell of these rows narrows 'for every input' (looked for: loops, veiled, ifaces, maps, wideKeys, modest, calm, conditions, laid).
  DERIVED. THE GIVEN ROWS OF THIS SEAT. 8 by the template 'for every input the law returns true; each argument reads behind the call as it read before'; 0 by the template 'total and deterministic' (their statements: YtgeankpiediebaaGreatTotals.lean).
  GIVEN WITH THE SEED: the statements are not yours to turn. If you find one false, say at which input.
  Laid BY PROGRAM, IN A SANDBOX (cutbox-rows.mjs): the forced cells as the released guide's own fill.sh prints them over the translation 62c7f3b325098a1e… (all of the seat's roots in one cut). By AI agents, Wed Nov 11 2026. No macro, syntax, notation, axiom, sorry.
-/
import Derived.Test.YtgeankpiediebaaGreatChecked
import GoSem.Claim
import GoSem.ClaimJoined
import GoSem.ClaimMapViews
import Derived.JoinedTies
import Derived.KernelRfl
namespace Go.Proofs.YtgeankpiediebaaGreat
/- THE CELL 'sum', in the pinned program and in every row, IS THE sha256 OF THE DUMP (.gsa) THAT YtgeankpiediebaaGreatProg.lean LOADS. Nothing in Lean hashes anything: it is a label: what it is worth is what the hold of that sum in a sandbox is worth. -/
noncomputable def Tryz.pinned : Pinned := { name := "ytgeankpiediebaagreat", sum := "62c7f3b325098a1ef8b99e9dfac9261b8a0ad9f326ae5a7e32f7610f0fdf24b1", checked := Tryz.checked }
namespace Rows
def none {H : Type} : Left H := { results := [], args := [] }

/-- 'ferrymantop.WholePages': WHATEVER THE INPUT: true; the input reads as it did. -/
def wholePagesSpec : ChangeSpec := { name := "wholePages", fn := fun _ => fun
  | [d] => { results := [.lit (.bool true)], args := [d] }
  | _ => none }
def wholePagesRow : OpenClaim := { program := "ytgeankpiediebaagreat", sum := "62c7f3b325098a1ef8b99e9dfac9261b8a0ad9f326ae5a7e32f7610f0fdf24b1", func := "ferryman/ferrymantop.WholePages", spec := "wholePages", inPlace := ["math.Float64frombits", "math.Float64bits"], unfollowed := true, recurses := true, plainKeys := false, apart := false }
def WholePagesSaid : Prop := wholePagesRow.holds Tryz.pinned (OpenSpec.ofChange wholePagesSpec)

/-- ITS FALSE NEIGHBOUR: 'it returns false'. Refute it at one input. -/
def wholePagesWrong : ChangeSpec := { name := "wholePages", fn := fun _ => fun
  | [d] => { results := [.lit (.bool false)], args := [d] }
  | _ => none }
def WholePagesWrongFalsely : Prop := wholePagesRow.holds Tryz.pinned (OpenSpec.ofChange wholePagesWrong)

/-- 'ferrymantop.WholeJumps': WHATEVER THE INPUT: true; the input reads as it did. -/
def wholeJumpsSpec : ChangeSpec := { name := "wholeJumps", fn := fun _ => fun
  | [d1, d2] => { results := [.lit (.bool true)], args := [d1, d2] }
  | _ => none }
def wholeJumpsRow : OpenClaim := { program := "ytgeankpiediebaagreat", sum := "62c7f3b325098a1ef8b99e9dfac9261b8a0ad9f326ae5a7e32f7610f0fdf24b1", func := "ferryman/ferrymantop.WholeJumps", spec := "wholeJumps", inPlace := ["math.Float64frombits", "math.Float64bits"], unfollowed := true, recurses := true, plainKeys := false, apart := false }
def WholeJumpsSaid : Prop := wholeJumpsRow.holds Tryz.pinned (OpenSpec.ofChange wholeJumpsSpec)

/-- ITS FALSE NEIGHBOUR: 'it returns false'. Refute it at one input. -/
def wholeJumpsWrong : ChangeSpec := { name := "wholeJumps", fn := fun _ => fun
  | [d1, d2] => { results := [.lit (.bool false)], args := [d1, d2] }
  | _ => none }
def WholeJumpsWrongFalsely : Prop := wholeJumpsRow.holds Tryz.pinned (OpenSpec.ofChange wholeJumpsWrong)

/-- 'ferrymantop.WholeCalls': WHATEVER THE INPUT: true; the input reads as it did. -/
def wholeCallsSpec : ChangeSpec := { name := "wholeCalls", fn := fun _ => fun
  | [d1, d2] => { results := [.lit (.bool true)], args := [d1, d2] }
  | _ => none }
def wholeCallsRow : OpenClaim := { program := "ytgeankpiediebaagreat", sum := "62c7f3b325098a1ef8b99e9dfac9261b8a0ad9f326ae5a7e32f7610f0fdf24b1", func := "ferryman/ferrymantop.WholeCalls", spec := "wholeCalls", inPlace := ["math.Float64frombits", "math.Float64bits"], unfollowed := true, recurses := true, plainKeys := false, apart := false }
def WholeCallsSaid : Prop := wholeCallsRow.holds Tryz.pinned (OpenSpec.ofChange wholeCallsSpec)

/-- ITS FALSE NEIGHBOUR: 'it returns false'. Refute it at one input. -/
def wholeCallsWrong : ChangeSpec := { name := "wholeCalls", fn := fun _ => fun
  | [d1, d2] => { results := [.lit (.bool false)], args := [d1, d2] }
  | _ => none }
def WholeCallsWrongFalsely : Prop := wholeCallsRow.holds Tryz.pinned (OpenSpec.ofChange wholeCallsWrong)

/-- 'ferrymantop.WholeFlags': WHATEVER THE INPUT: true; the input reads as it did. -/
def wholeFlagsSpec : ChangeSpec := { name := "wholeFlags", fn := fun _ => fun
  | [d1, d2, d3, d4, d5] => { results := [.lit (.bool true)], args := [d1, d2, d3, d4, d5] }
  | _ => none }
def wholeFlagsRow : OpenClaim := { program := "ytgeankpiediebaagreat", sum := "62c7f3b325098a1ef8b99e9dfac9261b8a0ad9f326ae5a7e32f7610f0fdf24b1", func := "ferryman/ferrymantop.WholeFlags", spec := "wholeFlags", inPlace := ["math.Float64frombits", "math.Float64bits"], unfollowed := true, recurses := true, plainKeys := false, apart := false }
def WholeFlagsSaid : Prop := wholeFlagsRow.holds Tryz.pinned (OpenSpec.ofChange wholeFlagsSpec)

/-- ITS FALSE NEIGHBOUR: 'it returns false'. Refute it at one input. -/
def wholeFlagsWrong : ChangeSpec := { name := "wholeFlags", fn := fun _ => fun
  | [d1, d2, d3, d4, d5] => { results := [.lit (.bool false)], args := [d1, d2, d3, d4, d5] }
  | _ => none }
def WholeFlagsWrongFalsely : Prop := wholeFlagsRow.holds Tryz.pinned (OpenSpec.ofChange wholeFlagsWrong)

/-- 'ferrymantop.WholeDivides': WHATEVER THE INPUT: true; the input reads as it did. -/
def wholeDividesSpec : ChangeSpec := { name := "wholeDivides", fn := fun _ => fun
  | [d1, d2, d3, d4] => { results := [.lit (.bool true)], args := [d1, d2, d3, d4] }
  | _ => none }
def wholeDividesRow : OpenClaim := { program := "ytgeankpiediebaagreat", sum := "62c7f3b325098a1ef8b99e9dfac9261b8a0ad9f326ae5a7e32f7610f0fdf24b1", func := "ferryman/ferrymantop.WholeDivides", spec := "wholeDivides", inPlace := ["math.Float64frombits", "math.Float64bits"], unfollowed := true, recurses := true, plainKeys := false, apart := false }
def WholeDividesSaid : Prop := wholeDividesRow.holds Tryz.pinned (OpenSpec.ofChange wholeDividesSpec)

/-- ITS FALSE NEIGHBOUR: 'it returns false'. Refute it at one input. -/
def wholeDividesWrong : ChangeSpec := { name := "wholeDivides", fn := fun _ => fun
  | [d1, d2, d3, d4] => { results := [.lit (.bool false)], args := [d1, d2, d3, d4] }
  | _ => none }
def WholeDividesWrongFalsely : Prop := wholeDividesRow.holds Tryz.pinned (OpenSpec.ofChange wholeDividesWrong)

/-- 'ferrymantop.WholeOther': WHATEVER THE INPUT: true; the input reads as it did. -/
def wholeOtherSpec : ChangeSpec := { name := "wholeOther", fn := fun _ => fun
  | [d1, d2] => { results := [.lit (.bool true)], args := [d1, d2] }
  | _ => none }
def wholeOtherRow : OpenClaim := { program := "ytgeankpiediebaagreat", sum := "62c7f3b325098a1ef8b99e9dfac9261b8a0ad9f326ae5a7e32f7610f0fdf24b1", func := "ferryman/ferrymantop.WholeOther", spec := "wholeOther", inPlace := ["math.Float64frombits", "math.Float64bits"], unfollowed := true, recurses := true, plainKeys := false, apart := false }
def WholeOtherSaid : Prop := wholeOtherRow.holds Tryz.pinned (OpenSpec.ofChange wholeOtherSpec)

/-- ITS FALSE NEIGHBOUR: 'it returns false'. Refute it at one input. -/
def wholeOtherWrong : ChangeSpec := { name := "wholeOther", fn := fun _ => fun
  | [d1, d2] => { results := [.lit (.bool false)], args := [d1, d2] }
  | _ => none }
def WholeOtherWrongFalsely : Prop := wholeOtherRow.holds Tryz.pinned (OpenSpec.ofChange wholeOtherWrong)

/-- 'ferrymantop.WholeShifts': WHATEVER THE INPUT: true; the input reads as it did. -/
def wholeShiftsSpec : ChangeSpec := { name := "wholeShifts", fn := fun _ => fun
  | [d1, d2, d3, d4] => { results := [.lit (.bool true)], args := [d1, d2, d3, d4] }
  | _ => none }
def wholeShiftsRow : OpenClaim := { program := "ytgeankpiediebaagreat", sum := "62c7f3b325098a1ef8b99e9dfac9261b8a0ad9f326ae5a7e32f7610f0fdf24b1", func := "ferryman/ferrymantop.WholeShifts", spec := "wholeShifts", inPlace := ["math.Float64frombits", "math.Float64bits"], unfollowed := true, recurses := true, plainKeys := false, apart := false }
def WholeShiftsSaid : Prop := wholeShiftsRow.holds Tryz.pinned (OpenSpec.ofChange wholeShiftsSpec)

/-- ITS FALSE NEIGHBOUR: 'it returns false'. Refute it at one input. -/
def wholeShiftsWrong : ChangeSpec := { name := "wholeShifts", fn := fun _ => fun
  | [d1, d2, d3, d4] => { results := [.lit (.bool false)], args := [d1, d2, d3, d4] }
  | _ => none }
def WholeShiftsWrongFalsely : Prop := wholeShiftsRow.holds Tryz.pinned (OpenSpec.ofChange wholeShiftsWrong)

/-- 'ferrymantop.WholeLong': WHATEVER THE INPUT: true; the input reads as it did. -/
def wholeLongSpec : ChangeSpec := { name := "wholeLong", fn := fun _ => fun
  | [d1, d2, d3] => { results := [.lit (.bool true)], args := [d1, d2, d3] }
  | _ => none }
def wholeLongRow : OpenClaim := { program := "ytgeankpiediebaagreat", sum := "62c7f3b325098a1ef8b99e9dfac9261b8a0ad9f326ae5a7e32f7610f0fdf24b1", func := "ferryman/ferrymantop.WholeLong", spec := "wholeLong", inPlace := ["math.Float64frombits", "math.Float64bits"], unfollowed := true, recurses := true, plainKeys := false, apart := false }
def WholeLongSaid : Prop := wholeLongRow.holds Tryz.pinned (OpenSpec.ofChange wholeLongSpec)

/-- ITS FALSE NEIGHBOUR: 'it returns false'. Refute it at one input. -/
def wholeLongWrong : ChangeSpec := { name := "wholeLong", fn := fun _ => fun
  | [d1, d2, d3] => { results := [.lit (.bool false)], args := [d1, d2, d3] }
  | _ => none }
def WholeLongWrongFalsely : Prop := wholeLongRow.holds Tryz.pinned (OpenSpec.ofChange wholeLongWrong)

/- THE SECOND FORM. 'bulk': how many values and letters a reading holds, each counted each time it is reached (what is shared counts as often as it is met; a slice's spare places count too). A statement '..UptoSaid' is the law's where the arguments, and the package variables that the reading takes, are together of bulk at most 1048576: NARROWER than '..Said'. Prove '..Said' where nothing that the law and all that it calls make is longer than what came in: it says more and counts as full. Else prove '..UptoSaid'. A law counts once. -/
mutual
def uptoBulk {H : Type} : DataW H → Nat
  | .lit (.string bytes) => bytes.length + 1
  | .lit _ => 1
  | .nil => 1
  | .ptr d => uptoBulk d + 1
  | .slice elems spare => uptoBulkAll elems + uptoBulkAll spare + 1
  | .agg parts => uptoBulkAll parts + 1
  | .iface _ d => uptoBulk d + 1
  | .map entries => uptoBulkEntries entries + 1
  | .held _ => 1
def uptoBulkAll {H : Type} : List (DataW H) → Nat
  | [] => 0
  | d :: r => uptoBulk d + uptoBulkAll r
def uptoBulkEntries {H : Type} : List (Lit × DataW H) → Nat
  | [] => 0
  | x :: r => uptoBulkEntry x + uptoBulkEntries r
def uptoBulkEntry {H : Type} : Lit × DataW H → Nat
  | (.string bytes, d) => bytes.length + uptoBulk d + 1
  | (_, d) => uptoBulk d + 1
 end
def uptoSmall : (H : Type) → List (DataW H) → Bool := fun _ ds => decide (uptoBulkAll ds ≤ 1048576)
def OpenSpec.upto (s : _root_.Go.ChangeSpec) : _root_.Go.OpenSpec := { _root_.Go.OpenSpec.ofChange s with cond := some uptoSmall }

/-- 'ferrymantop.WholePages', WHERE WHAT IT READS IS OF BULK AT MOST 1048576: true; the input reads as it did. -/
def wholePagesUptoRow : OpenClaim := { program := "ytgeankpiediebaagreat", sum := "62c7f3b325098a1ef8b99e9dfac9261b8a0ad9f326ae5a7e32f7610f0fdf24b1", func := "ferryman/ferrymantop.WholePages", spec := "wholePages", inPlace := ["math.Float64frombits", "math.Float64bits"], unfollowed := true, recurses := true, plainKeys := false, apart := false, narrowed := true }
def WholePagesUptoSaid : Prop := wholePagesUptoRow.holds Tryz.pinned (OpenSpec.upto wholePagesSpec)

/-- 'ferrymantop.WholeJumps', WHERE WHAT IT READS IS OF BULK AT MOST 1048576: true; the input reads as it did. -/
def wholeJumpsUptoRow : OpenClaim := { program := "ytgeankpiediebaagreat", sum := "62c7f3b325098a1ef8b99e9dfac9261b8a0ad9f326ae5a7e32f7610f0fdf24b1", func := "ferryman/ferrymantop.WholeJumps", spec := "wholeJumps", inPlace := ["math.Float64frombits", "math.Float64bits"], unfollowed := true, recurses := true, plainKeys := false, apart := false, narrowed := true }
def WholeJumpsUptoSaid : Prop := wholeJumpsUptoRow.holds Tryz.pinned (OpenSpec.upto wholeJumpsSpec)

/-- 'ferrymantop.WholeCalls', WHERE WHAT IT READS IS OF BULK AT MOST 1048576: true; the input reads as it did. -/
def wholeCallsUptoRow : OpenClaim := { program := "ytgeankpiediebaagreat", sum := "62c7f3b325098a1ef8b99e9dfac9261b8a0ad9f326ae5a7e32f7610f0fdf24b1", func := "ferryman/ferrymantop.WholeCalls", spec := "wholeCalls", inPlace := ["math.Float64frombits", "math.Float64bits"], unfollowed := true, recurses := true, plainKeys := false, apart := false, narrowed := true }
def WholeCallsUptoSaid : Prop := wholeCallsUptoRow.holds Tryz.pinned (OpenSpec.upto wholeCallsSpec)

/-- 'ferrymantop.WholeFlags', WHERE WHAT IT READS IS OF BULK AT MOST 1048576: true; the input reads as it did. -/
def wholeFlagsUptoRow : OpenClaim := { program := "ytgeankpiediebaagreat", sum := "62c7f3b325098a1ef8b99e9dfac9261b8a0ad9f326ae5a7e32f7610f0fdf24b1", func := "ferryman/ferrymantop.WholeFlags", spec := "wholeFlags", inPlace := ["math.Float64frombits", "math.Float64bits"], unfollowed := true, recurses := true, plainKeys := false, apart := false, narrowed := true }
def WholeFlagsUptoSaid : Prop := wholeFlagsUptoRow.holds Tryz.pinned (OpenSpec.upto wholeFlagsSpec)

/-- 'ferrymantop.WholeDivides', WHERE WHAT IT READS IS OF BULK AT MOST 1048576: true; the input reads as it did. -/
def wholeDividesUptoRow : OpenClaim := { program := "ytgeankpiediebaagreat", sum := "62c7f3b325098a1ef8b99e9dfac9261b8a0ad9f326ae5a7e32f7610f0fdf24b1", func := "ferryman/ferrymantop.WholeDivides", spec := "wholeDivides", inPlace := ["math.Float64frombits", "math.Float64bits"], unfollowed := true, recurses := true, plainKeys := false, apart := false, narrowed := true }
def WholeDividesUptoSaid : Prop := wholeDividesUptoRow.holds Tryz.pinned (OpenSpec.upto wholeDividesSpec)

/-- 'ferrymantop.WholeOther', WHERE WHAT IT READS IS OF BULK AT MOST 1048576: true; the input reads as it did. -/
def wholeOtherUptoRow : OpenClaim := { program := "ytgeankpiediebaagreat", sum := "62c7f3b325098a1ef8b99e9dfac9261b8a0ad9f326ae5a7e32f7610f0fdf24b1", func := "ferryman/ferrymantop.WholeOther", spec := "wholeOther", inPlace := ["math.Float64frombits", "math.Float64bits"], unfollowed := true, recurses := true, plainKeys := false, apart := false, narrowed := true }
def WholeOtherUptoSaid : Prop := wholeOtherUptoRow.holds Tryz.pinned (OpenSpec.upto wholeOtherSpec)

/-- 'ferrymantop.WholeShifts', WHERE WHAT IT READS IS OF BULK AT MOST 1048576: true; the input reads as it did. -/
def wholeShiftsUptoRow : OpenClaim := { program := "ytgeankpiediebaagreat", sum := "62c7f3b325098a1ef8b99e9dfac9261b8a0ad9f326ae5a7e32f7610f0fdf24b1", func := "ferryman/ferrymantop.WholeShifts", spec := "wholeShifts", inPlace := ["math.Float64frombits", "math.Float64bits"], unfollowed := true, recurses := true, plainKeys := false, apart := false, narrowed := true }
def WholeShiftsUptoSaid : Prop := wholeShiftsUptoRow.holds Tryz.pinned (OpenSpec.upto wholeShiftsSpec)

/-- 'ferrymantop.WholeLong', WHERE WHAT IT READS IS OF BULK AT MOST 1048576: true; the input reads as it did. -/
def wholeLongUptoRow : OpenClaim := { program := "ytgeankpiediebaagreat", sum := "62c7f3b325098a1ef8b99e9dfac9261b8a0ad9f326ae5a7e32f7610f0fdf24b1", func := "ferryman/ferrymantop.WholeLong", spec := "wholeLong", inPlace := ["math.Float64frombits", "math.Float64bits"], unfollowed := true, recurses := true, plainKeys := false, apart := false, narrowed := true }
def WholeLongUptoSaid : Prop := wholeLongUptoRow.holds Tryz.pinned (OpenSpec.upto wholeLongSpec)

end Rows
end Go.Proofs.YtgeankpiediebaaGreat
