/-
  No cell of these rows narrows 'for every input' (looked for: loops, veiled, ifaces, maps, wideKeys, modest, calm, conditions, laid).
  DERIVED. THE GIVEN ROWS OF THIS SEAT. 3 by the template 'for every input the law returns true; each argument reads behind the call as it read before'; 0 by the template 'total and deterministic' (their statements: YtndfcpkmchjncaaTotals.lean).
  GIVEN WITH THE SEED: the statements are not yours to turn. If you find one false, say at which input.
  Laid BY PROGRAM, IN A SANDBOX (cutbox-rows.mjs): the forced cells as the released guide's own fill.sh prints them over the translation 0f1168d9113d48ab… (all of the seat's roots in one cut). By AI agents, Wed Nov 11 2026. No macro, syntax, notation, axiom, sorry.
-/
import Derived.Test.YtndfcpkmchjncaaChecked
import GoSem.Claim
import GoSem.ClaimJoined
import GoSem.ClaimMapViews
import Derived.JoinedTies
import Derived.KernelRfl
namespace Go.Proofs.Ytndfcpkmchjncaa
/- THE CELL 'sum', in the pinned program and in every row, IS THE sha256 OF THE DUMP (.gsa) THAT YtndfcpkmchjncaaProg.lean LOADS. Nothing in Lean hashes anything: it is a label: what it is worth is what the hold of that sum in a sandbox is worth. -/
noncomputable def Try.pinned : Pinned := { name := "ytndfcpkmchjncaa", sum := "0f1168d9113d48ab5403f281352032fabc8b007e882feefdac1b8195d084bb87", checked := Try.checked }
namespace Rows
def none {H : Type} : Left H := { results := [], args := [] }

/-- 'ferrymanlaw8.AluTurns': WHATEVER THE INPUT: true; the input reads as it did. -/
def aluTurnsSpec : ChangeSpec := { name := "aluTurns", fn := fun _ => fun
  | [d1, d2, d3] => { results := [.lit (.bool true)], args := [d1, d2, d3] }
  | _ => none }
def aluTurnsRow : OpenClaim := { program := "ytndfcpkmchjncaa", sum := "0f1168d9113d48ab5403f281352032fabc8b007e882feefdac1b8195d084bb87", func := "ferryman/ferrymanlaw8.AluTurns", spec := "aluTurns", plainKeys := false, apart := false }
def AluTurnsSaid : Prop := aluTurnsRow.holds Try.pinned (OpenSpec.ofChange aluTurnsSpec)

/-- ITS FALSE NEIGHBOUR: 'it returns false'. Refute it at one input. -/
def aluTurnsWrong : ChangeSpec := { name := "aluTurns", fn := fun _ => fun
  | [d1, d2, d3] => { results := [.lit (.bool false)], args := [d1, d2, d3] }
  | _ => none }
def AluTurnsWrongFalsely : Prop := aluTurnsRow.holds Try.pinned (OpenSpec.ofChange aluTurnsWrong)

/-- 'ferrymanlaw7.StateBytes': WHATEVER THE INPUT: true; the input reads as it did. -/
def stateBytesSpec : ChangeSpec := { name := "stateBytes", fn := fun _ => fun
  | [d1, d2, d3] => { results := [.lit (.bool true)], args := [d1, d2, d3] }
  | _ => none }
def stateBytesRow : OpenClaim := { program := "ytndfcpkmchjncaa", sum := "0f1168d9113d48ab5403f281352032fabc8b007e882feefdac1b8195d084bb87", func := "ferryman/ferrymanlaw7.StateBytes", spec := "stateBytes", unfollowed := true, recurses := true, plainKeys := false, apart := false }
def StateBytesSaid : Prop := stateBytesRow.holds Try.pinned (OpenSpec.ofChange stateBytesSpec)

/-- ITS FALSE NEIGHBOUR: 'it returns false'. Refute it at one input. -/
def stateBytesWrong : ChangeSpec := { name := "stateBytes", fn := fun _ => fun
  | [d1, d2, d3] => { results := [.lit (.bool false)], args := [d1, d2, d3] }
  | _ => none }
def StateBytesWrongFalsely : Prop := stateBytesRow.holds Try.pinned (OpenSpec.ofChange stateBytesWrong)

/-- 'ferrymanlaw5.AsmConst': WHATEVER THE INPUT: true; the input reads as it did. -/
def asmConstSpec : ChangeSpec := { name := "asmConst", fn := fun _ => fun
  | [d1, d2, d3] => { results := [.lit (.bool true)], args := [d1, d2, d3] }
  | _ => none }
def asmConstRow : OpenClaim := { program := "ytndfcpkmchjncaa", sum := "0f1168d9113d48ab5403f281352032fabc8b007e882feefdac1b8195d084bb87", func := "ferryman/ferrymanlaw5.AsmConst", spec := "asmConst", unfollowed := true, recurses := true, plainKeys := false, apart := false }
def AsmConstSaid : Prop := asmConstRow.holds Try.pinned (OpenSpec.ofChange asmConstSpec)

/-- ITS FALSE NEIGHBOUR: 'it returns false'. Refute it at one input. -/
def asmConstWrong : ChangeSpec := { name := "asmConst", fn := fun _ => fun
  | [d1, d2, d3] => { results := [.lit (.bool false)], args := [d1, d2, d3] }
  | _ => none }
def AsmConstWrongFalsely : Prop := asmConstRow.holds Try.pinned (OpenSpec.ofChange asmConstWrong)

/- THE SECOND FORM. 'bulk': how many values and letters a reading holds, each counted each time it is reached (what is shared counts as often as it is met; a slice's spare places count too). A statement '..UptoSaid' is the law's where the arguments, and the package variables that the reading takes, are together of bulk at most 1048576: NARROWER than '..Said'. Prove '..Said' where nothing that the law and all that it calls make is longer than what came in: it says more and counts as full. Else prove '..UptoSaid'. A law counts once. -/
mutual
def uptoBulk {H : Type} : DataW H → Nat
  | .lit (.string bytes) => bytes.length + 1
  | .lit _ => 1
  | .nil => 1
  | .ptr d => uptoBulk d + 1
  | .slice elems spare => uptoBulkAll elems + uptoBulkAll spare + 1
  | .agg parts => uptoBulkAll parts + 1
  | .iface _ d => uptoBulk d + 1
  | .map entries => uptoBulkEntries entries + 1
  | .held _ => 1
def uptoBulkAll {H : Type} : List (DataW H) → Nat
  | [] => 0
  | d :: r => uptoBulk d + uptoBulkAll r
def uptoBulkEntries {H : Type} : List (Lit × DataW H) → Nat
  | [] => 0
  | x :: r => uptoBulkEntry x + uptoBulkEntries r
def uptoBulkEntry {H : Type} : Lit × DataW H → Nat
  | (.string bytes, d) => bytes.length + uptoBulk d + 1
  | (_, d) => uptoBulk d + 1
 end
def uptoSmall : (H : Type) → List (DataW H) → Bool := fun _ ds => decide (uptoBulkAll ds ≤ 1048576)
def OpenSpec.upto (s : _root_.Go.ChangeSpec) : _root_.Go.OpenSpec := { _root_.Go.OpenSpec.ofChange s with cond := some uptoSmall }

/-- 'ferrymanlaw8.AluTurns', WHERE WHAT IT READS IS OF BULK AT MOST 1048576: true; the input reads as it did. -/
def aluTurnsUptoRow : OpenClaim := { program := "ytndfcpkmchjncaa", sum := "0f1168d9113d48ab5403f281352032fabc8b007e882feefdac1b8195d084bb87", func := "ferryman/ferrymanlaw8.AluTurns", spec := "aluTurns", plainKeys := false, apart := false, narrowed := true }
def AluTurnsUptoSaid : Prop := aluTurnsUptoRow.holds Try.pinned (OpenSpec.upto aluTurnsSpec)

/-- 'ferrymanlaw7.StateBytes', WHERE WHAT IT READS IS OF BULK AT MOST 1048576: true; the input reads as it did. -/
def stateBytesUptoRow : OpenClaim := { program := "ytndfcpkmchjncaa", sum := "0f1168d9113d48ab5403f281352032fabc8b007e882feefdac1b8195d084bb87", func := "ferryman/ferrymanlaw7.StateBytes", spec := "stateBytes", unfollowed := true, recurses := true, plainKeys := false, apart := false, narrowed := true }
def StateBytesUptoSaid : Prop := stateBytesUptoRow.holds Try.pinned (OpenSpec.upto stateBytesSpec)

/-- 'ferrymanlaw5.AsmConst', WHERE WHAT IT READS IS OF BULK AT MOST 1048576: true; the input reads as it did. -/
def asmConstUptoRow : OpenClaim := { program := "ytndfcpkmchjncaa", sum := "0f1168d9113d48ab5403f281352032fabc8b007e882feefdac1b8195d084bb87", func := "ferryman/ferrymanlaw5.AsmConst", spec := "asmConst", unfollowed := true, recurses := true, plainKeys := false, apart := false, narrowed := true }
def AsmConstUptoSaid : Prop := asmConstUptoRow.holds Try.pinned (OpenSpec.upto asmConstSpec)

end Rows
end Go.Proofs.Ytndfcpkmchjncaa
