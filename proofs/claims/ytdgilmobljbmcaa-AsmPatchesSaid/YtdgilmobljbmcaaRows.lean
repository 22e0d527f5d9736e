/-
  No cell of these rows narrows 'for every input' (looked for: loops, veiled, ifaces, maps, wideKeys, modest, calm, conditions, laid).
  DERIVED. THE GIVEN ROWS OF THIS SEAT. 4 by the template 'for every input the law returns true; each argument reads behind the call as it read before'; 0 by the template 'total and deterministic' (their statements: YtdgilmobljbmcaaTotals.lean).
  GIVEN WITH THE SEED: the statements are not yours to turn. If you find one false, say at which input.
  Laid BY PROGRAM, IN A SANDBOX (cutbox-rows.mjs): the forced cells as the released guide's own fill.sh prints them over the translation 57616debc17c58f4… (all of the seat's roots in one cut). By AI agents, Wed Nov 11 2026. No macro, syntax, notation, axiom, sorry.
-/
import Derived.Test.YtdgilmobljbmcaaChecked
import GoSem.Claim
import GoSem.ClaimJoined
import GoSem.ClaimMapViews
import Derived.JoinedTies
import Derived.KernelRfl
namespace Go.Proofs.Ytdgilmobljbmcaa
/- THE CELL 'sum', in the pinned program and in every row, IS THE sha256 OF THE DUMP (.gsa) THAT YtdgilmobljbmcaaProg.lean LOADS. Nothing in Lean hashes anything: it is a label: what it is worth is what the hold of that sum in a sandbox is worth. -/
noncomputable def Try.pinned : Pinned := { name := "ytdgilmobljbmcaa", sum := "57616debc17c58f48243c4d56f42c29c47ba1930f87dfee7765f4f2779a8c2aa", checked := Try.checked }
namespace Rows
def none {H : Type} : Left H := { results := [], args := [] }

/-- 'ferrymanlaw5.AsmConst': WHATEVER THE INPUT: true; the input reads as it did. -/
def asmConstSpec : ChangeSpec := { name := "asmConst", fn := fun _ => fun
  | [d1, d2, d3] => { results := [.lit (.bool true)], args := [d1, d2, d3] }
  | _ => none }
def asmConstRow : OpenClaim := { program := "ytdgilmobljbmcaa", sum := "57616debc17c58f48243c4d56f42c29c47ba1930f87dfee7765f4f2779a8c2aa", func := "ferryman/ferrymanlaw5.AsmConst", spec := "asmConst", unfollowed := true, recurses := true, plainKeys := false, apart := false }
def AsmConstSaid : Prop := asmConstRow.holds Try.pinned (OpenSpec.ofChange asmConstSpec)

/-- ITS FALSE NEIGHBOUR: 'it returns false'. Refute it at one input. -/
def asmConstWrong : ChangeSpec := { name := "asmConst", fn := fun _ => fun
  | [d1, d2, d3] => { results := [.lit (.bool false)], args := [d1, d2, d3] }
  | _ => none }
def AsmConstWrongFalsely : Prop := asmConstRow.holds Try.pinned (OpenSpec.ofChange asmConstWrong)

/-- 'ferrymanlaw5.AsmPatches': WHATEVER THE INPUT: true; the input reads as it did. -/
def asmPatchesSpec : ChangeSpec := { name := "asmPatches", fn := fun _ => fun
  | [d1, d2, d3] => { results := [.lit (.bool true)], args := [d1, d2, d3] }
  | _ => none }
def asmPatchesRow : OpenClaim := { program := "ytdgilmobljbmcaa", sum := "57616debc17c58f48243c4d56f42c29c47ba1930f87dfee7765f4f2779a8c2aa", func := "ferryman/ferrymanlaw5.AsmPatches", spec := "asmPatches", unfollowed := true, recurses := true, plainKeys := false, apart := false }
def AsmPatchesSaid : Prop := asmPatchesRow.holds Try.pinned (OpenSpec.ofChange asmPatchesSpec)

/-- ITS FALSE NEIGHBOUR: 'it returns false'. Refute it at one input. -/
def asmPatchesWrong : ChangeSpec := { name := "asmPatches", fn := fun _ => fun
  | [d1, d2, d3] => { results := [.lit (.bool false)], args := [d1, d2, d3] }
  | _ => none }
def AsmPatchesWrongFalsely : Prop := asmPatchesRow.holds Try.pinned (OpenSpec.ofChange asmPatchesWrong)

/-- 'ferrymanlaw5.AsmAgain': WHATEVER THE INPUT: true; the input reads as it did. -/
def asmAgainSpec : ChangeSpec := { name := "asmAgain", fn := fun _ => fun
  | [d1, d2, d3] => { results := [.lit (.bool true)], args := [d1, d2, d3] }
  | _ => none }
def asmAgainRow : OpenClaim := { program := "ytdgilmobljbmcaa", sum := "57616debc17c58f48243c4d56f42c29c47ba1930f87dfee7765f4f2779a8c2aa", func := "ferryman/ferrymanlaw5.AsmAgain", spec := "asmAgain", unfollowed := true, recurses := true, plainKeys := false, apart := false }
def AsmAgainSaid : Prop := asmAgainRow.holds Try.pinned (OpenSpec.ofChange asmAgainSpec)

/-- ITS FALSE NEIGHBOUR: 'it returns false'. Refute it at one input. -/
def asmAgainWrong : ChangeSpec := { name := "asmAgain", fn := fun _ => fun
  | [d1, d2, d3] => { results := [.lit (.bool false)], args := [d1, d2, d3] }
  | _ => none }
def AsmAgainWrongFalsely : Prop := asmAgainRow.holds Try.pinned (OpenSpec.ofChange asmAgainWrong)

/-- 'ferrymanlaw5.AsmMoves': WHATEVER THE INPUT: true; the input reads as it did. -/
def asmMovesSpec : ChangeSpec := { name := "asmMoves", fn := fun _ => fun
  | [d1, d2, d3] => { results := [.lit (.bool true)], args := [d1, d2, d3] }
  | _ => none }
def asmMovesRow : OpenClaim := { program := "ytdgilmobljbmcaa", sum := "57616debc17c58f48243c4d56f42c29c47ba1930f87dfee7765f4f2779a8c2aa", func := "ferryman/ferrymanlaw5.AsmMoves", spec := "asmMoves", unfollowed := true, recurses := true, plainKeys := false, apart := false }
def AsmMovesSaid : Prop := asmMovesRow.holds Try.pinned (OpenSpec.ofChange asmMovesSpec)

/-- ITS FALSE NEIGHBOUR: 'it returns false'. Refute it at one input. -/
def asmMovesWrong : ChangeSpec := { name := "asmMoves", fn := fun _ => fun
  | [d1, d2, d3] => { results := [.lit (.bool false)], args := [d1, d2, d3] }
  | _ => none }
def AsmMovesWrongFalsely : Prop := asmMovesRow.holds Try.pinned (OpenSpec.ofChange asmMovesWrong)

/- THE SECOND FORM. 'bulk': how many values and letters a reading holds, each counted each time it is reached (what is shared counts as often as it is met; a slice's spare places count too). A statement '..UptoSaid' is the law's where the arguments, and the package variables that the reading takes, are together of bulk at most 1048576: NARROWER than '..Said'. Prove '..Said' where nothing that the law and all that it calls make is longer than what came in: it says more and counts as full. Else prove '..UptoSaid'. A law counts once. -/
mutual
def uptoBulk {H : Type} : DataW H → Nat
  | .lit (.string bytes) => bytes.length + 1
  | .lit _ => 1
  | .nil => 1
  | .ptr d => uptoBulk d + 1
  | .slice elems spare => uptoBulkAll elems + uptoBulkAll spare + 1
  | .agg parts => uptoBulkAll parts + 1
  | .iface _ d => uptoBulk d + 1
  | .map entries => uptoBulkEntries entries + 1
  | .held _ => 1
def uptoBulkAll {H : Type} : List (DataW H) → Nat
  | [] => 0
  | d :: r => uptoBulk d + uptoBulkAll r
def uptoBulkEntries {H : Type} : List (Lit × DataW H) → Nat
  | [] => 0
  | x :: r => uptoBulkEntry x + uptoBulkEntries r
def uptoBulkEntry {H : Type} : Lit × DataW H → Nat
  | (.string bytes, d) => bytes.length + uptoBulk d + 1
  | (_, d) => uptoBulk d + 1
 end
def uptoSmall : (H : Type) → List (DataW H) → Bool := fun _ ds => decide (uptoBulkAll ds ≤ 1048576)
def OpenSpec.upto (s : _root_.Go.ChangeSpec) : _root_.Go.OpenSpec := { _root_.Go.OpenSpec.ofChange s with cond := some uptoSmall }

/-- 'ferrymanlaw5.AsmConst', WHERE WHAT IT READS IS OF BULK AT MOST 1048576: true; the input reads as it did. -/
def asmConstUptoRow : OpenClaim := { program := "ytdgilmobljbmcaa", sum := "57616debc17c58f48243c4d56f42c29c47ba1930f87dfee7765f4f2779a8c2aa", func := "ferryman/ferrymanlaw5.AsmConst", spec := "asmConst", unfollowed := true, recurses := true, plainKeys := false, apart := false, narrowed := true }
def AsmConstUptoSaid : Prop := asmConstUptoRow.holds Try.pinned (OpenSpec.upto asmConstSpec)

/-- 'ferrymanlaw5.AsmPatches', WHERE WHAT IT READS IS OF BULK AT MOST 1048576: true; the input reads as it did. -/
def asmPatchesUptoRow : OpenClaim := { program := "ytdgilmobljbmcaa", sum := "57616debc17c58f48243c4d56f42c29c47ba1930f87dfee7765f4f2779a8c2aa", func := "ferryman/ferrymanlaw5.AsmPatches", spec := "asmPatches", unfollowed := true, recurses := true, plainKeys := false, apart := false, narrowed := true }
def AsmPatchesUptoSaid : Prop := asmPatchesUptoRow.holds Try.pinned (OpenSpec.upto asmPatchesSpec)

/-- 'ferrymanlaw5.AsmAgain', WHERE WHAT IT READS IS OF BULK AT MOST 1048576: true; the input reads as it did. -/
def asmAgainUptoRow : OpenClaim := { program := "ytdgilmobljbmcaa", sum := "57616debc17c58f48243c4d56f42c29c47ba1930f87dfee7765f4f2779a8c2aa", func := "ferryman/ferrymanlaw5.AsmAgain", spec := "asmAgain", unfollowed := true, recurses := true, plainKeys := false, apart := false, narrowed := true }
def AsmAgainUptoSaid : Prop := asmAgainUptoRow.holds Try.pinned (OpenSpec.upto asmAgainSpec)

/-- 'ferrymanlaw5.AsmMoves', WHERE WHAT IT READS IS OF BULK AT MOST 1048576: true; the input reads as it did. -/
def asmMovesUptoRow : OpenClaim := { program := "ytdgilmobljbmcaa", sum := "57616debc17c58f48243c4d56f42c29c47ba1930f87dfee7765f4f2779a8c2aa", func := "ferryman/ferrymanlaw5.AsmMoves", spec := "asmMoves", unfollowed := true, recurses := true, plainKeys := false, apart := false, narrowed := true }
def AsmMovesUptoSaid : Prop := asmMovesUptoRow.holds Try.pinned (OpenSpec.upto asmMovesSpec)

end Rows
end Go.Proofs.Ytdgilmobljbmcaa
