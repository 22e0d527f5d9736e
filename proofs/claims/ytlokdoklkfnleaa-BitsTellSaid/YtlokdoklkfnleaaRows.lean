/-
  No cell of these rows narrows 'for every input' (looked for: loops, veiled, ifaces, maps, wideKeys, modest, calm, conditions, laid).
  DERIVED. THE GIVEN ROWS OF THIS SEAT. 7 by the template 'for every input the law returns true; each argument reads behind the call as it read before'; 0 by the template 'total and deterministic' (their statements: YtlokdoklkfnleaaTotals.lean).
  GIVEN WITH THE SEED: the statements are not yours to turn. If you find one false, say at which input.
  Laid BY PROGRAM, IN A SANDBOX (cutbox-rows.mjs): the forced cells as the released guide's own fill.sh prints them over the translation 03c32f1f190e62b1… (all of the seat's roots in one cut). By AI agents, Wed Nov 11 2026. No macro, syntax, notation, axiom, sorry.
-/
import Derived.Test.YtlokdoklkfnleaaChecked
import GoSem.Claim
import GoSem.ClaimJoined
import GoSem.ClaimMapViews
import Derived.JoinedTies
import Derived.KernelRfl
namespace Go.Proofs.Ytlokdoklkfnleaa
/- THE CELL 'sum', in the pinned program and in every row, IS THE sha256 OF THE DUMP (.gsa) THAT YtlokdoklkfnleaaProg.lean LOADS. Nothing in Lean hashes anything: it is a label: what it is worth is what the hold of that sum in a sandbox is worth. -/
noncomputable def Try.pinned : Pinned := { name := "ytlokdoklkfnleaa", sum := "03c32f1f190e62b10302f9c05655a19178bc0eca12ee3520140cd3bbc06a72ae", checked := Try.checked }
namespace Rows
def none {H : Type} : Left H := { results := [], args := [] }

/-- 'ferrymanlaw1.BitsTell': WHATEVER THE INPUT: true; the input reads as it did. -/
def bitsTellSpec : ChangeSpec := { name := "bitsTell", fn := fun _ => fun
  | [d1, d2, d3, d4] => { results := [.lit (.bool true)], args := [d1, d2, d3, d4] }
  | _ => none }
def bitsTellRow : OpenClaim := { program := "ytlokdoklkfnleaa", sum := "03c32f1f190e62b10302f9c05655a19178bc0eca12ee3520140cd3bbc06a72ae", func := "ferryman/ferrymanlaw1.BitsTell", spec := "bitsTell", apart := false }
def BitsTellSaid : Prop := bitsTellRow.holds Try.pinned (OpenSpec.ofChange bitsTellSpec)

/-- ITS FALSE NEIGHBOUR: 'it returns false'. Refute it at one input. -/
def bitsTellWrong : ChangeSpec := { name := "bitsTell", fn := fun _ => fun
  | [d1, d2, d3, d4] => { results := [.lit (.bool false)], args := [d1, d2, d3, d4] }
  | _ => none }
def BitsTellWrongFalsely : Prop := bitsTellRow.holds Try.pinned (OpenSpec.ofChange bitsTellWrong)

/-- 'ferrymanlaw1.BitsParts': WHATEVER THE INPUT: true; the input reads as it did. -/
def bitsPartsSpec : ChangeSpec := { name := "bitsParts", fn := fun _ => fun
  | [d1, d2] => { results := [.lit (.bool true)], args := [d1, d2] }
  | _ => none }
def bitsPartsRow : OpenClaim := { program := "ytlokdoklkfnleaa", sum := "03c32f1f190e62b10302f9c05655a19178bc0eca12ee3520140cd3bbc06a72ae", func := "ferryman/ferrymanlaw1.BitsParts", spec := "bitsParts", apart := false }
def BitsPartsSaid : Prop := bitsPartsRow.holds Try.pinned (OpenSpec.ofChange bitsPartsSpec)

/-- ITS FALSE NEIGHBOUR: 'it returns false'. Refute it at one input. -/
def bitsPartsWrong : ChangeSpec := { name := "bitsParts", fn := fun _ => fun
  | [d1, d2] => { results := [.lit (.bool false)], args := [d1, d2] }
  | _ => none }
def BitsPartsWrongFalsely : Prop := bitsPartsRow.holds Try.pinned (OpenSpec.ofChange bitsPartsWrong)

/-- 'ferrymanlaw1.BitsBytes': WHATEVER THE INPUT: true; the input reads as it did. -/
def bitsBytesSpec : ChangeSpec := { name := "bitsBytes", fn := fun _ => fun
  | [d1, d2] => { results := [.lit (.bool true)], args := [d1, d2] }
  | _ => none }
def bitsBytesRow : OpenClaim := { program := "ytlokdoklkfnleaa", sum := "03c32f1f190e62b10302f9c05655a19178bc0eca12ee3520140cd3bbc06a72ae", func := "ferryman/ferrymanlaw1.BitsBytes", spec := "bitsBytes", apart := false }
def BitsBytesSaid : Prop := bitsBytesRow.holds Try.pinned (OpenSpec.ofChange bitsBytesSpec)

/-- ITS FALSE NEIGHBOUR: 'it returns false'. Refute it at one input. -/
def bitsBytesWrong : ChangeSpec := { name := "bitsBytes", fn := fun _ => fun
  | [d1, d2] => { results := [.lit (.bool false)], args := [d1, d2] }
  | _ => none }
def BitsBytesWrongFalsely : Prop := bitsBytesRow.holds Try.pinned (OpenSpec.ofChange bitsBytesWrong)

/-- 'ferrymanlaw1.BitsSigns': WHATEVER THE INPUT: true; the input reads as it did. -/
def bitsSignsSpec : ChangeSpec := { name := "bitsSigns", fn := fun _ => fun
  | [d1, d2] => { results := [.lit (.bool true)], args := [d1, d2] }
  | _ => none }
def bitsSignsRow : OpenClaim := { program := "ytlokdoklkfnleaa", sum := "03c32f1f190e62b10302f9c05655a19178bc0eca12ee3520140cd3bbc06a72ae", func := "ferryman/ferrymanlaw1.BitsSigns", spec := "bitsSigns", apart := false }
def BitsSignsSaid : Prop := bitsSignsRow.holds Try.pinned (OpenSpec.ofChange bitsSignsSpec)

/-- ITS FALSE NEIGHBOUR: 'it returns false'. Refute it at one input. -/
def bitsSignsWrong : ChangeSpec := { name := "bitsSigns", fn := fun _ => fun
  | [d1, d2] => { results := [.lit (.bool false)], args := [d1, d2] }
  | _ => none }
def BitsSignsWrongFalsely : Prop := bitsSignsRow.holds Try.pinned (OpenSpec.ofChange bitsSignsWrong)

/-- 'ferrymanlaw1.BitsLong': WHATEVER THE INPUT: true; the input reads as it did. -/
def bitsLongSpec : ChangeSpec := { name := "bitsLong", fn := fun _ => fun
  | [d1, d2, d3] => { results := [.lit (.bool true)], args := [d1, d2, d3] }
  | _ => none }
def bitsLongRow : OpenClaim := { program := "ytlokdoklkfnleaa", sum := "03c32f1f190e62b10302f9c05655a19178bc0eca12ee3520140cd3bbc06a72ae", func := "ferryman/ferrymanlaw1.BitsLong", spec := "bitsLong", apart := false }
def BitsLongSaid : Prop := bitsLongRow.holds Try.pinned (OpenSpec.ofChange bitsLongSpec)

/-- ITS FALSE NEIGHBOUR: 'it returns false'. Refute it at one input. -/
def bitsLongWrong : ChangeSpec := { name := "bitsLong", fn := fun _ => fun
  | [d1, d2, d3] => { results := [.lit (.bool false)], args := [d1, d2, d3] }
  | _ => none }
def BitsLongWrongFalsely : Prop := bitsLongRow.holds Try.pinned (OpenSpec.ofChange bitsLongWrong)

/-- 'ferrymanlaw1.BitsBack': WHATEVER THE INPUT: true; the input reads as it did. -/
def bitsBackSpec : ChangeSpec := { name := "bitsBack", fn := fun _ => fun
  | [d1, d2, d3] => { results := [.lit (.bool true)], args := [d1, d2, d3] }
  | _ => none }
def bitsBackRow : OpenClaim := { program := "ytlokdoklkfnleaa", sum := "03c32f1f190e62b10302f9c05655a19178bc0eca12ee3520140cd3bbc06a72ae", func := "ferryman/ferrymanlaw1.BitsBack", spec := "bitsBack", apart := false }
def BitsBackSaid : Prop := bitsBackRow.holds Try.pinned (OpenSpec.ofChange bitsBackSpec)

/-- ITS FALSE NEIGHBOUR: 'it returns false'. Refute it at one input. -/
def bitsBackWrong : ChangeSpec := { name := "bitsBack", fn := fun _ => fun
  | [d1, d2, d3] => { results := [.lit (.bool false)], args := [d1, d2, d3] }
  | _ => none }
def BitsBackWrongFalsely : Prop := bitsBackRow.holds Try.pinned (OpenSpec.ofChange bitsBackWrong)

/-- 'ferrymanlaw1.BitsCarry': WHATEVER THE INPUT: true; the input reads as it did. -/
def bitsCarrySpec : ChangeSpec := { name := "bitsCarry", fn := fun _ => fun
  | [d1, d2, d3] => { results := [.lit (.bool true)], args := [d1, d2, d3] }
  | _ => none }
def bitsCarryRow : OpenClaim := { program := "ytlokdoklkfnleaa", sum := "03c32f1f190e62b10302f9c05655a19178bc0eca12ee3520140cd3bbc06a72ae", func := "ferryman/ferrymanlaw1.BitsCarry", spec := "bitsCarry", apart := false }
def BitsCarrySaid : Prop := bitsCarryRow.holds Try.pinned (OpenSpec.ofChange bitsCarrySpec)

/-- ITS FALSE NEIGHBOUR: 'it returns false'. Refute it at one input. -/
def bitsCarryWrong : ChangeSpec := { name := "bitsCarry", fn := fun _ => fun
  | [d1, d2, d3] => { results := [.lit (.bool false)], args := [d1, d2, d3] }
  | _ => none }
def BitsCarryWrongFalsely : Prop := bitsCarryRow.holds Try.pinned (OpenSpec.ofChange bitsCarryWrong)

/- THE SECOND FORM. 'bulk': how many values and letters a reading holds, each counted each time it is reached (what is shared counts as often as it is met; a slice's spare places count too). A statement '..UptoSaid' is the law's where the arguments, and the package variables that the reading takes, are together of bulk at most 1048576: NARROWER than '..Said'. Prove '..Said' where nothing that the law and all that it calls make is longer than what came in: it says more and counts as full. Else prove '..UptoSaid'. A law counts once. -/
mutual
def uptoBulk {H : Type} : DataW H → Nat
  | .lit (.string bytes) => bytes.length + 1
  | .lit _ => 1
  | .nil => 1
  | .ptr d => uptoBulk d + 1
  | .slice elems spare => uptoBulkAll elems + uptoBulkAll spare + 1
  | .agg parts => uptoBulkAll parts + 1
  | .iface _ d => uptoBulk d + 1
  | .map entries => uptoBulkEntries entries + 1
  | .held _ => 1
def uptoBulkAll {H : Type} : List (DataW H) → Nat
  | [] => 0
  | d :: r => uptoBulk d + uptoBulkAll r
def uptoBulkEntries {H : Type} : List (Lit × DataW H) → Nat
  | [] => 0
  | x :: r => uptoBulkEntry x + uptoBulkEntries r
def uptoBulkEntry {H : Type} : Lit × DataW H → Nat
  | (.string bytes, d) => bytes.length + uptoBulk d + 1
  | (_, d) => uptoBulk d + 1
 end
def uptoSmall : (H : Type) → List (DataW H) → Bool := fun _ ds => decide (uptoBulkAll ds ≤ 1048576)
def OpenSpec.upto (s : _root_.Go.ChangeSpec) : _root_.Go.OpenSpec := { _root_.Go.OpenSpec.ofChange s with cond := some uptoSmall }

/-- 'ferrymanlaw1.BitsTell', WHERE WHAT IT READS IS OF BULK AT MOST 1048576: true; the input reads as it did. -/
def bitsTellUptoRow : OpenClaim := { program := "ytlokdoklkfnleaa", sum := "03c32f1f190e62b10302f9c05655a19178bc0eca12ee3520140cd3bbc06a72ae", func := "ferryman/ferrymanlaw1.BitsTell", spec := "bitsTell", apart := false, narrowed := true }
def BitsTellUptoSaid : Prop := bitsTellUptoRow.holds Try.pinned (OpenSpec.upto bitsTellSpec)

/-- 'ferrymanlaw1.BitsParts', WHERE WHAT IT READS IS OF BULK AT MOST 1048576: true; the input reads as it did. -/
def bitsPartsUptoRow : OpenClaim := { program := "ytlokdoklkfnleaa", sum := "03c32f1f190e62b10302f9c05655a19178bc0eca12ee3520140cd3bbc06a72ae", func := "ferryman/ferrymanlaw1.BitsParts", spec := "bitsParts", apart := false, narrowed := true }
def BitsPartsUptoSaid : Prop := bitsPartsUptoRow.holds Try.pinned (OpenSpec.upto bitsPartsSpec)

/-- 'ferrymanlaw1.BitsBytes', WHERE WHAT IT READS IS OF BULK AT MOST 1048576: true; the input reads as it did. -/
def bitsBytesUptoRow : OpenClaim := { program := "ytlokdoklkfnleaa", sum := "03c32f1f190e62b10302f9c05655a19178bc0eca12ee3520140cd3bbc06a72ae", func := "ferryman/ferrymanlaw1.BitsBytes", spec := "bitsBytes", apart := false, narrowed := true }
def BitsBytesUptoSaid : Prop := bitsBytesUptoRow.holds Try.pinned (OpenSpec.upto bitsBytesSpec)

/-- 'ferrymanlaw1.BitsSigns', WHERE WHAT IT READS IS OF BULK AT MOST 1048576: true; the input reads as it did. -/
def bitsSignsUptoRow : OpenClaim := { program := "ytlokdoklkfnleaa", sum := "03c32f1f190e62b10302f9c05655a19178bc0eca12ee3520140cd3bbc06a72ae", func := "ferryman/ferrymanlaw1.BitsSigns", spec := "bitsSigns", apart := false, narrowed := true }
def BitsSignsUptoSaid : Prop := bitsSignsUptoRow.holds Try.pinned (OpenSpec.upto bitsSignsSpec)

/-- 'ferrymanlaw1.BitsLong', WHERE WHAT IT READS IS OF BULK AT MOST 1048576: true; the input reads as it did. -/
def bitsLongUptoRow : OpenClaim := { program := "ytlokdoklkfnleaa", sum := "03c32f1f190e62b10302f9c05655a19178bc0eca12ee3520140cd3bbc06a72ae", func := "ferryman/ferrymanlaw1.BitsLong", spec := "bitsLong", apart := false, narrowed := true }
def BitsLongUptoSaid : Prop := bitsLongUptoRow.holds Try.pinned (OpenSpec.upto bitsLongSpec)

/-- 'ferrymanlaw1.BitsBack', WHERE WHAT IT READS IS OF BULK AT MOST 1048576: true; the input reads as it did. -/
def bitsBackUptoRow : OpenClaim := { program := "ytlokdoklkfnleaa", sum := "03c32f1f190e62b10302f9c05655a19178bc0eca12ee3520140cd3bbc06a72ae", func := "ferryman/ferrymanlaw1.BitsBack", spec := "bitsBack", apart := false, narrowed := true }
def BitsBackUptoSaid : Prop := bitsBackUptoRow.holds Try.pinned (OpenSpec.upto bitsBackSpec)

/-- 'ferrymanlaw1.BitsCarry', WHERE WHAT IT READS IS OF BULK AT MOST 1048576: true; the input reads as it did. -/
def bitsCarryUptoRow : OpenClaim := { program := "ytlokdoklkfnleaa", sum := "03c32f1f190e62b10302f9c05655a19178bc0eca12ee3520140cd3bbc06a72ae", func := "ferryman/ferrymanlaw1.BitsCarry", spec := "bitsCarry", apart := false, narrowed := true }
def BitsCarryUptoSaid : Prop := bitsCarryUptoRow.holds Try.pinned (OpenSpec.upto bitsCarrySpec)

end Rows
end Go.Proofs.Ytlokdoklkfnleaa
