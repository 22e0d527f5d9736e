/-
  NARROWER THAN 'FOR EVERY INPUT', by the rows' own cells (each row's printed sentence says how): FloatTexts: laid · FloatTells: laid · FloatNone: laid · FloatEdges: laid · FloatOrder: laid · FloatSame: laid · FloatWholes: laid · FloatSmall: laid.
  DERIVED. THE GIVEN ROWS OF THIS SEAT. 8 by the template 'for every input the law returns true; each argument reads behind the call as it read before'; 0 by the template 'total and deterministic' (their statements: YtdchnlmclngjmaaDoorTotals.lean).
  GIVEN WITH THE SEED: the statements are not yours to turn. If you find one false, say at which input.
  Laid BY PROGRAM, IN A SANDBOX (cutbox-rows.mjs): the forced cells as the released guide's own fill.sh prints them over the translation 6589fa9ab5911355… (all of the seat's roots in one cut). By AI agents, Wed Nov 11 2026. No macro, syntax, notation, axiom, sorry.
-/
import Derived.Test.YtdchnlmclngjmaaDoorChecked
import GoSem.Claim
import GoSem.ClaimJoined
import GoSem.ClaimMapViews
import Derived.JoinedTies
import Derived.KernelRfl
namespace Go.Proofs.YtdchnlmclngjmaaDoor
/- THE CELL 'sum', in the pinned program and in every row, IS THE sha256 OF THE DUMP (.gsa) THAT YtdchnlmclngjmaaDoorProg.lean LOADS. Nothing in Lean hashes anything: it is a label: what it is worth is what the hold of that sum in a sandbox is worth. -/
noncomputable def Tryd.pinned : Pinned := { name := "ytdchnlmclngjmaadoor", sum := "6589fa9ab5911355b5820fb98c2c51c7d218d9eccdd743150301c7471aa5628a", checked := Tryd.checked }
namespace Rows
def none {H : Type} : Left H := { results := [], args := [] }

/- WHAT THE LISTED PACKAGE-LEVEL VARIABLES READ AS WHEN THE CALL BEGINS. Each datum BY PROGRAM (the guide's laid-datum.mjs) off the statement by which the dump's own 'gosem.cut.vars' lays the variable. In a bare row this is a premise. The card (YtdchnlmclngjmaaDoorCards.lean) ties it to the program's text. -/
def laid_math_bits_deBruijn32tab {H : Type} : DataW H := .agg [.lit (.int .u8 0), .lit (.int .u8 1), .lit (.int .u8 28), .lit (.int .u8 2), .lit (.int .u8 29), .lit (.int .u8 14), .lit (.int .u8 24), .lit (.int .u8 3), .lit (.int .u8 30), .lit (.int .u8 22), .lit (.int .u8 20), .lit (.int .u8 15), .lit (.int .u8 25), .lit (.int .u8 17), .lit (.int .u8 4), .lit (.int .u8 8), .lit (.int .u8 31), .lit (.int .u8 27), .lit (.int .u8 13), .lit (.int .u8 23), .lit (.int .u8 21), .lit (.int .u8 19), .lit (.int .u8 16), .lit (.int .u8 7), .lit (.int .u8 26), .lit (.int .u8 12), .lit (.int .u8 18), .lit (.int .u8 6), .lit (.int .u8 11), .lit (.int .u8 5), .lit (.int .u8 10), .lit (.int .u8 9)]
def laid_math_bits_deBruijn64tab {H : Type} : DataW H := .agg [.lit (.int .u8 0), .lit (.int .u8 1), .lit (.int .u8 56), .lit (.int .u8 2), .lit (.int .u8 57), .lit (.int .u8 49), .lit (.int .u8 28), .lit (.int .u8 3), .lit (.int .u8 61), .lit (.int .u8 58), .lit (.int .u8 42), .lit (.int .u8 50), .lit (.int .u8 38), .lit (.int .u8 29), .lit (.int .u8 17), .lit (.int .u8 4), .lit (.int .u8 62), .lit (.int .u8 47), .lit (.int .u8 59), .lit (.int .u8 36), .lit (.int .u8 45), .lit (.int .u8 43), .lit (.int .u8 51), .lit (.int .u8 22), .lit (.int .u8 53), .lit (.int .u8 39), .lit (.int .u8 33), .lit (.int .u8 30), .lit (.int .u8 24), .lit (.int .u8 18), .lit (.int .u8 12), .lit (.int .u8 5), .lit (.int .u8 63), .lit (.int .u8 55), .lit (.int .u8 48), .lit (.int .u8 27), .lit (.int .u8 60), .lit (.int .u8 41), .lit (.int .u8 37), .lit (.int .u8 16), .lit (.int .u8 46), .lit (.int .u8 35), .lit (.int .u8 44), .lit (.int .u8 21), .lit (.int .u8 52), .lit (.int .u8 32), .lit (.int .u8 23), .lit (.int .u8 11), .lit (.int .u8 54), .lit (.int .u8 26), .lit (.int .u8 40), .lit (.int .u8 15), .lit (.int .u8 34), .lit (.int .u8 20), .lit (.int .u8 31), .lit (.int .u8 10), .lit (.int .u8 25), .lit (.int .u8 14), .lit (.int .u8 19), .lit (.int .u8 9), .lit (.int .u8 13), .lit (.int .u8 8), .lit (.int .u8 7), .lit (.int .u8 6)]
def laid_internal_strconv_uint64pow10 {H : Type} : DataW H := .agg [.lit (.int .u64 1), .lit (.int .u64 10), .lit (.int .u64 100), .lit (.int .u64 1000), .lit (.int .u64 10000), .lit (.int .u64 100000), .lit (.int .u64 1000000), .lit (.int .u64 10000000), .lit (.int .u64 100000000), .lit (.int .u64 1000000000), .lit (.int .u64 10000000000), .lit (.int .u64 100000000000), .lit (.int .u64 1000000000000), .lit (.int .u64 10000000000000), .lit (.int .u64 100000000000000), .lit (.int .u64 1000000000000000), .lit (.int .u64 10000000000000000), .lit (.int .u64 100000000000000000), .lit (.int .u64 1000000000000000000), .lit (.int .u64 10000000000000000000)]

/-- 'ferrymanlaw2.FloatTexts': WHATEVER THE INPUT: true; the input reads as it did. -/
def floatTextsSpec : ChangeSpec := { name := "floatTexts", fn := fun _ => fun
  | [d1, d2] => { results := [.lit (.bool true)], args := [d1, d2] }
  | _ => none }
def floatTextsRow : OpenClaim := { program := "ytdchnlmclngjmaadoor", sum := "6589fa9ab5911355b5820fb98c2c51c7d218d9eccdd743150301c7471aa5628a", func := "ferryman/ferrymanlaw2.FloatTexts", spec := "floatTexts", inPlace := ["math.Float64frombits", "math.Float64bits"], named := ["internal/strconv.uint64pow10", "math/bits.deBruijn32tab", "math/bits.deBruijn64tab"], apart := false, laid := [("math/bits.deBruijn32tab", laid_math_bits_deBruijn32tab), ("math/bits.deBruijn64tab", laid_math_bits_deBruijn64tab), ("internal/strconv.uint64pow10", laid_internal_strconv_uint64pow10)] }
def FloatTextsSaid : Prop := floatTextsRow.holds Tryd.pinned (OpenSpec.ofChange floatTextsSpec)

/-- ITS FALSE NEIGHBOUR: 'it returns false'. Refute it at one input. -/
def floatTextsWrong : ChangeSpec := { name := "floatTexts", fn := fun _ => fun
  | [d1, d2] => { results := [.lit (.bool false)], args := [d1, d2] }
  | _ => none }
def FloatTextsWrongFalsely : Prop := floatTextsRow.holds Tryd.pinned (OpenSpec.ofChange floatTextsWrong)

/-- 'ferrymanlaw2.FloatTells': WHATEVER THE INPUT: true; the input reads as it did. -/
def floatTellsSpec : ChangeSpec := { name := "floatTells", fn := fun _ => fun
  | [d1, d2] => { results := [.lit (.bool true)], args := [d1, d2] }
  | _ => none }
def floatTellsRow : OpenClaim := { program := "ytdchnlmclngjmaadoor", sum := "6589fa9ab5911355b5820fb98c2c51c7d218d9eccdd743150301c7471aa5628a", func := "ferryman/ferrymanlaw2.FloatTells", spec := "floatTells", inPlace := ["math.Float64frombits", "math.Float64bits"], named := ["internal/strconv.uint64pow10", "math/bits.deBruijn32tab", "math/bits.deBruijn64tab"], apart := false, laid := [("math/bits.deBruijn32tab", laid_math_bits_deBruijn32tab), ("math/bits.deBruijn64tab", laid_math_bits_deBruijn64tab), ("internal/strconv.uint64pow10", laid_internal_strconv_uint64pow10)] }
def FloatTellsSaid : Prop := floatTellsRow.holds Tryd.pinned (OpenSpec.ofChange floatTellsSpec)

/-- ITS FALSE NEIGHBOUR: 'it returns false'. Refute it at one input. -/
def floatTellsWrong : ChangeSpec := { name := "floatTells", fn := fun _ => fun
  | [d1, d2] => { results := [.lit (.bool false)], args := [d1, d2] }
  | _ => none }
def FloatTellsWrongFalsely : Prop := floatTellsRow.holds Tryd.pinned (OpenSpec.ofChange floatTellsWrong)

/-- 'ferrymanlaw2.FloatNone': WHATEVER THE INPUT: true; the input reads as it did. -/
def floatNoneSpec : ChangeSpec := { name := "floatNone", fn := fun _ => fun
  | [d1, d2, d3] => { results := [.lit (.bool true)], args := [d1, d2, d3] }
  | _ => none }
def floatNoneRow : OpenClaim := { program := "ytdchnlmclngjmaadoor", sum := "6589fa9ab5911355b5820fb98c2c51c7d218d9eccdd743150301c7471aa5628a", func := "ferryman/ferrymanlaw2.FloatNone", spec := "floatNone", inPlace := ["math.Float64frombits", "math.Float64bits"], named := ["internal/strconv.uint64pow10", "math/bits.deBruijn32tab", "math/bits.deBruijn64tab"], apart := false, laid := [("math/bits.deBruijn32tab", laid_math_bits_deBruijn32tab), ("math/bits.deBruijn64tab", laid_math_bits_deBruijn64tab), ("internal/strconv.uint64pow10", laid_internal_strconv_uint64pow10)] }
def FloatNoneSaid : Prop := floatNoneRow.holds Tryd.pinned (OpenSpec.ofChange floatNoneSpec)

/-- ITS FALSE NEIGHBOUR: 'it returns false'. Refute it at one input. -/
def floatNoneWrong : ChangeSpec := { name := "floatNone", fn := fun _ => fun
  | [d1, d2, d3] => { results := [.lit (.bool false)], args := [d1, d2, d3] }
  | _ => none }
def FloatNoneWrongFalsely : Prop := floatNoneRow.holds Tryd.pinned (OpenSpec.ofChange floatNoneWrong)

/-- 'ferrymanlaw2.FloatEdges': WHATEVER THE INPUT: true; the input reads as it did. -/
def floatEdgesSpec : ChangeSpec := { name := "floatEdges", fn := fun _ => fun
  | [d1, d2, d3] => { results := [.lit (.bool true)], args := [d1, d2, d3] }
  | _ => none }
def floatEdgesRow : OpenClaim := { program := "ytdchnlmclngjmaadoor", sum := "6589fa9ab5911355b5820fb98c2c51c7d218d9eccdd743150301c7471aa5628a", func := "ferryman/ferrymanlaw2.FloatEdges", spec := "floatEdges", inPlace := ["math.Float64frombits", "math.Float64bits"], named := ["internal/strconv.uint64pow10", "math/bits.deBruijn32tab", "math/bits.deBruijn64tab"], apart := false, laid := [("math/bits.deBruijn32tab", laid_math_bits_deBruijn32tab), ("math/bits.deBruijn64tab", laid_math_bits_deBruijn64tab), ("internal/strconv.uint64pow10", laid_internal_strconv_uint64pow10)] }
def FloatEdgesSaid : Prop := floatEdgesRow.holds Tryd.pinned (OpenSpec.ofChange floatEdgesSpec)

/-- ITS FALSE NEIGHBOUR: 'it returns false'. Refute it at one input. -/
def floatEdgesWrong : ChangeSpec := { name := "floatEdges", fn := fun _ => fun
  | [d1, d2, d3] => { results := [.lit (.bool false)], args := [d1, d2, d3] }
  | _ => none }
def FloatEdgesWrongFalsely : Prop := floatEdgesRow.holds Tryd.pinned (OpenSpec.ofChange floatEdgesWrong)

/-- 'ferrymanlaw2.FloatOrder': WHATEVER THE INPUT: true; the input reads as it did. -/
def floatOrderSpec : ChangeSpec := { name := "floatOrder", fn := fun _ => fun
  | [d1, d2] => { results := [.lit (.bool true)], args := [d1, d2] }
  | _ => none }
def floatOrderRow : OpenClaim := { program := "ytdchnlmclngjmaadoor", sum := "6589fa9ab5911355b5820fb98c2c51c7d218d9eccdd743150301c7471aa5628a", func := "ferryman/ferrymanlaw2.FloatOrder", spec := "floatOrder", inPlace := ["math.Float64frombits", "math.Float64bits"], named := ["internal/strconv.uint64pow10", "math/bits.deBruijn32tab", "math/bits.deBruijn64tab"], apart := false, laid := [("math/bits.deBruijn32tab", laid_math_bits_deBruijn32tab), ("math/bits.deBruijn64tab", laid_math_bits_deBruijn64tab), ("internal/strconv.uint64pow10", laid_internal_strconv_uint64pow10)] }
def FloatOrderSaid : Prop := floatOrderRow.holds Tryd.pinned (OpenSpec.ofChange floatOrderSpec)

/-- ITS FALSE NEIGHBOUR: 'it returns false'. Refute it at one input. -/
def floatOrderWrong : ChangeSpec := { name := "floatOrder", fn := fun _ => fun
  | [d1, d2] => { results := [.lit (.bool false)], args := [d1, d2] }
  | _ => none }
def FloatOrderWrongFalsely : Prop := floatOrderRow.holds Tryd.pinned (OpenSpec.ofChange floatOrderWrong)

/-- 'ferrymanlaw2.FloatSame': WHATEVER THE INPUT: true; the input reads as it did. -/
def floatSameSpec : ChangeSpec := { name := "floatSame", fn := fun _ => fun
  | [d] => { results := [.lit (.bool true)], args := [d] }
  | _ => none }
def floatSameRow : OpenClaim := { program := "ytdchnlmclngjmaadoor", sum := "6589fa9ab5911355b5820fb98c2c51c7d218d9eccdd743150301c7471aa5628a", func := "ferryman/ferrymanlaw2.FloatSame", spec := "floatSame", inPlace := ["math.Float64frombits", "math.Float64bits"], named := ["internal/strconv.uint64pow10", "math/bits.deBruijn32tab", "math/bits.deBruijn64tab"], apart := false, laid := [("math/bits.deBruijn32tab", laid_math_bits_deBruijn32tab), ("math/bits.deBruijn64tab", laid_math_bits_deBruijn64tab), ("internal/strconv.uint64pow10", laid_internal_strconv_uint64pow10)] }
def FloatSameSaid : Prop := floatSameRow.holds Tryd.pinned (OpenSpec.ofChange floatSameSpec)

/-- ITS FALSE NEIGHBOUR: 'it returns false'. Refute it at one input. -/
def floatSameWrong : ChangeSpec := { name := "floatSame", fn := fun _ => fun
  | [d] => { results := [.lit (.bool false)], args := [d] }
  | _ => none }
def FloatSameWrongFalsely : Prop := floatSameRow.holds Tryd.pinned (OpenSpec.ofChange floatSameWrong)

/-- 'ferrymanlaw2.FloatWholes': WHATEVER THE INPUT: true; the input reads as it did. -/
def floatWholesSpec : ChangeSpec := { name := "floatWholes", fn := fun _ => fun
  | [d1, d2] => { results := [.lit (.bool true)], args := [d1, d2] }
  | _ => none }
def floatWholesRow : OpenClaim := { program := "ytdchnlmclngjmaadoor", sum := "6589fa9ab5911355b5820fb98c2c51c7d218d9eccdd743150301c7471aa5628a", func := "ferryman/ferrymanlaw2.FloatWholes", spec := "floatWholes", inPlace := ["math.Float64frombits", "math.Float64bits"], named := ["internal/strconv.uint64pow10", "math/bits.deBruijn32tab", "math/bits.deBruijn64tab"], apart := false, laid := [("math/bits.deBruijn32tab", laid_math_bits_deBruijn32tab), ("math/bits.deBruijn64tab", laid_math_bits_deBruijn64tab), ("internal/strconv.uint64pow10", laid_internal_strconv_uint64pow10)] }
def FloatWholesSaid : Prop := floatWholesRow.holds Tryd.pinned (OpenSpec.ofChange floatWholesSpec)

/-- ITS FALSE NEIGHBOUR: 'it returns false'. Refute it at one input. -/
def floatWholesWrong : ChangeSpec := { name := "floatWholes", fn := fun _ => fun
  | [d1, d2] => { results := [.lit (.bool false)], args := [d1, d2] }
  | _ => none }
def FloatWholesWrongFalsely : Prop := floatWholesRow.holds Tryd.pinned (OpenSpec.ofChange floatWholesWrong)

/-- 'ferrymanlaw2.FloatSmall': WHATEVER THE INPUT: true; the input reads as it did. -/
def floatSmallSpec : ChangeSpec := { name := "floatSmall", fn := fun _ => fun
  | [d1, d2, d3] => { results := [.lit (.bool true)], args := [d1, d2, d3] }
  | _ => none }
def floatSmallRow : OpenClaim := { program := "ytdchnlmclngjmaadoor", sum := "6589fa9ab5911355b5820fb98c2c51c7d218d9eccdd743150301c7471aa5628a", func := "ferryman/ferrymanlaw2.FloatSmall", spec := "floatSmall", inPlace := ["math.Float64frombits", "math.Float64bits"], named := ["internal/strconv.uint64pow10", "math/bits.deBruijn32tab", "math/bits.deBruijn64tab"], apart := false, laid := [("math/bits.deBruijn32tab", laid_math_bits_deBruijn32tab), ("math/bits.deBruijn64tab", laid_math_bits_deBruijn64tab), ("internal/strconv.uint64pow10", laid_internal_strconv_uint64pow10)] }
def FloatSmallSaid : Prop := floatSmallRow.holds Tryd.pinned (OpenSpec.ofChange floatSmallSpec)

/-- ITS FALSE NEIGHBOUR: 'it returns false'. Refute it at one input. -/
def floatSmallWrong : ChangeSpec := { name := "floatSmall", fn := fun _ => fun
  | [d1, d2, d3] => { results := [.lit (.bool false)], args := [d1, d2, d3] }
  | _ => none }
def FloatSmallWrongFalsely : Prop := floatSmallRow.holds Tryd.pinned (OpenSpec.ofChange floatSmallWrong)

/- THE SECOND FORM. 'bulk': how many values and letters a reading holds, each counted each time it is reached (what is shared counts as often as it is met; a slice's spare places count too). A statement '..UptoSaid' is the law's where the arguments, and the package variables that the reading takes, are together of bulk at most 1048576: NARROWER than '..Said'. Prove '..Said' where nothing that the law and all that it calls make is longer than what came in: it says more and counts as full. Else prove '..UptoSaid'. A law counts once. -/
mutual
def uptoBulk {H : Type} : DataW H → Nat
  | .lit (.string bytes) => bytes.length + 1
  | .lit _ => 1
  | .nil => 1
  | .ptr d => uptoBulk d + 1
  | .slice elems spare => uptoBulkAll elems + uptoBulkAll spare + 1
  | .agg parts => uptoBulkAll parts + 1
  | .iface _ d => uptoBulk d + 1
  | .map entries => uptoBulkEntries entries + 1
  | .held _ => 1
def uptoBulkAll {H : Type} : List (DataW H) → Nat
  | [] => 0
  | d :: r => uptoBulk d + uptoBulkAll r
def uptoBulkEntries {H : Type} : List (Lit × DataW H) → Nat
  | [] => 0
  | x :: r => uptoBulkEntry x + uptoBulkEntries r
def uptoBulkEntry {H : Type} : Lit × DataW H → Nat
  | (.string bytes, d) => bytes.length + uptoBulk d + 1
  | (_, d) => uptoBulk d + 1
 end
def uptoSmall : (H : Type) → List (DataW H) → Bool := fun _ ds => decide (uptoBulkAll ds ≤ 1048576)
def OpenSpec.upto (s : _root_.Go.ChangeSpec) : _root_.Go.OpenSpec := { _root_.Go.OpenSpec.ofChange s with cond := some uptoSmall }

/-- 'ferrymanlaw2.FloatTexts', WHERE WHAT IT READS IS OF BULK AT MOST 1048576: true; the input reads as it did. -/
def floatTextsUptoRow : OpenClaim := { program := "ytdchnlmclngjmaadoor", sum := "6589fa9ab5911355b5820fb98c2c51c7d218d9eccdd743150301c7471aa5628a", func := "ferryman/ferrymanlaw2.FloatTexts", spec := "floatTexts", inPlace := ["math.Float64frombits", "math.Float64bits"], named := ["internal/strconv.uint64pow10", "math/bits.deBruijn32tab", "math/bits.deBruijn64tab"], apart := false, laid := [("math/bits.deBruijn32tab", laid_math_bits_deBruijn32tab), ("math/bits.deBruijn64tab", laid_math_bits_deBruijn64tab), ("internal/strconv.uint64pow10", laid_internal_strconv_uint64pow10)], narrowed := true }
def FloatTextsUptoSaid : Prop := floatTextsUptoRow.holds Tryd.pinned (OpenSpec.upto floatTextsSpec)

/-- 'ferrymanlaw2.FloatTells', WHERE WHAT IT READS IS OF BULK AT MOST 1048576: true; the input reads as it did. -/
def floatTellsUptoRow : OpenClaim := { program := "ytdchnlmclngjmaadoor", sum := "6589fa9ab5911355b5820fb98c2c51c7d218d9eccdd743150301c7471aa5628a", func := "ferryman/ferrymanlaw2.FloatTells", spec := "floatTells", inPlace := ["math.Float64frombits", "math.Float64bits"], named := ["internal/strconv.uint64pow10", "math/bits.deBruijn32tab", "math/bits.deBruijn64tab"], apart := false, laid := [("math/bits.deBruijn32tab", laid_math_bits_deBruijn32tab), ("math/bits.deBruijn64tab", laid_math_bits_deBruijn64tab), ("internal/strconv.uint64pow10", laid_internal_strconv_uint64pow10)], narrowed := true }
def FloatTellsUptoSaid : Prop := floatTellsUptoRow.holds Tryd.pinned (OpenSpec.upto floatTellsSpec)

/-- 'ferrymanlaw2.FloatNone', WHERE WHAT IT READS IS OF BULK AT MOST 1048576: true; the input reads as it did. -/
def floatNoneUptoRow : OpenClaim := { program := "ytdchnlmclngjmaadoor", sum := "6589fa9ab5911355b5820fb98c2c51c7d218d9eccdd743150301c7471aa5628a", func := "ferryman/ferrymanlaw2.FloatNone", spec := "floatNone", inPlace := ["math.Float64frombits", "math.Float64bits"], named := ["internal/strconv.uint64pow10", "math/bits.deBruijn32tab", "math/bits.deBruijn64tab"], apart := false, laid := [("math/bits.deBruijn32tab", laid_math_bits_deBruijn32tab), ("math/bits.deBruijn64tab", laid_math_bits_deBruijn64tab), ("internal/strconv.uint64pow10", laid_internal_strconv_uint64pow10)], narrowed := true }
def FloatNoneUptoSaid : Prop := floatNoneUptoRow.holds Tryd.pinned (OpenSpec.upto floatNoneSpec)

/-- 'ferrymanlaw2.FloatEdges', WHERE WHAT IT READS IS OF BULK AT MOST 1048576: true; the input reads as it did. -/
def floatEdgesUptoRow : OpenClaim := { program := "ytdchnlmclngjmaadoor", sum := "6589fa9ab5911355b5820fb98c2c51c7d218d9eccdd743150301c7471aa5628a", func := "ferryman/ferrymanlaw2.FloatEdges", spec := "floatEdges", inPlace := ["math.Float64frombits", "math.Float64bits"], named := ["internal/strconv.uint64pow10", "math/bits.deBruijn32tab", "math/bits.deBruijn64tab"], apart := false, laid := [("math/bits.deBruijn32tab", laid_math_bits_deBruijn32tab), ("math/bits.deBruijn64tab", laid_math_bits_deBruijn64tab), ("internal/strconv.uint64pow10", laid_internal_strconv_uint64pow10)], narrowed := true }
def FloatEdgesUptoSaid : Prop := floatEdgesUptoRow.holds Tryd.pinned (OpenSpec.upto floatEdgesSpec)

/-- 'ferrymanlaw2.FloatOrder', WHERE WHAT IT READS IS OF BULK AT MOST 1048576: true; the input reads as it did. -/
def floatOrderUptoRow : OpenClaim := { program := "ytdchnlmclngjmaadoor", sum := "6589fa9ab5911355b5820fb98c2c51c7d218d9eccdd743150301c7471aa5628a", func := "ferryman/ferrymanlaw2.FloatOrder", spec := "floatOrder", inPlace := ["math.Float64frombits", "math.Float64bits"], named := ["internal/strconv.uint64pow10", "math/bits.deBruijn32tab", "math/bits.deBruijn64tab"], apart := false, laid := [("math/bits.deBruijn32tab", laid_math_bits_deBruijn32tab), ("math/bits.deBruijn64tab", laid_math_bits_deBruijn64tab), ("internal/strconv.uint64pow10", laid_internal_strconv_uint64pow10)], narrowed := true }
def FloatOrderUptoSaid : Prop := floatOrderUptoRow.holds Tryd.pinned (OpenSpec.upto floatOrderSpec)

/-- 'ferrymanlaw2.FloatSame', WHERE WHAT IT READS IS OF BULK AT MOST 1048576: true; the input reads as it did. -/
def floatSameUptoRow : OpenClaim := { program := "ytdchnlmclngjmaadoor", sum := "6589fa9ab5911355b5820fb98c2c51c7d218d9eccdd743150301c7471aa5628a", func := "ferryman/ferrymanlaw2.FloatSame", spec := "floatSame", inPlace := ["math.Float64frombits", "math.Float64bits"], named := ["internal/strconv.uint64pow10", "math/bits.deBruijn32tab", "math/bits.deBruijn64tab"], apart := false, laid := [("math/bits.deBruijn32tab", laid_math_bits_deBruijn32tab), ("math/bits.deBruijn64tab", laid_math_bits_deBruijn64tab), ("internal/strconv.uint64pow10", laid_internal_strconv_uint64pow10)], narrowed := true }
def FloatSameUptoSaid : Prop := floatSameUptoRow.holds Tryd.pinned (OpenSpec.upto floatSameSpec)

/-- 'ferrymanlaw2.FloatWholes', WHERE WHAT IT READS IS OF BULK AT MOST 1048576: true; the input reads as it did. -/
def floatWholesUptoRow : OpenClaim := { program := "ytdchnlmclngjmaadoor", sum := "6589fa9ab5911355b5820fb98c2c51c7d218d9eccdd743150301c7471aa5628a", func := "ferryman/ferrymanlaw2.FloatWholes", spec := "floatWholes", inPlace := ["math.Float64frombits", "math.Float64bits"], named := ["internal/strconv.uint64pow10", "math/bits.deBruijn32tab", "math/bits.deBruijn64tab"], apart := false, laid := [("math/bits.deBruijn32tab", laid_math_bits_deBruijn32tab), ("math/bits.deBruijn64tab", laid_math_bits_deBruijn64tab), ("internal/strconv.uint64pow10", laid_internal_strconv_uint64pow10)], narrowed := true }
def FloatWholesUptoSaid : Prop := floatWholesUptoRow.holds Tryd.pinned (OpenSpec.upto floatWholesSpec)

/-- 'ferrymanlaw2.FloatSmall', WHERE WHAT IT READS IS OF BULK AT MOST 1048576: true; the input reads as it did. -/
def floatSmallUptoRow : OpenClaim := { program := "ytdchnlmclngjmaadoor", sum := "6589fa9ab5911355b5820fb98c2c51c7d218d9eccdd743150301c7471aa5628a", func := "ferryman/ferrymanlaw2.FloatSmall", spec := "floatSmall", inPlace := ["math.Float64frombits", "math.Float64bits"], named := ["internal/strconv.uint64pow10", "math/bits.deBruijn32tab", "math/bits.deBruijn64tab"], apart := false, laid := [("math/bits.deBruijn32tab", laid_math_bits_deBruijn32tab), ("math/bits.deBruijn64tab", laid_math_bits_deBruijn64tab), ("internal/strconv.uint64pow10", laid_internal_strconv_uint64pow10)], narrowed := true }
def FloatSmallUptoSaid : Prop := floatSmallUptoRow.holds Tryd.pinned (OpenSpec.upto floatSmallSpec)

end Rows
end Go.Proofs.YtdchnlmclngjmaaDoor
