/-
  NARROWER THAN 'FOR EVERY INPUT', by the rows' own cells (each row's printed sentence says how): RvTells: laid · RvReads: laid · RvBack: laid · RvApart: laid · RvRanges: laid · RvFields: laid · RvNumbers: laid.
  DERIVED. THE GIVEN ROWS OF THIS SEAT. 7 by the template 'for every input the law returns true; each argument reads behind the call as it read before'; 0 by the template 'total and deterministic' (their statements: YtahhfjmgdalfpaaDoorTotals.lean).
  GIVEN WITH THE SEED: the statements are not yours to turn. If you find one false, say at which input.
  Laid BY PROGRAM, IN A SANDBOX (cutbox-rows.mjs): the forced cells as the released guide's own fill.sh prints them over the translation 5135fe986d204af4… (all of the seat's roots in one cut). By AI agents, Wed Nov 11 2026. No macro, syntax, notation, axiom, sorry.
-/
import Derived.Test.YtahhfjmgdalfpaaDoorChecked
import GoSem.Claim
import GoSem.ClaimJoined
import GoSem.ClaimMapViews
import Derived.JoinedTies
import Derived.KernelRfl
namespace Go.Proofs.YtahhfjmgdalfpaaDoor
/- THE CELL 'sum', in the pinned program and in every row, IS THE sha256 OF THE DUMP (.gsa) THAT YtahhfjmgdalfpaaDoorProg.lean LOADS. Nothing in Lean hashes anything: it is a label: what it is worth is what the hold of that sum in a sandbox is worth. -/
noncomputable def Tryd.pinned : Pinned := { name := "ytahhfjmgdalfpaadoor", sum := "5135fe986d204af42d5079023acb4185efdbb7c4780cfae6647253a5489b85d0", checked := Tryd.checked }
namespace Rows
def none {H : Type} : Left H := { results := [], args := [] }

/- WHAT THE LISTED PACKAGE-LEVEL VARIABLES READ AS WHEN THE CALL BEGINS. Each datum BY PROGRAM (the guide's laid-datum.mjs) off the statement by which the dump's own 'gosem.cut.vars' lays the variable. In a bare row this is a premise. The card (YtahhfjmgdalfpaaDoorCards.lean) ties it to the program's text. -/
def laid_math_bits_deBruijn32tab {H : Type} : DataW H := .agg [.lit (.int .u8 0), .lit (.int .u8 1), .lit (.int .u8 28), .lit (.int .u8 2), .lit (.int .u8 29), .lit (.int .u8 14), .lit (.int .u8 24), .lit (.int .u8 3), .lit (.int .u8 30), .lit (.int .u8 22), .lit (.int .u8 20), .lit (.int .u8 15), .lit (.int .u8 25), .lit (.int .u8 17), .lit (.int .u8 4), .lit (.int .u8 8), .lit (.int .u8 31), .lit (.int .u8 27), .lit (.int .u8 13), .lit (.int .u8 23), .lit (.int .u8 21), .lit (.int .u8 19), .lit (.int .u8 16), .lit (.int .u8 7), .lit (.int .u8 26), .lit (.int .u8 12), .lit (.int .u8 18), .lit (.int .u8 6), .lit (.int .u8 11), .lit (.int .u8 5), .lit (.int .u8 10), .lit (.int .u8 9)]
def laid_math_bits_deBruijn64tab {H : Type} : DataW H := .agg [.lit (.int .u8 0), .lit (.int .u8 1), .lit (.int .u8 56), .lit (.int .u8 2), .lit (.int .u8 57), .lit (.int .u8 49), .lit (.int .u8 28), .lit (.int .u8 3), .lit (.int .u8 61), .lit (.int .u8 58), .lit (.int .u8 42), .lit (.int .u8 50), .lit (.int .u8 38), .lit (.int .u8 29), .lit (.int .u8 17), .lit (.int .u8 4), .lit (.int .u8 62), .lit (.int .u8 47), .lit (.int .u8 59), .lit (.int .u8 36), .lit (.int .u8 45), .lit (.int .u8 43), .lit (.int .u8 51), .lit (.int .u8 22), .lit (.int .u8 53), .lit (.int .u8 39), .lit (.int .u8 33), .lit (.int .u8 30), .lit (.int .u8 24), .lit (.int .u8 18), .lit (.int .u8 12), .lit (.int .u8 5), .lit (.int .u8 63), .lit (.int .u8 55), .lit (.int .u8 48), .lit (.int .u8 27), .lit (.int .u8 60), .lit (.int .u8 41), .lit (.int .u8 37), .lit (.int .u8 16), .lit (.int .u8 46), .lit (.int .u8 35), .lit (.int .u8 44), .lit (.int .u8 21), .lit (.int .u8 52), .lit (.int .u8 32), .lit (.int .u8 23), .lit (.int .u8 11), .lit (.int .u8 54), .lit (.int .u8 26), .lit (.int .u8 40), .lit (.int .u8 15), .lit (.int .u8 34), .lit (.int .u8 20), .lit (.int .u8 31), .lit (.int .u8 10), .lit (.int .u8 25), .lit (.int .u8 14), .lit (.int .u8 19), .lit (.int .u8 9), .lit (.int .u8 13), .lit (.int .u8 8), .lit (.int .u8 7), .lit (.int .u8 6)]
def laid_internal_strconv_uint64pow10 {H : Type} : DataW H := .agg [.lit (.int .u64 1), .lit (.int .u64 10), .lit (.int .u64 100), .lit (.int .u64 1000), .lit (.int .u64 10000), .lit (.int .u64 100000), .lit (.int .u64 1000000), .lit (.int .u64 10000000), .lit (.int .u64 100000000), .lit (.int .u64 1000000000), .lit (.int .u64 10000000000), .lit (.int .u64 100000000000), .lit (.int .u64 1000000000000), .lit (.int .u64 10000000000000), .lit (.int .u64 100000000000000), .lit (.int .u64 1000000000000000), .lit (.int .u64 10000000000000000), .lit (.int .u64 100000000000000000), .lit (.int .u64 1000000000000000000), .lit (.int .u64 10000000000000000000)]

/-- 'ferrymanlaw3.RvTells': WHATEVER THE INPUT: true; the input reads as it did. -/
def rvTellsSpec : ChangeSpec := { name := "rvTells", fn := fun _ => fun
  | [d] => { results := [.lit (.bool true)], args := [d] }
  | _ => none }
def rvTellsRow : OpenClaim := { program := "ytahhfjmgdalfpaadoor", sum := "5135fe986d204af42d5079023acb4185efdbb7c4780cfae6647253a5489b85d0", func := "ferryman/ferrymanlaw3.RvTells", spec := "rvTells", unfollowed := true, recurses := true, named := ["internal/strconv.uint64pow10", "math/bits.deBruijn32tab", "math/bits.deBruijn64tab"], plainKeys := false, apart := false, laid := [("math/bits.deBruijn32tab", laid_math_bits_deBruijn32tab), ("math/bits.deBruijn64tab", laid_math_bits_deBruijn64tab), ("internal/strconv.uint64pow10", laid_internal_strconv_uint64pow10)] }
def RvTellsSaid : Prop := rvTellsRow.holds Tryd.pinned (OpenSpec.ofChange rvTellsSpec)

/-- ITS FALSE NEIGHBOUR: 'it returns false'. Refute it at one input. -/
def rvTellsWrong : ChangeSpec := { name := "rvTells", fn := fun _ => fun
  | [d] => { results := [.lit (.bool false)], args := [d] }
  | _ => none }
def RvTellsWrongFalsely : Prop := rvTellsRow.holds Tryd.pinned (OpenSpec.ofChange rvTellsWrong)

/-- 'ferrymanlaw3.RvReads': WHATEVER THE INPUT: true; the input reads as it did. -/
def rvReadsSpec : ChangeSpec := { name := "rvReads", fn := fun _ => fun
  | [d] => { results := [.lit (.bool true)], args := [d] }
  | _ => none }
def rvReadsRow : OpenClaim := { program := "ytahhfjmgdalfpaadoor", sum := "5135fe986d204af42d5079023acb4185efdbb7c4780cfae6647253a5489b85d0", func := "ferryman/ferrymanlaw3.RvReads", spec := "rvReads", unfollowed := true, recurses := true, named := ["internal/strconv.uint64pow10", "math/bits.deBruijn32tab", "math/bits.deBruijn64tab"], plainKeys := false, apart := false, laid := [("math/bits.deBruijn32tab", laid_math_bits_deBruijn32tab), ("math/bits.deBruijn64tab", laid_math_bits_deBruijn64tab), ("internal/strconv.uint64pow10", laid_internal_strconv_uint64pow10)] }
def RvReadsSaid : Prop := rvReadsRow.holds Tryd.pinned (OpenSpec.ofChange rvReadsSpec)

/-- ITS FALSE NEIGHBOUR: 'it returns false'. Refute it at one input. -/
def rvReadsWrong : ChangeSpec := { name := "rvReads", fn := fun _ => fun
  | [d] => { results := [.lit (.bool false)], args := [d] }
  | _ => none }
def RvReadsWrongFalsely : Prop := rvReadsRow.holds Tryd.pinned (OpenSpec.ofChange rvReadsWrong)

/-- 'ferrymanlaw3.RvBack': WHATEVER THE INPUT: true; the input reads as it did. -/
def rvBackSpec : ChangeSpec := { name := "rvBack", fn := fun _ => fun
  | [d1, d2] => { results := [.lit (.bool true)], args := [d1, d2] }
  | _ => none }
def rvBackRow : OpenClaim := { program := "ytahhfjmgdalfpaadoor", sum := "5135fe986d204af42d5079023acb4185efdbb7c4780cfae6647253a5489b85d0", func := "ferryman/ferrymanlaw3.RvBack", spec := "rvBack", unfollowed := true, recurses := true, named := ["internal/strconv.uint64pow10", "math/bits.deBruijn32tab", "math/bits.deBruijn64tab"], plainKeys := false, apart := false, laid := [("math/bits.deBruijn32tab", laid_math_bits_deBruijn32tab), ("math/bits.deBruijn64tab", laid_math_bits_deBruijn64tab), ("internal/strconv.uint64pow10", laid_internal_strconv_uint64pow10)] }
def RvBackSaid : Prop := rvBackRow.holds Tryd.pinned (OpenSpec.ofChange rvBackSpec)

/-- ITS FALSE NEIGHBOUR: 'it returns false'. Refute it at one input. -/
def rvBackWrong : ChangeSpec := { name := "rvBack", fn := fun _ => fun
  | [d1, d2] => { results := [.lit (.bool false)], args := [d1, d2] }
  | _ => none }
def RvBackWrongFalsely : Prop := rvBackRow.holds Tryd.pinned (OpenSpec.ofChange rvBackWrong)

/-- 'ferrymanlaw3.RvApart': WHATEVER THE INPUT: true; the input reads as it did. -/
def rvApartSpec : ChangeSpec := { name := "rvApart", fn := fun _ => fun
  | [d1, d2] => { results := [.lit (.bool true)], args := [d1, d2] }
  | _ => none }
def rvApartRow : OpenClaim := { program := "ytahhfjmgdalfpaadoor", sum := "5135fe986d204af42d5079023acb4185efdbb7c4780cfae6647253a5489b85d0", func := "ferryman/ferrymanlaw3.RvApart", spec := "rvApart", unfollowed := true, recurses := true, named := ["internal/strconv.uint64pow10", "math/bits.deBruijn32tab", "math/bits.deBruijn64tab"], plainKeys := false, apart := false, laid := [("math/bits.deBruijn32tab", laid_math_bits_deBruijn32tab), ("math/bits.deBruijn64tab", laid_math_bits_deBruijn64tab), ("internal/strconv.uint64pow10", laid_internal_strconv_uint64pow10)] }
def RvApartSaid : Prop := rvApartRow.holds Tryd.pinned (OpenSpec.ofChange rvApartSpec)

/-- ITS FALSE NEIGHBOUR: 'it returns false'. Refute it at one input. -/
def rvApartWrong : ChangeSpec := { name := "rvApart", fn := fun _ => fun
  | [d1, d2] => { results := [.lit (.bool false)], args := [d1, d2] }
  | _ => none }
def RvApartWrongFalsely : Prop := rvApartRow.holds Tryd.pinned (OpenSpec.ofChange rvApartWrong)

/-- 'ferrymanlaw3.RvRanges': WHATEVER THE INPUT: true; the input reads as it did. -/
def rvRangesSpec : ChangeSpec := { name := "rvRanges", fn := fun _ => fun
  | [d1, d2, d3, d4, d5] => { results := [.lit (.bool true)], args := [d1, d2, d3, d4, d5] }
  | _ => none }
def rvRangesRow : OpenClaim := { program := "ytahhfjmgdalfpaadoor", sum := "5135fe986d204af42d5079023acb4185efdbb7c4780cfae6647253a5489b85d0", func := "ferryman/ferrymanlaw3.RvRanges", spec := "rvRanges", unfollowed := true, recurses := true, named := ["internal/strconv.uint64pow10", "math/bits.deBruijn32tab", "math/bits.deBruijn64tab"], plainKeys := false, apart := false, laid := [("math/bits.deBruijn32tab", laid_math_bits_deBruijn32tab), ("math/bits.deBruijn64tab", laid_math_bits_deBruijn64tab), ("internal/strconv.uint64pow10", laid_internal_strconv_uint64pow10)] }
def RvRangesSaid : Prop := rvRangesRow.holds Tryd.pinned (OpenSpec.ofChange rvRangesSpec)

/-- ITS FALSE NEIGHBOUR: 'it returns false'. Refute it at one input. -/
def rvRangesWrong : ChangeSpec := { name := "rvRanges", fn := fun _ => fun
  | [d1, d2, d3, d4, d5] => { results := [.lit (.bool false)], args := [d1, d2, d3, d4, d5] }
  | _ => none }
def RvRangesWrongFalsely : Prop := rvRangesRow.holds Tryd.pinned (OpenSpec.ofChange rvRangesWrong)

/-- 'ferrymanlaw3.RvFields': WHATEVER THE INPUT: true; the input reads as it did. -/
def rvFieldsSpec : ChangeSpec := { name := "rvFields", fn := fun _ => fun
  | [d1, d2, d3, d4, d5] => { results := [.lit (.bool true)], args := [d1, d2, d3, d4, d5] }
  | _ => none }
def rvFieldsRow : OpenClaim := { program := "ytahhfjmgdalfpaadoor", sum := "5135fe986d204af42d5079023acb4185efdbb7c4780cfae6647253a5489b85d0", func := "ferryman/ferrymanlaw3.RvFields", spec := "rvFields", unfollowed := true, recurses := true, named := ["internal/strconv.uint64pow10", "math/bits.deBruijn32tab", "math/bits.deBruijn64tab"], plainKeys := false, apart := false, laid := [("math/bits.deBruijn32tab", laid_math_bits_deBruijn32tab), ("math/bits.deBruijn64tab", laid_math_bits_deBruijn64tab), ("internal/strconv.uint64pow10", laid_internal_strconv_uint64pow10)] }
def RvFieldsSaid : Prop := rvFieldsRow.holds Tryd.pinned (OpenSpec.ofChange rvFieldsSpec)

/-- ITS FALSE NEIGHBOUR: 'it returns false'. Refute it at one input. -/
def rvFieldsWrong : ChangeSpec := { name := "rvFields", fn := fun _ => fun
  | [d1, d2, d3, d4, d5] => { results := [.lit (.bool false)], args := [d1, d2, d3, d4, d5] }
  | _ => none }
def RvFieldsWrongFalsely : Prop := rvFieldsRow.holds Tryd.pinned (OpenSpec.ofChange rvFieldsWrong)

/-- 'ferrymanlaw3.RvNumbers': WHATEVER THE INPUT: true; the input reads as it did. -/
def rvNumbersSpec : ChangeSpec := { name := "rvNumbers", fn := fun _ => fun
  | [d1, d2] => { results := [.lit (.bool true)], args := [d1, d2] }
  | _ => none }
def rvNumbersRow : OpenClaim := { program := "ytahhfjmgdalfpaadoor", sum := "5135fe986d204af42d5079023acb4185efdbb7c4780cfae6647253a5489b85d0", func := "ferryman/ferrymanlaw3.RvNumbers", spec := "rvNumbers", unfollowed := true, recurses := true, named := ["internal/strconv.uint64pow10", "math/bits.deBruijn32tab", "math/bits.deBruijn64tab"], plainKeys := false, apart := false, laid := [("math/bits.deBruijn32tab", laid_math_bits_deBruijn32tab), ("math/bits.deBruijn64tab", laid_math_bits_deBruijn64tab), ("internal/strconv.uint64pow10", laid_internal_strconv_uint64pow10)] }
def RvNumbersSaid : Prop := rvNumbersRow.holds Tryd.pinned (OpenSpec.ofChange rvNumbersSpec)

/-- ITS FALSE NEIGHBOUR: 'it returns false'. Refute it at one input. -/
def rvNumbersWrong : ChangeSpec := { name := "rvNumbers", fn := fun _ => fun
  | [d1, d2] => { results := [.lit (.bool false)], args := [d1, d2] }
  | _ => none }
def RvNumbersWrongFalsely : Prop := rvNumbersRow.holds Tryd.pinned (OpenSpec.ofChange rvNumbersWrong)

/- THE SECOND FORM. 'bulk': how many values and letters a reading holds, each counted each time it is reached (what is shared counts as often as it is met; a slice's spare places count too). A statement '..UptoSaid' is the law's where the arguments, and the package variables that the reading takes, are together of bulk at most 1048576: NARROWER than '..Said'. Prove '..Said' where nothing that the law and all that it calls make is longer than what came in: it says more and counts as full. Else prove '..UptoSaid'. A law counts once. -/
mutual
def uptoBulk {H : Type} : DataW H → Nat
  | .lit (.string bytes) => bytes.length + 1
  | .lit _ => 1
  | .nil => 1
  | .ptr d => uptoBulk d + 1
  | .slice elems spare => uptoBulkAll elems + uptoBulkAll spare + 1
  | .agg parts => uptoBulkAll parts + 1
  | .iface _ d => uptoBulk d + 1
  | .map entries => uptoBulkEntries entries + 1
  | .held _ => 1
def uptoBulkAll {H : Type} : List (DataW H) → Nat
  | [] => 0
  | d :: r => uptoBulk d + uptoBulkAll r
def uptoBulkEntries {H : Type} : List (Lit × DataW H) → Nat
  | [] => 0
  | x :: r => uptoBulkEntry x + uptoBulkEntries r
def uptoBulkEntry {H : Type} : Lit × DataW H → Nat
  | (.string bytes, d) => bytes.length + uptoBulk d + 1
  | (_, d) => uptoBulk d + 1
 end
def uptoSmall : (H : Type) → List (DataW H) → Bool := fun _ ds => decide (uptoBulkAll ds ≤ 1048576)
def OpenSpec.upto (s : _root_.Go.ChangeSpec) : _root_.Go.OpenSpec := { _root_.Go.OpenSpec.ofChange s with cond := some uptoSmall }

/-- 'ferrymanlaw3.RvTells', WHERE WHAT IT READS IS OF BULK AT MOST 1048576: true; the input reads as it did. -/
def rvTellsUptoRow : OpenClaim := { program := "ytahhfjmgdalfpaadoor", sum := "5135fe986d204af42d5079023acb4185efdbb7c4780cfae6647253a5489b85d0", func := "ferryman/ferrymanlaw3.RvTells", spec := "rvTells", unfollowed := true, recurses := true, named := ["internal/strconv.uint64pow10", "math/bits.deBruijn32tab", "math/bits.deBruijn64tab"], plainKeys := false, apart := false, laid := [("math/bits.deBruijn32tab", laid_math_bits_deBruijn32tab), ("math/bits.deBruijn64tab", laid_math_bits_deBruijn64tab), ("internal/strconv.uint64pow10", laid_internal_strconv_uint64pow10)], narrowed := true }
def RvTellsUptoSaid : Prop := rvTellsUptoRow.holds Tryd.pinned (OpenSpec.upto rvTellsSpec)

/-- 'ferrymanlaw3.RvReads', WHERE WHAT IT READS IS OF BULK AT MOST 1048576: true; the input reads as it did. -/
def rvReadsUptoRow : OpenClaim := { program := "ytahhfjmgdalfpaadoor", sum := "5135fe986d204af42d5079023acb4185efdbb7c4780cfae6647253a5489b85d0", func := "ferryman/ferrymanlaw3.RvReads", spec := "rvReads", unfollowed := true, recurses := true, named := ["internal/strconv.uint64pow10", "math/bits.deBruijn32tab", "math/bits.deBruijn64tab"], plainKeys := false, apart := false, laid := [("math/bits.deBruijn32tab", laid_math_bits_deBruijn32tab), ("math/bits.deBruijn64tab", laid_math_bits_deBruijn64tab), ("internal/strconv.uint64pow10", laid_internal_strconv_uint64pow10)], narrowed := true }
def RvReadsUptoSaid : Prop := rvReadsUptoRow.holds Tryd.pinned (OpenSpec.upto rvReadsSpec)

/-- 'ferrymanlaw3.RvBack', WHERE WHAT IT READS IS OF BULK AT MOST 1048576: true; the input reads as it did. -/
def rvBackUptoRow : OpenClaim := { program := "ytahhfjmgdalfpaadoor", sum := "5135fe986d204af42d5079023acb4185efdbb7c4780cfae6647253a5489b85d0", func := "ferryman/ferrymanlaw3.RvBack", spec := "rvBack", unfollowed := true, recurses := true, named := ["internal/strconv.uint64pow10", "math/bits.deBruijn32tab", "math/bits.deBruijn64tab"], plainKeys := false, apart := false, laid := [("math/bits.deBruijn32tab", laid_math_bits_deBruijn32tab), ("math/bits.deBruijn64tab", laid_math_bits_deBruijn64tab), ("internal/strconv.uint64pow10", laid_internal_strconv_uint64pow10)], narrowed := true }
def RvBackUptoSaid : Prop := rvBackUptoRow.holds Tryd.pinned (OpenSpec.upto rvBackSpec)

/-- 'ferrymanlaw3.RvApart', WHERE WHAT IT READS IS OF BULK AT MOST 1048576: true; the input reads as it did. -/
def rvApartUptoRow : OpenClaim := { program := "ytahhfjmgdalfpaadoor", sum := "5135fe986d204af42d5079023acb4185efdbb7c4780cfae6647253a5489b85d0", func := "ferryman/ferrymanlaw3.RvApart", spec := "rvApart", unfollowed := true, recurses := true, named := ["internal/strconv.uint64pow10", "math/bits.deBruijn32tab", "math/bits.deBruijn64tab"], plainKeys := false, apart := false, laid := [("math/bits.deBruijn32tab", laid_math_bits_deBruijn32tab), ("math/bits.deBruijn64tab", laid_math_bits_deBruijn64tab), ("internal/strconv.uint64pow10", laid_internal_strconv_uint64pow10)], narrowed := true }
def RvApartUptoSaid : Prop := rvApartUptoRow.holds Tryd.pinned (OpenSpec.upto rvApartSpec)

/-- 'ferrymanlaw3.RvRanges', WHERE WHAT IT READS IS OF BULK AT MOST 1048576: true; the input reads as it did. -/
def rvRangesUptoRow : OpenClaim := { program := "ytahhfjmgdalfpaadoor", sum := "5135fe986d204af42d5079023acb4185efdbb7c4780cfae6647253a5489b85d0", func := "ferryman/ferrymanlaw3.RvRanges", spec := "rvRanges", unfollowed := true, recurses := true, named := ["internal/strconv.uint64pow10", "math/bits.deBruijn32tab", "math/bits.deBruijn64tab"], plainKeys := false, apart := false, laid := [("math/bits.deBruijn32tab", laid_math_bits_deBruijn32tab), ("math/bits.deBruijn64tab", laid_math_bits_deBruijn64tab), ("internal/strconv.uint64pow10", laid_internal_strconv_uint64pow10)], narrowed := true }
def RvRangesUptoSaid : Prop := rvRangesUptoRow.holds Tryd.pinned (OpenSpec.upto rvRangesSpec)

/-- 'ferrymanlaw3.RvFields', WHERE WHAT IT READS IS OF BULK AT MOST 1048576: true; the input reads as it did. -/
def rvFieldsUptoRow : OpenClaim := { program := "ytahhfjmgdalfpaadoor", sum := "5135fe986d204af42d5079023acb4185efdbb7c4780cfae6647253a5489b85d0", func := "ferryman/ferrymanlaw3.RvFields", spec := "rvFields", unfollowed := true, recurses := true, named := ["internal/strconv.uint64pow10", "math/bits.deBruijn32tab", "math/bits.deBruijn64tab"], plainKeys := false, apart := false, laid := [("math/bits.deBruijn32tab", laid_math_bits_deBruijn32tab), ("math/bits.deBruijn64tab", laid_math_bits_deBruijn64tab), ("internal/strconv.uint64pow10", laid_internal_strconv_uint64pow10)], narrowed := true }
def RvFieldsUptoSaid : Prop := rvFieldsUptoRow.holds Tryd.pinned (OpenSpec.upto rvFieldsSpec)

/-- 'ferrymanlaw3.RvNumbers', WHERE WHAT IT READS IS OF BULK AT MOST 1048576: true; the input reads as it did. -/
def rvNumbersUptoRow : OpenClaim := { program := "ytahhfjmgdalfpaadoor", sum := "5135fe986d204af42d5079023acb4185efdbb7c4780cfae6647253a5489b85d0", func := "ferryman/ferrymanlaw3.RvNumbers", spec := "rvNumbers", unfollowed := true, recurses := true, named := ["internal/strconv.uint64pow10", "math/bits.deBruijn32tab", "math/bits.deBruijn64tab"], plainKeys := false, apart := false, laid := [("math/bits.deBruijn32tab", laid_math_bits_deBruijn32tab), ("math/bits.deBruijn64tab", laid_math_bits_deBruijn64tab), ("internal/strconv.uint64pow10", laid_internal_strconv_uint64pow10)], narrowed := true }
def RvNumbersUptoSaid : Prop := rvNumbersUptoRow.holds Tryd.pinned (OpenSpec.upto rvNumbersSpec)

end Rows
end Go.Proofs.YtahhfjmgdalfpaaDoor
