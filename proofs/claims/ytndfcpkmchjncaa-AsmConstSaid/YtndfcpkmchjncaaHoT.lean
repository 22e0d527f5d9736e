/-
  The host of the program: jumps, loads and stores as words say, with their traps.
-/
import Derived.Test.YtndfcpkmchjncaaHoS
import Derived.WalkLawsBesides
namespace Go.Proofs.Ytndfcpkmchjncaa
open Go Go.RowKit
set_option linter.unusedVariables false
set_option linter.unusedSimpArgs false

/-- how many bytes a word loads -/
def lsz (op : Int) : Int := if op = 11 ∨ op = 14 then 1 else if op = 12 ∨ op = 15 then 2 else 4
/-- what a word loads -/
def lvl (S : HS) (op a : Int) : Int := if op ≤ 13 then sgn (ldV S a (lsz op)) (8 * lsz op) % 4294967296 else ldV S a (lsz op)
theorem lvl_bd {S : HS} (h : Good S) (op a : Int) : 0 ≤ lvl S op a ∧ lvl S op a ≤ 4294967295 := by
  unfold lvl; split
  · omega
  · exact ldV_bd h _ _

/-- how many bytes a word stores -/
def ssz (op : Int) : Int := if op = 16 then 1 else if op = 17 then 2 else 4

/-- which word with two registers a word with a number is -/
def imOp (k : Int) : Int := if k = 0 then 28 else if k = 1 then 31 else if k = 2 then 32 else if k = 3 then 33 else if k = 4 then 36 else if k = 5 then 37 else if k = 6 then 30 else if k = 7 then 34 else 35

end Go.Proofs.Ytndfcpkmchjncaa
