/-
  What the operations on numbers make, as plain functions. No program in sight.
-/
import Derived.Test.YtdchnlmclngjmaaDoorDig
import Derived.Laws.FloatArith
namespace Go.Proofs.YtdchnlmclngjmaaDoor
open Go.Sx
/-- a number's bits, one for all that are no number -/
def nrm (b : Nat) : Int := if Ieee.double.order b b = some .eq then (b : Int) else 9221120237041090560
def nanW (t : Nat) : Nat := t % 2 * 9223372036854775808 + 9218868437227405312 + 1 + t / 2 % 4503599627370495
/-- what an operation makes -/
def arith (op : BinOp) (a b : Int) : Int :=
  match floatBits op .f64 a.toNat b.toNat with
  | some r => nrm r
  | none => 9221120237041090560
/-- is it a number? -/
def isN (a : Int) : Bool := Ieee.double.order a.toNat a.toNat == some .eq
def cz (a b : Int) : Bool := bif isN a && isN b then Ieee.double.order a.toNat b.toNat == some .eq else true
def cp (a b : Int) : Bool := !(isN a && isN b)
def cc (a b : Int) : Bool := bif isN a && isN b then Ieee.double.order a.toNat b.toNat == some .lt else true
/-- the document's word: no number -/
def noN (a : Int) : Bool := decide (IntKind.u64.wrap (a * 2) > 18437736874454810624)
def rz (a b : Int) : Bool := bif noN a || noN b then true else Ieee.double.order a.toNat b.toNat == some .eq
def rp (a b : Int) : Bool := noN a || noN b
def rc (a b : Int) : Bool := bif noN a || noN b then true else Ieee.double.order a.toNat b.toNat == some .lt
def arithD (op a b : Int) : Int := if op = 0 then arith .add a b else if op = 1 then arith .sub a b else if op = 2 then arith .mul a b else arith .quo a b
def dg36 : ByteArray := ⟨#[48, 49, 50, 51, 52, 53, 54, 55, 56, 57, 97, 98, 99, 100, 101, 102, 103, 104, 105, 106, 107, 108, 109, 110, 111, 112, 113, 114, 115, 116, 117, 118, 119, 120, 121, 122]⟩
def dg16 : ByteArray := ⟨#[48, 49, 50, 51, 52, 53, 54, 55, 56, 57, 97, 98, 99, 100, 101, 102]⟩
def tzF (a : Int) : Int := if a = 0 then 64 else pinTab.getD (IntKind.wrap .u64 (ibin .and .u64 a (IntKind.wrap .u64 (-a)) * 285870213051353865) / 288230376151711744).toNat 0
/-- a whole number's bits: shifted up till it has 53 digits -/
def up52 : Nat → Int → Int → Int × Int
  | 0, m, e => (m, e)
  | k + 1, m, e => if m / 4503599627370496 = 0 then up52 k (IntKind.wrap .u64 (m * 2)) (IntKind.wrap .u64 (e - 1)) else (m, e)
def wholeU (s u : Int) : Int :=
  ibin .or .u64 (ibin .or .u64 s (ibin .shl .u64 (up52 60 u 1075).2 52)) (ibin .and .u64 (up52 60 u 1075).1 4503599627370495)
def wholeF (n : Int) : Int :=
  if n = 0 then 0 else if n < 0 then wholeU 9223372036854775808 (IntKind.wrap .u64 (IntKind.wrap .i64 (-n))) else wholeU 0 (IntKind.wrap .u64 n)
end Go.Proofs.YtdchnlmclngjmaaDoor
