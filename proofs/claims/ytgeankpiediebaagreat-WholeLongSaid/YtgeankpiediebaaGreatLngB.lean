/-
  WholeLong: the ways through it, by what its four numbers are made of.
-/
import Derived.Test.YtgeankpiediebaaGreatKnd
noncomputable section
namespace Go.Proofs.YtgeankpiediebaaGreat
open Go.Fx
set_option maxRecDepth 100000
/-- a number that is small; a multiple of 4096; neither -/
inductive K3 where | h | r | n
def lngArgs (less : Bool) : List V := [.c (.ivar .u64 (.v .u64 0)), .c (.ivar .u64 (.v .u64 1)), .c (.bool less)]
def lngX (i s : Nat) : SE := .ext (.v .u64 i) s 32
/-- does a byte with its sign tell it? -/
def lngD (s : Nat) : SE := .cmp .eql (.ext (.sx (.ext (.v .u64 1) s 8) 8) 0 32) (.ext (.v .u64 1) s 32)
def lngH (i s : Nat) : SE := .cmp .eql (.sx (.hi (.ext (.v .u64 i) s 32)) 32) (.lit 0)
def lngR (i s : Nat) : SE := .cmp .eql (.sx (.ext (.v .u64 i) s 12) 12) (.lit 0)
def K3.ds : K3 → List Bool
  | .h => [true]
  | .r => [false, true]
  | .n => [false, false]
def K3.dec (i s : Nat) : K3 → List (SE × Bool)
  | .h => [(lngH i s, true)]
  | .r => [(lngH i s, false), (lngR i s, true)]
  | .n => [(lngH i s, false), (lngR i s, false)]
def fitB (b : Option K3) : Bool := match b with | none => true | some _ => false
def parts3 (b : Option K3) : K3 := match b with | none => .h | some k => k
def lngDs (a c : K3) (b d : Option K3) : List Bool := fitB b :: fitB d :: (a.ds ++ (c.ds ++ ((parts3 b).ds ++ ((parts3 d).ds ++ [true]))))
def lngC (less : Bool) : SE :=
  match less with
  | true => .cmp .eql (.bin .sub .u32 (.bin .sub .u32 (lngX 0 32) (lngX 1 32)) (.cmp .lss (lngX 0 0) (lngX 1 0))) (.ext (.bin .sub .u64 (.v .u64 0) (.v .u64 1)) 32 32)
  | false => .cmp .eql (.bin .add .u32 (.bin .add .u32 (lngX 0 32) (lngX 1 32)) (.cmp .lss (.bin .add .u32 (lngX 0 0) (lngX 1 0)) (lngX 0 0))) (.ext (.bin .add .u64 (.v .u64 0) (.v .u64 1)) 32 32)
def lngO (less : Bool) : SE :=
  match less with
  | true => .cmp .eql (.bin .sub .u32 (lngX 0 0) (lngX 1 0)) (.ext (.bin .sub .u64 (.v .u64 0) (.v .u64 1)) 0 32)
  | false => .cmp .eql (.bin .add .u32 (lngX 0 0) (lngX 1 0)) (.ext (.bin .add .u64 (.v .u64 0) (.v .u64 1)) 0 32)
def lngDec (less : Bool) (a c : K3) (b d : Option K3) : List (SE × Bool) :=
  (lngD 0, fitB b) :: (lngD 32, fitB d) :: (a.dec 0 0 ++ (c.dec 0 32 ++ ((parts3 b).dec 1 0 ++ ((parts3 d).dec 1 32 ++ [(lngC less, true)]))))
def lngMet (less : Bool) (a c : K3) (b d : Option K3) : Met := ⟨[], lngDec less a c b d, [], .c (.bvar (lngO less) false)⟩
def lngRun (less : Bool) (ds : List Bool) : Option Met := metOf (runE (XP []) 90 10 (lngArgs less) 0) ds [] [] []
/-- one way of WholeLong -/
def lngWay (less : Bool) (a c : K3) (b d : Option K3) : Prop := lngRun less (lngDs a c b d) = some (lngMet less a c b d)
end Go.Proofs.YtgeankpiediebaaGreat
end
