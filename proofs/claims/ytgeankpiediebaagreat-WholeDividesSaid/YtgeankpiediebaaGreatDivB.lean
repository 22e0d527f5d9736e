/-
  WholeDivides: the ways through it, by what its numbers are made of.
-/
import Derived.Test.YtgeankpiediebaaGreatKnd
noncomputable section
namespace Go.Proofs.YtgeankpiediebaaGreat
open Go.Fx
set_option maxRecDepth 100000
/-- a number that is small; a multiple of 4096; neither -/
inductive K3 where | h | r | n
/-- by nought; the quotient is too great; it is none of these -/
inductive Dv where | z | g | l
def dvArgs : List V := [.c (.ivar .u32 (.v .u32 0)), .c (.ivar .u32 (.v .u32 1)), .c (.ivar .u32 (.v .u32 2)), .c (.ivar .u8 (.v .u8 3))]
def dvK : SE := .bin .rem .u8 (.v .u8 3) (.lit 10)
def dvH (i : Nat) : SE := .cmp .eql (.sx (.hi (.v .u32 i)) 32) (.lit 0)
def dvR (i : Nat) : SE := .cmp .eql (.sx (.ext (.v .u32 i) 0 12) 12) (.lit 0)
def K3.ds : K3 → List Bool
  | .h => [true]
  | .r => [false, true]
  | .n => [false, false]
def K3.dec (i : Nat) : K3 → List (SE × Bool)
  | .h => [(dvH i, true)]
  | .r => [(dvH i, false), (dvR i, true)]
  | .n => [(dvH i, false), (dvR i, false)]
def dvN : SE := .cat (.v .u32 1) 32 (.v .u32 0)
def dvZ : SE := .cmp .eql (.v .u32 2) (.lit 0)
def dvG : SE := .cmp .gtr (.bin .quo .u64 dvN (.v .u32 2)) (.lit 4294967295)
def dvL : SE := .cmp .lss (.v .u32 0) (.v .u32 2)
def dvQ : Ev := .side (.bin .quo .u64 (.var dvN) (.var (.v .u32 2)))
def dvM : Ev := .side (.bin .rem .u64 (.var dvN) (.var (.v .u32 2)))
def Dv.ds : Dv → List Bool
  | .z => [true, false]
  | .g => [false, true, false]
  | .l => [false, false, true]
def Dv.dec : Dv → List (SE × Bool)
  | .z => [(dvZ, true), (dvL, false)]
  | .g => [(dvZ, false), (dvG, true), (dvL, false)]
  | .l => [(dvZ, false), (dvG, false), (dvL, true)]
def Dv.evs : Dv → List Ev
  | .z => []
  | .g => [dvQ]
  | .l => [dvQ, dvM, dvQ]
def dvDs (a b c : K3) (e : Dv) : List Bool := a.ds ++ (b.ds ++ (c.ds ++ e.ds))
def dvMet (k : Nat) (a b c : K3) (e : Dv) : Met := ⟨e.evs, a.dec 1 ++ (b.dec 0 ++ (c.dec 2 ++ e.dec)), List.replicate (k + 2) (dvK, (k : Int)), .c (.bool true)⟩
def dvRun (k : Nat) (ds : List Bool) : Option Met := metOf (runE (XP [(dvK, [(k : Int)])]) 90 7 dvArgs 0) ds [] [] []
/-- one way of WholeDivides -/
def dvWay (k : Nat) (a b c : K3) (e : Dv) : Prop := dvRun k (dvDs a b c e) = some (dvMet k a b c e)
def dvL5 (k : Nat) (a b : K3) : List (Option Met) := [dvRun k (dvDs a b .h .z), dvRun k (dvDs a b .h .g), dvRun k (dvDs a b .h .l), dvRun k (dvDs a b .r .g), dvRun k (dvDs a b .r .l)]
def dvM5 (k : Nat) (a b : K3) : List (Option Met) := [some (dvMet k a b .h .z), some (dvMet k a b .h .g), some (dvMet k a b .h .l), some (dvMet k a b .r .g), some (dvMet k a b .r .l)]
def dvL2 (k : Nat) (a b : K3) : List (Option Met) := [dvRun k (dvDs a b .n .g), dvRun k (dvDs a b .n .l)]
def dvM2 (k : Nat) (a b : K3) : List (Option Met) := [some (dvMet k a b .n .g), some (dvMet k a b .n .l)]
end Go.Proofs.YtgeankpiediebaaGreat
end
