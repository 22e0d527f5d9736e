/-
  WholeShifts: the ways through it, by what its numbers are made of.
-/
import Derived.Test.YtgeankpiediebaaGreatKnd
noncomputable section
namespace Go.Proofs.YtgeankpiediebaaGreat
open Go.Fx
set_option maxRecDepth 100000
/-- a number that is small; a multiple of 4096; neither -/
inductive K3 where | h | r | n
/-- by a number that is 1; by a number; by a register; by one -/
inductive Hw where | one | im | reg | by1
/-- by nought; by one; by more -/
inductive Sh where | z | o | m
inductive S5 where | shl | shr | sar | rol | ror
def sfA : SE := .v .u32 0
def sfN : SE := .v .u8 1
def sfK : SE := .ext (.v .u8 1) 0 5
def sfOp : SE := .bin .rem .u8 (.v .u8 2) (.lit 5)
def sfHow : SE := .bin .rem .u8 (.v .u8 3) (.lit 3)
def S5.num : S5 → Nat
  | .shl => 0
  | .shr => 1
  | .sar => 2
  | .rol => 3
  | .ror => 4
def Hw.num : Hw → Nat
  | .one => 0
  | .im => 0
  | .reg => 1
  | .by1 => 2
def sfArgs : Hw → List V
  | .one => [.c (.ivar .u8 (.v .u8 2)), .c (.ivar .u32 (.v .u32 0)), .c (.u8 1), .c (.ivar .u8 (.v .u8 3))]
  | _ => [.c (.ivar .u8 (.v .u8 2)), .c (.ivar .u32 (.v .u32 0)), .c (.ivar .u8 (.v .u8 1)), .c (.ivar .u8 (.v .u8 3))]
def sfH : SE := .cmp .eql (.sx (.hi (.v .u32 0)) 32) (.lit 0)
def sfR : SE := .cmp .eql (.sx (.ext (.v .u32 0) 0 12) 12) (.lit 0)
def sfN1 : SE := .cmp .eql (.v .u8 1) (.lit 1)
def sfK0 : SE := .cmp .eql sfK (.lit 0)
def sfK1 : SE := .cmp .eql sfK (.lit 1)
def K3.dec : K3 → List (SE × Bool)
  | .h => [(sfH, true)]
  | .r => [(sfH, false), (sfR, true)]
  | .n => [(sfH, false), (sfR, false)]
def sfBack : SE := .bin .sub .u32 (.lit 32) sfK
def sfBack5 : SE := .ext (.bin .sub .u32 (.lit 32) sfK) 0 5
def sfLess : SE := .bin .sub .u32 sfK (.lit 1)
def sfLess5 : SE := .ext (.bin .add .u32 sfK (.lit 4294967295)) 0 5
def sfL (k : SE) : SE := .bin .shl .u32 sfA k
def sfS (k : SE) : SE := .bin .shr .u32 sfA k
def sfG (k : SE) : SE := .bin .shr .i32 (.sx sfA 32) k
def sfU (a b : SE) : SE := .bin .or .u32 a b
def sfX (a b : SE) : SE := .bin .xor .u32 a b
def sfChain : List SE → SE → SE
  | [], c => c
  | b :: l, c => sfChain l (.same c (.not b))
def sfPar (r4 r : SE) (bs : List SE) : SE := .same (.ext (.bin .shr .u32 (.lit 38505) (.ext (sfX r4 r) 0 4)) 0 1) (sfChain bs (.lit 1))
def sfBits (x : SE) : List SE := [.ext x 0 1, .ext x 1 1, .ext x 2 1, .ext x 3 1, .ext x 4 1, .ext x 5 1, .ext x 6 1, .ext x 7 1]
def sfZero (r : SE) : SE := .same (.cmp .lss r (.lit 1)) (.cmp .eql r (.lit 0))
/-- do the two tell apart whether the bits differ? -/
def sfOv (a b c d : SE) : SE := .same (sfX a b) (.not (.same c d))
def sfRol1 : SE := sfU (sfL sfK) (sfS sfBack5)
def sfRol2 : SE := sfU (sfL sfK) (sfS sfBack)
def sfRor1 : SE := sfU (sfS sfK) (sfL sfBack5)
def sfRor2 : SE := sfU (sfS sfK) (sfL sfBack)
def sfD : SE := .cat (.lit 0) 1 (.ext sfA 0 31)
def sfC : S5 → SE
  | .shl => .same (.ext (sfS sfBack5) 0 1) (.ext (sfS sfBack) 0 1)
  | .shr => .same (.ext (sfS sfLess5) 0 1) (.ext (sfS sfLess) 0 1)
  | .sar => .same (.ext (sfS sfLess5) 0 1) (.ext (sfG sfLess) 0 1)
  | .rol => .same (.ext sfRol1 0 1) (.ext sfRol2 0 1)
  | .ror => .same (.ext sfRor1 31 1) (.ext sfRor2 31 1)
def sfP : S5 → SE
  | .shl => sfPar (.ext (sfL sfK) 4 28) (sfL sfK) (sfBits (sfL sfK))
  | .shr => sfPar (.ext (sfS sfK) 4 28) (sfS sfK) (sfBits (sfS sfK))
  | _ => sfPar (.ext (sfG sfK) 4 28) (.ext (sfG sfK) 0 32) (sfBits (sfG sfK))
def sfZ : S5 → SE
  | .shl => sfZero (sfL sfK)
  | .shr => sfZero (sfS sfK)
  | _ => sfZero (.ext (sfG sfK) 0 32)
def sfTm : S5 → SE
  | .rol => sfC .rol
  | .ror => sfC .ror
  | s => .and (sfC s) (.and (sfP s) (sfZ s))
def sfTo : S5 → SE
  | .shl => .and (sfC .shl) (.and (sfP .shl) (.and (sfZ .shl) (sfOv (.ext (sfL sfK) 31 1) (.ext (sfS sfBack5) 0 1) (.ext (sfL sfK) 31 1) (.ext (sfS sfBack) 0 1))))
  | .rol => .and (sfC .rol) (sfOv (.ext sfRol1 31 1) (.ext sfRol1 0 1) (.ext sfRol2 31 1) (.ext sfRol2 0 1))
  | .ror => .and (sfC .ror) (.same (.ext (sfX (.ext sfRor1 30 2) (.ext sfRor1 31 1)) 0 1) (.not (.cmp .eql (.ext sfRor2 31 1) (.ext sfRor2 30 1))))
  | s => sfTm s
def sfT1 : S5 → SE
  | .shl => .and (sfPar (.ext sfA 3 28) sfD (.lit 0 :: [.ext sfA 0 1, .ext sfA 1 1, .ext sfA 2 1, .ext sfA 3 1, .ext sfA 4 1, .ext sfA 5 1, .ext sfA 6 1])) (.and (sfZero sfD) (sfOv (.ext sfA 30 1) (.ext sfA 31 1) (.ext sfA 30 1) (.ext sfA 31 1)))
  | .shr => .and (sfPar (.ext sfA 5 27) (.ext sfA 1 31) [.ext sfA 1 1, .ext sfA 2 1, .ext sfA 3 1, .ext sfA 4 1, .ext sfA 5 1, .ext sfA 6 1, .ext sfA 7 1, .ext sfA 8 1]) (sfZero (.ext sfA 1 31))
  | .sar => .and (sfPar (.ext (sfG (.lit 1)) 4 28) (.ext (sfG (.lit 1)) 0 32) (sfBits (sfG (.lit 1)))) (sfZero (.ext (sfG (.lit 1)) 0 32))
  | .rol => sfOv (.ext sfA 30 1) (.ext sfA 31 1) (.ext sfA 30 1) (.ext sfA 31 1)
  | .ror => .same (.ext (sfX (.cat (.ext sfA 31 1) 1 (.ext sfA 0 1)) (.ext sfA 0 1)) 0 1) (.not (.cmp .eql (.ext sfA 0 1) (.ext sfA 31 1)))
def sfE (s : S5) : Sh → C
  | .z => .bool true
  | .o => .bvar (sfTo s) false
  | .m => .bvar (sfTm s) false
def sfOut (s : S5) (w : Hw) (e : Sh) : C :=
  match w with
  | .one => .bvar (sfT1 s) false
  | .by1 => .bvar (sfT1 s) false
  | _ => sfE s e
def sfDR : S5 → List (SE × Bool)
  | .rol => [(.cmp .eql sfRol1 sfRol2, true)]
  | .ror => [(.cmp .eql sfRor1 sfRor2, true)]
  | _ => []
def sfD1 : S5 → List (SE × Bool)
  | .ror => [(.cmp .eql (.cat (.ext sfA 1 8) 8 (.cat (.ext sfA 9 8) 8 (.cat (.ext sfA 17 8) 8 (.cat (.ext sfA 25 7) 7 (.ext sfA 0 1))))) (.cat (.ext sfA 1 31) 31 (.ext sfA 0 1)), true)]
  | _ => []
def sfDE (s : S5) : Sh → List (SE × Bool)
  | .z => [(sfK0, true)]
  | .o => (sfK0, false) :: (sfK1, true) :: sfDR s
  | .m => (sfK0, false) :: (sfK1, false) :: sfDR s
def sfDec (s : S5) (w : Hw) (a : K3) (e : Sh) : List (SE × Bool) :=
  match w with
  | .one => a.dec ++ sfD1 s
  | .by1 => a.dec ++ sfD1 s
  | .im => (sfN1, false) :: (a.dec ++ sfDE s e)
  | .reg => a.dec ++ sfDE s e
def sfDs (s : S5) (w : Hw) (a : K3) (e : Sh) : List Bool := (sfDec s w a e).map Prod.snd
def sfNum (s : S5) (w : Hw) : List (SE × Int) := [(sfOp, (s.num : Int)), (sfHow, (w.num : Int))]
def sfMet (s : S5) (w : Hw) (a : K3) (e : Sh) : Met := ⟨[], sfDec s w a e, sfNum s w, .c (sfOut s w e)⟩
def sfRun (s : S5) (w : Hw) (ds : List Bool) : Option Met := metOf (runE (XP [(sfOp, [(s.num : Int)]), (sfHow, [(w.num : Int)])]) 90 9 (sfArgs w) 0) ds [] [] []
/-- one way of WholeShifts -/
def sfWay (s : S5) (w : Hw) (a : K3) (e : Sh) : Prop := sfRun s w (sfDs s w a e) = some (sfMet s w a e)
end Go.Proofs.YtgeankpiediebaaGreat
end
