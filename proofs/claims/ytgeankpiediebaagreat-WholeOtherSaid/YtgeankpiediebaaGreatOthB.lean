/-
  WholeOther, run by some of its ways: how many instructions are ahead, which isn't one.
-/
import Derived.Test.YtgeankpiediebaaGreatKnw
noncomputable section
namespace Go.Proofs.YtgeankpiediebaaGreat
open Go.Fx
set_option maxRecDepth 100000
def othArgs : List V := [.c (.ivar .u8 (.v .u8 0)), .c (.ivar .u8 (.v .u8 1))]
def othK : SE := .bin .rem .u8 (.v .u8 1) (.lit 20)
def othQ : SE := .bin .rem .u8 (.v .u8 0) (.lit 6)
def othMet (k q : Int) : Met := ⟨[], [], [(othK, k), (othQ, q), (othQ, q)], .c (.bool true)⟩
/-- one way of WholeOther -/
def othWay (k q : Int) : Prop := metOf (run (XP [(othK, [k]), (othQ, [q])]) 90 8 othArgs 0) [] [] [] [] = some (othMet k q)
end Go.Proofs.YtgeankpiediebaaGreat
end
