/-
  WholeJumps, run by each of its four ways: whatever the cache.
-/
import Derived.Test.YtgeankpiediebaaGreatKnw
noncomputable section
namespace Go.Proofs.YtgeankpiediebaaGreat
open Go.Fx
set_option maxRecDepth 100000
def jmpEvs : List Ev := [.setI 2 (.bin .rem .u8 (.var 0) (.lit 4)), .setI 3 (.bin .rem .u16 (.var 1) (.lit 5000)), .setI 4 (.conv .i64 (.var 3)), .setI 5 (.bin .add .i64 (.lit 1600) (.var 4)), .setB 6 (.cmp .lss (.var 5) (.lit 1600)), .setB 7 (.cmp .gtr (.var 5) (.lit 7000)),
  .setI 8 (.bin .sub .i64 (.var 5) (.lit 0)), .setB 9 (.cmp .gtr (.lit 14) (.var 8)), .setI 10 (.bin .sub .i64 (.var 5) (.lit 14)), .setB 11 (.cmp .gtr (.lit 8) (.var 10))]
def jmpMet (m : Int) : Met := ⟨jmpEvs, [(6, false), (7, false), (9, false), (11, false)], [(2, m)], .c (.bool true)⟩
theorem jmp0 : metOf (run (XP [(2, [0])]) 90 4 [.c (.ivar .u8 0), .c (.ivar .u16 1)] 2) [false, false, false, false] [] [] [] = some (jmpMet 0) := by kernel_rfl
theorem jmp1 : metOf (run (XP [(2, [1])]) 90 4 [.c (.ivar .u8 0), .c (.ivar .u16 1)] 2) [false, false, false, false] [] [] [] = some (jmpMet 1) := by kernel_rfl
theorem jmp2 : metOf (run (XP [(2, [2])]) 90 4 [.c (.ivar .u8 0), .c (.ivar .u16 1)] 2) [false, false, false, false] [] [] [] = some (jmpMet 2) := by kernel_rfl
theorem jmp3 : metOf (run (XP [(2, [3])]) 90 4 [.c (.ivar .u8 0), .c (.ivar .u16 1)] 2) [false, false, false, false] [] [] [] = some (jmpMet 3) := by kernel_rfl
end Go.Proofs.YtgeankpiediebaaGreat
end
