/-
  WholeShifts, run by some of its ways.
-/
import Derived.Test.YtgeankpiediebaaGreatShfB
noncomputable section
namespace Go.Proofs.YtgeankpiediebaaGreat
open Go.Fx
set_option maxRecDepth 100000
theorem sf_0 : [sfRun .shl .im (sfDs .shl .im .h .z), sfRun .shl .im (sfDs .shl .im .h .o), sfRun .shl .im (sfDs .shl .im .h .m)] = [some (sfMet .shl .im .h .z), some (sfMet .shl .im .h .o), some (sfMet .shl .im .h .m)] := by kernel_rfl
theorem sf_1 : [sfRun .shl .reg (sfDs .shl .reg .h .z), sfRun .shl .reg (sfDs .shl .reg .h .o), sfRun .shl .reg (sfDs .shl .reg .h .m)] = [some (sfMet .shl .reg .h .z), some (sfMet .shl .reg .h .o), some (sfMet .shl .reg .h .m)] := by kernel_rfl
theorem sf_2 : [sfRun .shl .one (sfDs .shl .one .h .z), sfRun .shl .by1 (sfDs .shl .by1 .h .z)] = [some (sfMet .shl .one .h .z), some (sfMet .shl .by1 .h .z)] := by kernel_rfl
end Go.Proofs.YtgeankpiediebaaGreat
end
