/-
  WholeShifts, run by some of its ways.
-/
import Derived.Test.YtgeankpiediebaaGreatShfB
noncomputable section
namespace Go.Proofs.YtgeankpiediebaaGreat
open Go.Fx
set_option maxRecDepth 100000
theorem sf_9 : [sfRun .shr .im (sfDs .shr .im .h .z), sfRun .shr .im (sfDs .shr .im .h .o), sfRun .shr .im (sfDs .shr .im .h .m)] = [some (sfMet .shr .im .h .z), some (sfMet .shr .im .h .o), some (sfMet .shr .im .h .m)] := by kernel_rfl
theorem sf_10 : [sfRun .shr .reg (sfDs .shr .reg .h .z), sfRun .shr .reg (sfDs .shr .reg .h .o), sfRun .shr .reg (sfDs .shr .reg .h .m)] = [some (sfMet .shr .reg .h .z), some (sfMet .shr .reg .h .o), some (sfMet .shr .reg .h .m)] := by kernel_rfl
theorem sf_11 : [sfRun .shr .one (sfDs .shr .one .h .z), sfRun .shr .by1 (sfDs .shr .by1 .h .z)] = [some (sfMet .shr .one .h .z), some (sfMet .shr .by1 .h .z)] := by kernel_rfl
end Go.Proofs.YtgeankpiediebaaGreat
end
