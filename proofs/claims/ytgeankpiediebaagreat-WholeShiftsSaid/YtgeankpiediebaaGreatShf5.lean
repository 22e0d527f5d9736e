/-
  WholeShifts, run by some of its ways.
-/
import Derived.Test.YtgeankpiediebaaGreatShfB
noncomputable section
namespace Go.Proofs.YtgeankpiediebaaGreat
open Go.Fx
set_option maxRecDepth 100000
theorem sf_15 : [sfRun .shr .im (sfDs .shr .im .n .z), sfRun .shr .im (sfDs .shr .im .n .o), sfRun .shr .im (sfDs .shr .im .n .m)] = [some (sfMet .shr .im .n .z), some (sfMet .shr .im .n .o), some (sfMet .shr .im .n .m)] := by kernel_rfl
theorem sf_16 : [sfRun .shr .reg (sfDs .shr .reg .n .z), sfRun .shr .reg (sfDs .shr .reg .n .o), sfRun .shr .reg (sfDs .shr .reg .n .m)] = [some (sfMet .shr .reg .n .z), some (sfMet .shr .reg .n .o), some (sfMet .shr .reg .n .m)] := by kernel_rfl
theorem sf_17 : [sfRun .shr .one (sfDs .shr .one .n .z), sfRun .shr .by1 (sfDs .shr .by1 .n .z)] = [some (sfMet .shr .one .n .z), some (sfMet .shr .by1 .n .z)] := by kernel_rfl
end Go.Proofs.YtgeankpiediebaaGreat
end
