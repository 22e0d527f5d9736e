/-
  WholeShifts, run by some of its ways.
-/
import Derived.Test.YtgeankpiediebaaGreatShfB
noncomputable section
namespace Go.Proofs.YtgeankpiediebaaGreat
open Go.Fx
set_option maxRecDepth 100000
theorem sf_6 : [sfRun .shl .im (sfDs .shl .im .n .z), sfRun .shl .im (sfDs .shl .im .n .o), sfRun .shl .im (sfDs .shl .im .n .m)] = [some (sfMet .shl .im .n .z), some (sfMet .shl .im .n .o), some (sfMet .shl .im .n .m)] := by kernel_rfl
theorem sf_7 : [sfRun .shl .reg (sfDs .shl .reg .n .z), sfRun .shl .reg (sfDs .shl .reg .n .o), sfRun .shl .reg (sfDs .shl .reg .n .m)] = [some (sfMet .shl .reg .n .z), some (sfMet .shl .reg .n .o), some (sfMet .shl .reg .n .m)] := by kernel_rfl
theorem sf_8 : [sfRun .shl .one (sfDs .shl .one .n .z), sfRun .shl .by1 (sfDs .shl .by1 .n .z)] = [some (sfMet .shl .one .n .z), some (sfMet .shl .by1 .n .z)] := by kernel_rfl
end Go.Proofs.YtgeankpiediebaaGreat
end
