/-
  WholeShifts, run by some of its ways.
-/
import Derived.Test.YtgeankpiediebaaGreatShfB
noncomputable section
namespace Go.Proofs.YtgeankpiediebaaGreat
open Go.Fx
set_option maxRecDepth 100000
theorem sf_24 : [sfRun .sar .im (sfDs .sar .im .n .z), sfRun .sar .im (sfDs .sar .im .n .o), sfRun .sar .im (sfDs .sar .im .n .m)] = [some (sfMet .sar .im .n .z), some (sfMet .sar .im .n .o), some (sfMet .sar .im .n .m)] := by kernel_rfl
theorem sf_25 : [sfRun .sar .reg (sfDs .sar .reg .n .z), sfRun .sar .reg (sfDs .sar .reg .n .o), sfRun .sar .reg (sfDs .sar .reg .n .m)] = [some (sfMet .sar .reg .n .z), some (sfMet .sar .reg .n .o), some (sfMet .sar .reg .n .m)] := by kernel_rfl
theorem sf_26 : [sfRun .sar .one (sfDs .sar .one .n .z), sfRun .sar .by1 (sfDs .sar .by1 .n .z)] = [some (sfMet .sar .one .n .z), some (sfMet .sar .by1 .n .z)] := by kernel_rfl
end Go.Proofs.YtgeankpiediebaaGreat
end
