/-
  WholeShifts, run by some of its ways.
-/
import Derived.Test.YtgeankpiediebaaGreatShfB
noncomputable section
namespace Go.Proofs.YtgeankpiediebaaGreat
open Go.Fx
set_option maxRecDepth 100000
theorem sf_18 : [sfRun .sar .im (sfDs .sar .im .h .z), sfRun .sar .im (sfDs .sar .im .h .o), sfRun .sar .im (sfDs .sar .im .h .m)] = [some (sfMet .sar .im .h .z), some (sfMet .sar .im .h .o), some (sfMet .sar .im .h .m)] := by kernel_rfl
theorem sf_19 : [sfRun .sar .reg (sfDs .sar .reg .h .z), sfRun .sar .reg (sfDs .sar .reg .h .o), sfRun .sar .reg (sfDs .sar .reg .h .m)] = [some (sfMet .sar .reg .h .z), some (sfMet .sar .reg .h .o), some (sfMet .sar .reg .h .m)] := by kernel_rfl
theorem sf_20 : [sfRun .sar .one (sfDs .sar .one .h .z), sfRun .sar .by1 (sfDs .sar .by1 .h .z)] = [some (sfMet .sar .one .h .z), some (sfMet .sar .by1 .h .z)] := by kernel_rfl
end Go.Proofs.YtgeankpiediebaaGreat
end
