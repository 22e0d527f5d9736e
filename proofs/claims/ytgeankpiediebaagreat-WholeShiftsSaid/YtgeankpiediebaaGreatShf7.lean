/-
  WholeShifts, run by some of its ways.
-/
import Derived.Test.YtgeankpiediebaaGreatShfB
noncomputable section
namespace Go.Proofs.YtgeankpiediebaaGreat
open Go.Fx
set_option maxRecDepth 100000
theorem sf_21 : [sfRun .sar .im (sfDs .sar .im .r .z), sfRun .sar .im (sfDs .sar .im .r .o), sfRun .sar .im (sfDs .sar .im .r .m)] = [some (sfMet .sar .im .r .z), some (sfMet .sar .im .r .o), some (sfMet .sar .im .r .m)] := by kernel_rfl
theorem sf_22 : [sfRun .sar .reg (sfDs .sar .reg .r .z), sfRun .sar .reg (sfDs .sar .reg .r .o), sfRun .sar .reg (sfDs .sar .reg .r .m)] = [some (sfMet .sar .reg .r .z), some (sfMet .sar .reg .r .o), some (sfMet .sar .reg .r .m)] := by kernel_rfl
theorem sf_23 : [sfRun .sar .one (sfDs .sar .one .r .z), sfRun .sar .by1 (sfDs .sar .by1 .r .z)] = [some (sfMet .sar .one .r .z), some (sfMet .sar .by1 .r .z)] := by kernel_rfl
end Go.Proofs.YtgeankpiediebaaGreat
end
