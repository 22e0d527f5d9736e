/-
  WholeShifts, run by some of its ways.
-/
import Derived.Test.YtgeankpiediebaaGreatShfB
noncomputable section
namespace Go.Proofs.YtgeankpiediebaaGreat
open Go.Fx
set_option maxRecDepth 100000
theorem sf_36 : [sfRun .ror .im (sfDs .ror .im .h .z), sfRun .ror .im (sfDs .ror .im .h .o), sfRun .ror .im (sfDs .ror .im .h .m)] = [some (sfMet .ror .im .h .z), some (sfMet .ror .im .h .o), some (sfMet .ror .im .h .m)] := by kernel_rfl
theorem sf_37 : [sfRun .ror .reg (sfDs .ror .reg .h .z), sfRun .ror .reg (sfDs .ror .reg .h .o), sfRun .ror .reg (sfDs .ror .reg .h .m)] = [some (sfMet .ror .reg .h .z), some (sfMet .ror .reg .h .o), some (sfMet .ror .reg .h .m)] := by kernel_rfl
end Go.Proofs.YtgeankpiediebaaGreat
end
