/-
  WholeShifts, run by some of its ways.
-/
import Derived.Test.YtgeankpiediebaaGreatShfB
noncomputable section
namespace Go.Proofs.YtgeankpiediebaaGreat
open Go.Fx
set_option maxRecDepth 100000
theorem sf_42 : [sfRun .ror .im (sfDs .ror .im .n .z), sfRun .ror .im (sfDs .ror .im .n .o), sfRun .ror .im (sfDs .ror .im .n .m)] = [some (sfMet .ror .im .n .z), some (sfMet .ror .im .n .o), some (sfMet .ror .im .n .m)] := by kernel_rfl
theorem sf_43 : [sfRun .ror .reg (sfDs .ror .reg .n .z), sfRun .ror .reg (sfDs .ror .reg .n .o), sfRun .ror .reg (sfDs .ror .reg .n .m)] = [some (sfMet .ror .reg .n .z), some (sfMet .ror .reg .n .o), some (sfMet .ror .reg .n .m)] := by kernel_rfl
end Go.Proofs.YtgeankpiediebaaGreat
end
