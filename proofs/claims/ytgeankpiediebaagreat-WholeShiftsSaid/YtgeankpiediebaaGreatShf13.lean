/-
  WholeShifts, run by some of its ways.
-/
import Derived.Test.YtgeankpiediebaaGreatShfB
noncomputable section
namespace Go.Proofs.YtgeankpiediebaaGreat
open Go.Fx
set_option maxRecDepth 100000
theorem sf_39 : [sfRun .ror .im (sfDs .ror .im .r .z), sfRun .ror .im (sfDs .ror .im .r .o), sfRun .ror .im (sfDs .ror .im .r .m)] = [some (sfMet .ror .im .r .z), some (sfMet .ror .im .r .o), some (sfMet .ror .im .r .m)] := by kernel_rfl
theorem sf_40 : [sfRun .ror .reg (sfDs .ror .reg .r .z), sfRun .ror .reg (sfDs .ror .reg .r .o), sfRun .ror .reg (sfDs .ror .reg .r .m)] = [some (sfMet .ror .reg .r .z), some (sfMet .ror .reg .r .o), some (sfMet .ror .reg .r .m)] := by kernel_rfl
end Go.Proofs.YtgeankpiediebaaGreat
end
