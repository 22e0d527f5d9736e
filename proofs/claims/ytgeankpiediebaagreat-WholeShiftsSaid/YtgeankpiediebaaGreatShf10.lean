/-
  WholeShifts, run by some of its ways.
-/
import Derived.Test.YtgeankpiediebaaGreatShfB
noncomputable section
namespace Go.Proofs.YtgeankpiediebaaGreat
open Go.Fx
set_option maxRecDepth 100000
theorem sf_30 : [sfRun .rol .im (sfDs .rol .im .r .z), sfRun .rol .im (sfDs .rol .im .r .o), sfRun .rol .im (sfDs .rol .im .r .m)] = [some (sfMet .rol .im .r .z), some (sfMet .rol .im .r .o), some (sfMet .rol .im .r .m)] := by kernel_rfl
theorem sf_31 : [sfRun .rol .reg (sfDs .rol .reg .r .z), sfRun .rol .reg (sfDs .rol .reg .r .o), sfRun .rol .reg (sfDs .rol .reg .r .m)] = [some (sfMet .rol .reg .r .z), some (sfMet .rol .reg .r .o), some (sfMet .rol .reg .r .m)] := by kernel_rfl
theorem sf_32 : [sfRun .rol .one (sfDs .rol .one .r .z), sfRun .rol .by1 (sfDs .rol .by1 .r .z)] = [some (sfMet .rol .one .r .z), some (sfMet .rol .by1 .r .z)] := by kernel_rfl
end Go.Proofs.YtgeankpiediebaaGreat
end
