/-
  WholeShifts, run by some of its ways.
-/
import Derived.Test.YtgeankpiediebaaGreatShfB
noncomputable section
namespace Go.Proofs.YtgeankpiediebaaGreat
open Go.Fx
set_option maxRecDepth 100000
theorem sf_33 : [sfRun .rol .im (sfDs .rol .im .n .z), sfRun .rol .im (sfDs .rol .im .n .o), sfRun .rol .im (sfDs .rol .im .n .m)] = [some (sfMet .rol .im .n .z), some (sfMet .rol .im .n .o), some (sfMet .rol .im .n .m)] := by kernel_rfl
theorem sf_34 : [sfRun .rol .reg (sfDs .rol .reg .n .z), sfRun .rol .reg (sfDs .rol .reg .n .o), sfRun .rol .reg (sfDs .rol .reg .n .m)] = [some (sfMet .rol .reg .n .z), some (sfMet .rol .reg .n .o), some (sfMet .rol .reg .n .m)] := by kernel_rfl
theorem sf_35 : [sfRun .rol .one (sfDs .rol .one .n .z), sfRun .rol .by1 (sfDs .rol .by1 .n .z)] = [some (sfMet .rol .one .n .z), some (sfMet .rol .by1 .n .z)] := by kernel_rfl
end Go.Proofs.YtgeankpiediebaaGreat
end
