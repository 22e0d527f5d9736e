/-
  WholeShifts, run by some of its ways.
-/
import Derived.Test.YtgeankpiediebaaGreatShfB
noncomputable section
namespace Go.Proofs.YtgeankpiediebaaGreat
open Go.Fx
set_option maxRecDepth 100000
theorem sf_27 : [sfRun .rol .im (sfDs .rol .im .h .z), sfRun .rol .im (sfDs .rol .im .h .o), sfRun .rol .im (sfDs .rol .im .h .m)] = [some (sfMet .rol .im .h .z), some (sfMet .rol .im .h .o), some (sfMet .rol .im .h .m)] := by kernel_rfl
theorem sf_28 : [sfRun .rol .reg (sfDs .rol .reg .h .z), sfRun .rol .reg (sfDs .rol .reg .h .o), sfRun .rol .reg (sfDs .rol .reg .h .m)] = [some (sfMet .rol .reg .h .z), some (sfMet .rol .reg .h .o), some (sfMet .rol .reg .h .m)] := by kernel_rfl
theorem sf_29 : [sfRun .rol .one (sfDs .rol .one .h .z), sfRun .rol .by1 (sfDs .rol .by1 .h .z)] = [some (sfMet .rol .one .h .z), some (sfMet .rol .by1 .h .z)] := by kernel_rfl
end Go.Proofs.YtgeankpiediebaaGreat
end
